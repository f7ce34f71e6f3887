/- DERIVED. slices.CompactFunc over elements of three cells, by equal keys: what it computes, and its code walked. Conditions: those that each lemma names. DERIVED. slices.CompactFunc at outbox.Latest's second closure: its code walked. Conditions: those that each lemma names. DERIVED. slices.SortStableFunc of fewer than twenty intents, and outbox.Latest of so many: the code walked. Conditions: those that each lemma names. -/
import Derived.Test.YtdaikljbljcagaaPAllx10
import Derived.Laws.CopyRow
import Derived.Laws.CopyOwn
import Derived.Lib.Overlaps
import Derived.Shelf.RegionOpenPlain
import Derived.WalkKit
import Derived.Deep.LoopGhost
import Derived.Deep.Draws
import Derived.Deep.RegionHeld3
import Derived.Test.YtdaikljbljcagaaPAllx2
import Derived.Test.YtdaikljbljcagaaPAllx5
import Derived.Test.YtdaikljbljcagaaMj
import Derived.Test.YtdaikljbljcagaaWNEv
namespace Go.Proofs.Ytdaikljbljcagaa.Na
open Go Go.RowKit Go.Lib Go.Proofs.Ytdaikljbljcagaa.PAll Go.Proofs.YtdaikljbljcagaaW.PrintWords Go.Proofs.YtdaikljbljcagaaW.PrintLast Go.Proofs.Ytdaikljbljcagaa.Hl Go.Proofs.Ytdaikljbljcagaa.Fv
set_option linter.unusedSimpArgs false
set_option linter.unusedVariables false
def elA (xs : List S29) (j : Nat) : S29 := xs.getD j z29
def ky (xs : List S29) (j : Nat) : List UInt8 := (elA xs j).f0.toList
def keepK (l : List S29) (j : Nat) : Bool := j == 0 || !(ky l j == ky l (j - 1))
def compTo (l : List S29) (m : Nat) : List S29 := ((List.range m).filter (keepK l)).map (elA l)
def compactL (l : List S29) : List S29 := compTo l l.length
theorem compTo_succ (l : List S29) (m : Nat) : compTo l (m + 1) = compTo l m ++ (if keepK l m then [elA l m] else []) := by
  unfold compTo
  rw [List.range_succ, List.filter_append, List.map_append]
  congr 1
  by_cases h : keepK l m <;> simp [h]
theorem range_elA (l : List S29) (m : Nat) (h : m ≤ l.length) : (List.range m).map (elA l) = l.take m := by
  apply List.ext_getElem
  · simp; omega
  · intro i h1 h2
    simp at h1
    simp [elA, List.getD_eq_getElem?_getD, List.getElem?_eq_getElem (show i < l.length by omega)]
theorem compTo_all (l : List S29) (m : Nat) (hm : m ≤ l.length) (h : ∀ j, j < m → keepK l j = true) : compTo l m = l.take m := by
  unfold compTo
  rw [List.filter_eq_self.2 (fun j hj => h j (List.mem_range.1 hj)), range_elA l m hm]
theorem compactL_all (l : List S29) (h : ∀ j, j < l.length → keepK l j = true) : compactL l = l := by
  unfold compactL
  rw [compTo_all l _ (Nat.le_refl _) h, List.take_length]
structure CInv (l : List S29) (m k : Nat) (dk : List S29) : Prop where
  size : dk.length = l.length
  len : (compTo l m).length = k
  lt : k < m
  low : dk.take k = compTo l m
  high : dk.drop k = l.drop k
theorem CInv.start {l : List S29} {k0 : Nat} (hk : k0 ≤ l.length) (hall : ∀ j, j < k0 → keepK l j = true) (hdup : keepK l k0 = false) : CInv l (k0 + 1) k0 l where
  size := rfl
  len := by rw [compTo_succ, hdup, compTo_all l k0 hk hall]; simp; omega
  lt := Nat.lt_succ_self _
  low := by rw [compTo_succ, hdup, compTo_all l k0 hk hall]; simp
  high := rfl
theorem CInv.keep {l dk : List S29} {m k : Nat} (h : CInv l m k dk) (hm : m < l.length) (hk : keepK l m = true) : CInv l (m + 1) (k + 1) (dk.set k (elA l m)) where
  size := by simp [h.size]
  len := by rw [compTo_succ, hk]; simp [h.len]
  lt := by have := h.lt; omega
  low := by
    have h1 := h.lt; have h2 := h.size
    rw [compTo_succ, hk, if_pos rfl, ← h.low, List.take_add_one, List.take_set, List.set_eq_of_length_le (by rw [List.length_take]; omega)]
    congr 1
    rw [List.getElem?_set_self (by omega)]; rfl
  high := by
    rw [List.drop_set_of_lt (by omega), ← List.drop_drop, ← List.drop_drop, h.high]
theorem CInv.skip {l dk : List S29} {m k : Nat} (h : CInv l m k dk) (hk : keepK l m = false) : CInv l (m + 1) k dk where
  size := h.size
  len := by rw [compTo_succ, hk]; simpa using h.len
  lt := by have := h.lt; omega
  low := by rw [compTo_succ, hk]; simpa using h.low
  high := h.high
theorem CInv.at_ {l dk : List S29} {m k : Nat} (h : CInv l m k dk) {j : Nat} (hj : k ≤ j) : elA dk j = elA l j := by
  have h1 : dk[j]? = l[j]? := by
    have := congrArg (fun x => x[j - k]?) h.high
    simpa [List.getElem?_drop, show k + (j - k) = j by omega] using this
  unfold elA
  rw [List.getD_eq_getElem?_getD, List.getD_eq_getElem?_getD, h1]
/-- The row in block g, at a world on the way. -/
structure CSt (w0 w : World) (P0 : Nat → Prop) (g n c : Nat) (wr : World) (xs : List S29) : Prop where
  row : Kd.R k29 29 wr w0.heap.size (fun k_ => P0 k_ ∨ w.heap.size ≤ k_) (.slice (some ⟨g, 0, none⟩) n c) xs
  below : Below w0.heap.size w0 wr
  kept : Kept w wr P0
theorem CSt.later {w0 w : World} {P0 : Nat → Prop} {g n c : Nat} {wr wr' : World} {xs : List S29} (h : CSt w0 w P0 g n c wr xs) (hb : Below wr.heap.size wr wr') : CSt w0 w P0 g n c wr' xs :=
  ⟨Kd.R_below h.row hb, below_step h.below hb, h.kept.below hb⟩
theorem CSt.drew {w0 w : World} {P0 : Nat → Prop} {g n c : Nat} {wr : World} {xs : List S29} (h : CSt w0 w P0 g n c wr xs) : CSt w0 w P0 g n c wr.drew xs := h.later (below_drew (Below.refl _ _))
theorem CSt.drewN {w0 w : World} {P0 : Nat → Prop} {g n c : Nat} {wr : World} {xs : List S29} (h : CSt w0 w P0 g n c wr xs) (m : Nat) : CSt w0 w P0 g n c (wr.drewN m) xs := h.later (pw_below_drewN (Below.refl _ _) m)
theorem CSt.len {w0 w : World} {P0 : Nat → Prop} {g n c : Nat} {wr : World} {xs : List S29} (h : CSt w0 w P0 g n c wr xs) : n = xs.length := (Kd.R_reads' h.row).1
theorem CSt.cells {w0 w : World} {P0 : Nat → Prop} {g n c : Nat} {wr : World} {xs : List S29} (h : CSt w0 w P0 g n c wr xs) (i : Nat) (hi : i < n) :
    (wr.cell? ⟨g, i * 3, none⟩ = some (.string (elA xs i).f0) ∧ wr.cell? ⟨g, i * 3 + 1, none⟩ = some (.int .i64 (elA xs i).f1) ∧ wr.cell? ⟨g, i * 3 + 2, none⟩ = some (.bool (elA xs i).f2)) ∧ wr.frozen? ⟨g, i * 3, none⟩ = false ∧ wr.frozen? ⟨g, i * 3 + 1, none⟩ = false ∧ wr.frozen? ⟨g, i * 3 + 2, none⟩ = false := by
  obtain ⟨ce, hcl, hM, hcc, hfr⟩ := Kd.R_elem h.row z29 (i : Int) (by omega) (by omega)
  obtain rfl := k29_openM hM
  exact ⟨⟨hcc 0 _ rfl, hcc 1 _ rfl, hcc 2 _ rfl⟩, hfr 0, hfr 1, hfr 2⟩
theorem CSt.own {w0 w : World} {P0 : Nat → Prop} {g n c : Nat} {wr : World} {xs : List S29} (h : CSt w0 w P0 g n c wr xs) (hn : 0 < n) : w0.heap.size ≤ g ∧ (P0 g ∨ w.heap.size ≤ g) := by
  have hl := h.len
  obtain ⟨go, co, eo, gb, _, _⟩ := Kd.R_form h.row (by omega)
  injection eo with ea _ _
  injection ea with ea
  injection ea with ea
  subst ea
  exact ⟨gb, h.row.1 _ rfl⟩
theorem CSt.put {w0 w : World} {P0 : Nat → Prop} {g n c : Nat} {wr : World} {xs : List S29} (h : CSt w0 w P0 g n c wr xs) (i : Nat) (hi : i < n) (x : S29) :
    CSt w0 w P0 g n c (((wr.setCell ⟨g, i * 3, none⟩ (.string x.f0)).setCell ⟨g, i * 3 + 1, none⟩ (.int .i64 x.f1)).setCell ⟨g, i * 3 + 2, none⟩ (.bool x.f2)) (xs.set i x) := by
  obtain ⟨hg, hp⟩ := h.own (by omega)
  obtain ⟨ce, hcl, hM, hcc, hfr⟩ := Kd.R_elem h.row z29 (i : Int) (by omega) (by omega)
  obtain rfl := k29_openM hM
  have HP := (Kd.R_seg h.row (i : Int) (by omega) (by omega) (seg := [.string x.f0, .int .i64 x.f1, .bool x.f2]) (j := 0) hcl hcc (show 3 ≤ 3 from by decide) (x' := x) (k29_mkM _ _ _ x) (fun _ hk => hk)).1
  exact ⟨HP, ((h.below.setCell (p := ⟨g, i * 3, none⟩) hg _).setCell (p := ⟨g, i * 3 + 1, none⟩) hg _).setCell (p := ⟨g, i * 3 + 2, none⟩) hg _, ((h.kept.setCell (p := ⟨g, i * 3, none⟩) hp _).setCell (p := ⟨g, i * 3 + 1, none⟩) hp _).setCell (p := ⟨g, i * 3 + 2, none⟩) hp _⟩
/-! rows laid open -/
def cellsP (x : S29) : List Value := [.string x.f0, .int .i64 x.f1, .bool x.f2]
def rowP (xs : List S29) : List Value := xs.flatMap cellsP
theorem rowP_len (xs : List S29) : (rowP xs).length = xs.length * 3 := by
  induction xs with
  | nil => rfl
  | cons x t ih => simp only [rowP, List.flatMap_cons, List.length_append, List.length_cons] at *; rw [ih]; simp [cellsP]; omega
theorem rowP_take : ∀ (xs : List S29) (i : Nat), (rowP xs).take (i * 3) = rowP (xs.take i)
  | [], i => by simp [rowP]
  | x :: t, 0 => by simp [rowP]
  | x :: t, i + 1 => by
    have h := rowP_take t i
    rw [show (i + 1) * 3 = i * 3 + 1 + 1 + 1 by omega]
    simp only [rowP, List.flatMap_cons, cellsP, List.take_succ_cons, List.cons_append, List.nil_append] at *
    rw [h]
theorem rowP_drop : ∀ (xs : List S29) (i : Nat), (rowP xs).drop (i * 3) = rowP (xs.drop i)
  | [], i => by simp [rowP]
  | x :: t, 0 => by simp [rowP]
  | x :: t, i + 1 => by
    have h := rowP_drop t i
    rw [show (i + 1) * 3 = i * 3 + 1 + 1 + 1 by omega]
    simp only [rowP, List.flatMap_cons, cellsP, List.drop_succ_cons, List.cons_append, List.nil_append] at *
    rw [h]
theorem reps_row {R : S29 → List Value → Prop} (hR : ∀ p c, R p c → c = cellsP p) : ∀ (xs : List S29) (cs : List Value), Reps R 3 xs cs → cs = rowP xs
  | [], cs, h => by
    have := h.1
    simp at this
    rw [this]; rfl
  | x :: t, cs, h => by
    have hl := h.1
    have h0 := hR _ _ (h.2 0 x rfl)
    have ht := reps_row hR t (cs.drop 3) ⟨by rw [List.length_drop, hl, List.length_cons]; omega, fun j p hj => by
      have := h.2 (j + 1) p (by simpa using hj)
      rw [List.drop_drop, show 3 + j * 3 = (j + 1) * 3 by omega]
      exact this⟩
    rw [Nat.zero_mul, List.drop_zero] at h0
    rw [← List.take_append_drop 3 cs, h0, ht]
    rfl
theorem row_reps {R : S29 → List Value → Prop} (hR : ∀ p, R p (cellsP p)) (xs : List S29) : Reps R 3 xs (rowP xs) := by
  refine ⟨rowP_len xs, fun j p hj => ?_⟩
  rw [rowP_drop]
  have hlt : j < xs.length := (List.getElem?_eq_some_iff.1 hj).1
  rw [List.drop_eq_getElem_cons hlt, (List.getElem?_eq_some_iff.1 hj).2]
  show R p ((cellsP p ++ rowP (xs.drop (j + 1))).take 3)
  exact hR p
/-- An own row of parts, laid open. -/
theorem R_cells {w : World} {base : Nat} {ok : Nat → Prop} {S : Value} {xs : List S29} (h : Kd.R k29 29 w base ok S xs) : (S = .slice none 0 0 ∧ xs = []) ∨ ∃ g c cur, S = .slice (some ⟨g, 0, none⟩) xs.length c ∧ ok g ∧ base ≤ g ∧ w.heap[g]? = some (.cells cur 29 (0, 0)) ∧ xs.length ≤ c ∧ c ≤ maxLen ∧ cur.size = c * 3 ∧ cur.toList.take (xs.length * 3) = rowP xs := by
  obtain ⟨h0, inner, ⟨h1, h2⟩, hr⟩ := h
  have hi := reps_row (fun p c hp => k29_openM hp) xs inner hr
  rcases h2 with ⟨e, hn⟩ | ⟨g, c, cur, e, hg, hh, hc, hm, hs, ht⟩
  · exact .inl ⟨e, List.eq_nil_of_length_eq_zero hn⟩
  · refine .inr ⟨g, c, cur, e, h0 g (by rw [e]; rfl), hg, hh, hc, hm, hs, ?_⟩
    rw [← hi]; exact ht
theorem cells_R {w : World} {base : Nat} {ok : Nat → Prop} {g c : Nat} {cur : Array Value} {xs : List S29} (hok : ok g) (hg : base ≤ g) (hh : w.heap[g]? = some (.cells cur 29 (0, 0))) (hc : xs.length ≤ c) (hm : c ≤ maxLen) (hs : cur.size = c * 3) (ht : cur.toList.take (xs.length * 3) = rowP xs) : Kd.R k29 29 w base ok (.slice (some ⟨g, 0, none⟩) xs.length c) xs := by
  refine ⟨fun k hk => ?_, rowP xs, ⟨rowP_len xs, .inr ⟨g, c, cur, rfl, hg, hh, hc, hm, hs, ht⟩⟩, row_reps (fun p => k29_mkM _ _ _ p) xs⟩
  have : g = k := by simpa [Value.ownBlock] using hk
  exact this ▸ hok
theorem run_clear_rows (P : Program) (w : World) (t ty elem : TypeId) (z : Value) (g o m mc : Nat) (cur : Array Value) (tt : TypeId)
    (hu : P.underlying t = some (.slice elem)) (hz : ∀ w, (Go.zeroValue elem).run P w = .ok z w) (hm : m ≠ 0)
    (hg : w.heap[g]? = some (.cells cur tt (0, 0))) (hfit : o + (Builtin.zeroCells z.cells m).size ≤ cur.size) (h1 : ∀ v ∈ (Builtin.zeroCells z.cells m).toList, v.oneCell' = true) :
    (Builtin.clear_ #[t] ty #[.slice (some ⟨g, o, none⟩) m mc]).run P w =
      .ok (.tuple #[]) (w.setRow g (cur.toList.take o ++ (Builtin.zeroCells z.cells m).toList ++ cur.toList.drop (o + (Builtin.zeroCells z.cells m).size)).toArray) := by
  have hst := run_storeCells_at P g o tt (Builtin.zeroCells z.cells m).toList 0 cur w hg (by simpa using hfit) h1
  obtain ⟨k, rfl⟩ : ∃ k, m = k + 1 := ⟨m - 1, by omega⟩
  simp [Builtin.clear_, run_underlying hu, hz, hst]
theorem zero29 (w : World) : (Go.zeroValue 29).run Try.prog w = .ok (.agg #[(.string ⟨#[]⟩), (.int .i64 0), (.bool false)]) w := by
  obtain ⟨i0, hi0, hz0⟩ := Option.map_eq_some_iff.1 info29
  simp only [Prod.mk.injEq] at hz0
  simp [zeroValue, typeInfo, hi0, hz0.1]
theorem zero_size (m : Nat) : (Builtin.zeroCells (Value.agg #[(.string ⟨#[]⟩), (.int .i64 0), (.bool false)]).cells m).size = m * 3 := by
  unfold Builtin.zeroCells
  rw [Array.size_map, Array.size_range]
  rfl
theorem zero_one (m : Nat) : ∀ v ∈ (Builtin.zeroCells (Value.agg #[(.string ⟨#[]⟩), (.int .i64 0), (.bool false)]).cells m).toList, v.oneCell' = true := by
  intro v hv
  unfold Builtin.zeroCells at hv
  rw [Array.toList_map, List.mem_map] at hv
  obtain ⟨i, _, rfl⟩ := hv
  show ((#[(.string ⟨#[]⟩), (.int .i64 0), (.bool false)] : Array Value)[i % 3]!).oneCell' = true
  rcases (show i % 3 = 0 ∨ i % 3 = 1 ∨ i % 3 = 2 by omega) with e | e | e <;> (rw [e]; rfl)
theorem CSt.open_ {w0 w : World} {P0 : Nat → Prop} {g n c : Nat} {wr : World} {xs : List S29} (h : CSt w0 w P0 g n c wr xs) : ∃ cur, wr.heap[g]? = some (.cells cur 29 (0, 0)) ∧ (P0 g ∨ w.heap.size ≤ g) ∧ w0.heap.size ≤ g ∧ n ≤ c ∧ c ≤ maxLen ∧ cur.size = c * 3 ∧ cur.toList.take (n * 3) = rowP xs := by
  rcases R_cells h.row with ⟨e, _⟩ | ⟨g', c', cur, e, ho, hg, hh, hc, hm, hs, ht⟩
  · cases e
  · injection e with ea en ec
    injection ea with ea
    injection ea with ea
    subst ea; subst ec
    have hn := h.len
    subst hn
    exact ⟨cur, hh, ho, hg, hc, hm, hs, ht⟩
theorem CSt.clear_ {w0 w : World} {P0 : Nat → Prop} {g n c : Nat} {wr : World} {xs : List S29} (h : CSt w0 w P0 g n c wr xs) (k : Nat) (hk : k < n) :
    ∃ wr', (∀ ty mc, (Builtin.clear_ #[22] ty #[.slice (some ⟨g, k * 3, none⟩) (n - k) mc]).run Try.prog wr = .ok (.tuple #[]) wr') ∧ Below w0.heap.size w0 wr' ∧ Kept w wr' P0 ∧ Kd.R k29 29 wr' w0.heap.size (fun k_ => P0 k_ ∨ w.heap.size ≤ k_) (.slice (some ⟨g, 0, none⟩) k c) (xs.take k) := by
  obtain ⟨cur, hh, ho, hg, hc, hm, hs, ht⟩ := h.open_
  have hl := h.len
  have hz : ((Builtin.zeroCells (Value.agg #[(.string ⟨#[]⟩), (.int .i64 0), (.bool false)]).cells (n - k))).size = (n - k) * 3 := zero_size _
  have hfit : k * 3 + (n - k) * 3 ≤ cur.size := by rw [hs]; omega
  have hcl := fun ty mc => run_clear_rows Try.prog wr 22 ty 29 _ g (k * 3) (n - k) mc cur 29 Try.underlying22 zero29 (by omega) hh (by rw [hz]; exact hfit) (zero_one _)
  refine ⟨_, hcl, below_setRow h.below hg _, ?_, ?_⟩
  · refine ⟨by have := h.kept.1; simpa [World.setRow] using this, fun i hi hn => ?_⟩
    rw [setRow_other _ _ _ _ (by rintro rfl; rcases ho with ho | ho; exact hn ho; omega)]
    exact h.kept.2 i hi hn
  · have hlk : (xs.take k).length = k := by rw [List.length_take]; omega
    obtain ⟨cur2, hc2⟩ : ∃ cur2, cur2 = (cur.toList.take (k * 3) ++ (Builtin.zeroCells (Value.agg #[(.string ⟨#[]⟩), (.int .i64 0), (.bool false)]).cells (n - k)).toList ++ cur.toList.drop (k * 3 + (Builtin.zeroCells (Value.agg #[(.string ⟨#[]⟩), (.int .i64 0), (.bool false)]).cells (n - k)).size)).toArray := ⟨_, rfl⟩
    rw [← hc2]
    have hs2 : cur2.size = c * 3 := by
      rw [hc2, List.size_toArray, List.length_append, List.length_append, List.length_take, List.length_drop, Array.length_toList, Array.length_toList, hz, hs]; omega
    have ht2 : cur2.toList.take (k * 3) = rowP (xs.take k) := by
      rw [hc2, List.toList_toArray, List.append_assoc, List.take_append_of_le_length (by rw [List.length_take, Array.length_toList, hs]; omega), List.take_take, Nat.min_self, ← rowP_take, ← ht, List.take_take, Nat.min_eq_left (by omega)]
    have hR := cells_R (ok := fun k_ => P0 k_ ∨ w.heap.size ≤ k_) (base := w0.heap.size) (xs := xs.take k) (c := c) ho hg (setRow_heap wr g cur cur2 29 (0, 0) hh) (by rw [hlk]; omega) hm hs2 (by rw [hlk]; exact ht2)
    rw [hlk] at hR
    exact hR
end Go.Proofs.Ytdaikljbljcagaa.Na
namespace Go.Proofs.Ytdaikljbljcagaa.Nb
open Go Go.RowKit Go.Lib Go.Proofs.Ytdaikljbljcagaa.PAll Go.Proofs.YtdaikljbljcagaaW.PrintWords Go.Proofs.YtdaikljbljcagaaW.PrintLast Go.Proofs.Ytdaikljbljcagaa.Hl Go.Proofs.Ytdaikljbljcagaa.Fv Go.Proofs.Ytdaikljbljcagaa.Na
set_option linter.unusedSimpArgs false
set_option linter.unusedVariables false
theorem keepS {W : World} {g i p : Nat} {x y : S29} (h : W.cell? ⟨g, i, none⟩ = some (.string x.f0) ∧ W.cell? ⟨g, i + 1, none⟩ = some (.int .i64 x.f1) ∧ W.cell? ⟨g, i + 2, none⟩ = some (.bool x.f2)) (h2 : W.cell? ⟨g, p, none⟩ = some (.string y.f0) ∧ W.cell? ⟨g, p + 1, none⟩ = some (.int .i64 y.f1) ∧ W.cell? ⟨g, p + 2, none⟩ = some (.bool y.f2)) :
    W.cell? ⟨g, i, none⟩ = some (.string x.f0) ∧ W.cell? ⟨g, i + 1, none⟩ = some (.int .i64 x.f1) ∧ W.cell? ⟨g, i + 2, none⟩ = some (.bool x.f2) ∧ W.cell? ⟨g, p, none⟩ = some (.string y.f0) ∧ W.cell? ⟨g, p + 1, none⟩ = some (.int .i64 y.f1) ∧ W.cell? ⟨g, p + 2, none⟩ = some (.bool y.f2) := ⟨h.1, h.2.1, h.2.2, h2.1, h2.2.1, h2.2.2⟩
theorem w64p {k : Nat} (h : k < 9223372036854775807) : wrap64 ((k : Int) + 1) = ((k + 1 : Nat) : Int) := by
  rw [show ((k + 1 : Nat) : Int) = (k : Int) + 1 by omega]
  exact Go.IntWalk.wrap64_in ((k : Int) + 1) (by omega)
theorem keep0 {l : List S29} (j : Nat) (hj : j < 1) : keepK l j = true := by
  obtain rfl : j = 0 := by omega
  rfl
set_option maxHeartbeats 4000000 in
set_option maxRecDepth 100000 in
theorem compact_big (P0_ : Nat → Prop) (g n c : Nat) (l : List S29) (w0 w : World) (hS : CSt w0 w P0_ g n c w l) (h2 : ¬ n < 2) (hcm : c ≤ maxLen) (hnc : n ≤ c) :
    Calls Try.prog 35 #[.slice (some ⟨g, 0, none⟩) n c, .func (.func 36) #[] #[]] w fun e w' => ∃ v', e = .returned v' ∧ Kd.R k29 29 w' w0.heap.size (fun k_ => P0_ k_ ∨ w.heap.size ≤ k_) v' (compactL l) ∧ Below w0.heap.size w0 w' ∧ Kept w w' P0_ := by
  have mixed : Try.prog.follows Departure.mixedOrders = true := by kernel_rfl
  have hl := hS.len
  have hmx : maxLen = 9223372036854775807 := by rfl
  have HS := Aside0.mk hS
  have HL := Aside0.mk hl
  have HC := Aside0.mk (show n ≤ 9223372036854775807 by omega)
  have HCC := Aside0.mk hcm
  clear hS hl hmx hcm
  go_enter Try.func35, Try.ntmps35
  go_wp2
  go_loopg [5] n (fun gk v5 wr => ∃ k : Nat, 1 ≤ k ∧ k ≤ n ∧ n - k ≤ gk ∧ v5 = .int .i64 (k : Int) ∧ Aside0 (∀ j, j < k → keepK l j = true) ∧ Aside0 (CSt w0 w P0_ g n c wr l))
  case atStart => exact ⟨1, by omega, by omega, by omega, rfl, ⟨fun j hj => keep0 j (by omega)⟩, ⟨HS.out⟩⟩
  case round =>
    obtain ⟨k, hk1, hk, hg, rfl, HA, HW⟩ := hrel
    by_cases hlt : k < n
    · have hp1 : k - 1 < n := by omega
      have hp3 : ((1 : Int) ≤ (k : Int)) = True := eq_true (by omega)
      have hp4 : ((k : Int) - 1 < (n : Int)) = True := eq_true (by omega)
      have hsub : IntKind.i64.wrap ((k : Int) - 1) = (k : Int) - 1 := by
        have hc := HC.out
        exact (i64_w _).trans (Go.IntWalk.wrap64_in ((k : Int) - 1) (by omega))
      obtain ⟨x, hx⟩ : ∃ x, elA l k = x := ⟨_, rfl⟩
      obtain ⟨y, hy⟩ : ∃ y, elA l (k - 1) = y := ⟨_, rfl⟩
      have X := Aside0.mk hx
      have Y := Aside0.mk hy
      have hB : keepK l k = !(x.f0.toList == y.f0.toList) := by
        unfold keepK ky; rw [hx, hy, show (k == 0) = false from beq_false_of_ne (by omega)]; rfl
      have HB := Aside0.mk hB
      have cx := (HW.out.cells k hlt).1
      have cy := (HW.out.cells (k - 1) hp1).1
      rw [hx] at cx
      rw [hy] at cy
      have CX := Aside0.mk cx
      have CY := Aside0.mk cy
      obtain ⟨x0, x1, x2⟩ := cx
      obtain ⟨y0, y1, y2⟩ := cy
      clear hx hy hB
      go_upto_region 6 with (fail)
      go_cut [28] from 18 to 28 (fun v28 wc => v28 = .bool (x.f0.toList == y.f0.toList) ∧ Aside0 (CSt w0 w P0_ g n c wc l))
      case first =>
        go_region_held3 (fun W : World => W.cell? ⟨g, k * 3, none⟩ = some (.string x.f0) ∧ W.cell? ⟨g, k * 3 + 1, none⟩ = some (.int .i64 x.f1) ∧ W.cell? ⟨g, k * 3 + 2, none⟩ = some (.bool x.f2) ∧ W.cell? ⟨g, (k - 1) * 3, none⟩ = some (.string y.f0) ∧ W.cell? ⟨g, (k - 1) * 3 + 1, none⟩ = some (.int .i64 y.f1) ∧ W.cell? ⟨g, (k - 1) * 3 + 2, none⟩ = some (.bool y.f2)) (first | exact keepS CX.out CY.out | exact keepS CX5.out CY5.out) (first
          | (refine goesV (N := some 28) Try.func36 (by kernel_rfl) rfl #[.agg #[.string x.f0, .int .i64 x.f1, .bool x.f2], .agg #[.string y.f0, .int .i64 y.f1, .bool y.f2]] (by rfl) rfl rfl (by (try simp only [List.map_toArray, List.map_cons, List.map_nil]); rfl) ?_; (with_reducible refine (outbox_Latest_2.calls _ _ _ _ _ _ _ _ rfl).mono ?_); rintro e w5 ⟨rfl, hB⟩; refine ⟨_, rfl, ?_⟩; have HW5 := Aside0.mk ((HW.out.drew).later hB); have CX5 := Aside0.mk ((HW5.out.cells k hlt).1); have CY5 := Aside0.mk ((HW5.out.cells (k - 1) hp1).1); rw [X.out] at CX5; rw [Y.out] at CY5; clear hB))
        all_goals (try go_wp2)
        all_goals go_meet
        all_goals exact ⟨rfl, HW5⟩
      case rest =>
        obtain ⟨rfl, HW2⟩ := hcut
        clear HW x0 x1 x2 y0 y1 y2 CX CY hp1 hp3 hp4 hsub
        by_cases hdup : (x.f0.toList == y.f0.toList) = true
        · rw [hdup]
          have hkp := Aside0.mk (show keepK l k = false by rw [HB.out, hdup]; rfl)
          clear hdup HB X Y x y
          have hkc : ¬ (k = c) := by omega
          have hkn : (k : Int) ≤ (n : Int) := by omega
          have hkc2 : (k : Int) ≤ (c : Int) := by omega
          go_wp2
          go_loopg [5, 7] n (fun gk v5 v7 wr2 => ∃ (kk k2 : Nat) (dk : List S29), v5 = .int .i64 (kk : Int) ∧ v7 = .int .i64 (k2 : Int) ∧ 1 ≤ k2 ∧ k + k2 ≤ n ∧ n - (k + k2) ≤ gk ∧ Aside0 (CSt w0 w P0_ g n c wr2 dk) ∧ Aside0 (CInv l (k + k2) kk dk))
          case atStart => exact ⟨k, 1, l, rfl, rfl, by omega, by omega, by omega, ⟨HW2.out⟩, ⟨CInv.start (by rw [← HL.out]; omega) HA.out hkp.out⟩⟩
          case round =>
            obtain ⟨kk, k2, dk, rfl, rfl, h1, hle, hg2, HW3, HI⟩ := hrel
            have hkk : kk < k + k2 := HI.out.lt
            by_cases hlt2 : k + k2 < n
            · have hpn : k + k2 - 1 < n := by omega
              have hq1 : ((1 : Int) ≤ (k2 : Int)) = True := eq_true (by omega)
              have hq2 : (k2 : Int) < (n : Int) - (k : Int) := by omega
              have hq3 : ((k2 : Int) - 1 < (n : Int) - (k : Int)) = True := eq_true (by omega)
              have hq4 : k2 < n - k := by omega
              have hq5 : ((k2 : Int) < ((n - k : Nat) : Int)) = True := eq_true (by omega)
              have hq6 : ((k2 : Int) - 1 < ((n - k : Nat) : Int)) = True := eq_true (by omega)
              have hsub : IntKind.i64.wrap ((k2 : Int) - 1) = (k2 : Int) - 1 := by
                have hc := HC.out
                exact (i64_w _).trans (Go.IntWalk.wrap64_in ((k2 : Int) - 1) (by omega))
              obtain ⟨x, hx⟩ : ∃ x, elA l (k + k2) = x := ⟨_, rfl⟩
              obtain ⟨y, hy⟩ : ∃ y, elA l (k + k2 - 1) = y := ⟨_, rfl⟩
              have X := Aside0.mk ((HI.out.at_ (by omega)).trans hx)
              have Y := Aside0.mk ((HI.out.at_ (by omega)).trans hy)
              have X2 := Aside0.mk hx
              have hB : keepK l (k + k2) = !(x.f0.toList == y.f0.toList) := by
                unfold keepK ky; rw [hx, hy, show (k + k2 == 0) = false from beq_false_of_ne (by omega)]; rfl
              have HB := Aside0.mk hB
              have cx := (HW3.out.cells (k + k2) hlt2).1
              have cy := (HW3.out.cells (k + k2 - 1) hpn).1
              rw [X.out, Nat.add_mul] at cx
              rw [Y.out, show (k + k2 - 1) * 3 = k * 3 + (k2 - 1) * 3 by omega] at cy
              have CX := Aside0.mk cx
              have CY := Aside0.mk cy
              obtain ⟨x0, x1, x2⟩ := cx
              obtain ⟨y0, y1, y2⟩ := cy
              clear hx hy hB
              go_upto_region 11 with (fail)
              go_cut [49] from 38 to 49 (fun v49 wc => v49 = .bool (!(x.f0.toList == y.f0.toList)) ∧ Aside0 (CSt w0 w P0_ g n c wc dk))
              case first =>
                go_region_held3 (fun W : World => W.cell? ⟨g, k * 3 + k2 * 3, none⟩ = some (.string x.f0) ∧ W.cell? ⟨g, k * 3 + k2 * 3 + 1, none⟩ = some (.int .i64 x.f1) ∧ W.cell? ⟨g, k * 3 + k2 * 3 + 2, none⟩ = some (.bool x.f2) ∧ W.cell? ⟨g, k * 3 + (k2 - 1) * 3, none⟩ = some (.string y.f0) ∧ W.cell? ⟨g, k * 3 + (k2 - 1) * 3 + 1, none⟩ = some (.int .i64 y.f1) ∧ W.cell? ⟨g, k * 3 + (k2 - 1) * 3 + 2, none⟩ = some (.bool y.f2)) (first | exact keepS CX.out CY.out | exact keepS CX5.out CY5.out) (first
                  | (refine goesV (N := some 48) Try.func36 (by kernel_rfl) rfl #[.agg #[.string x.f0, .int .i64 x.f1, .bool x.f2], .agg #[.string y.f0, .int .i64 y.f1, .bool y.f2]] (by rfl) rfl rfl (by (try simp only [List.map_toArray, List.map_cons, List.map_nil]); rfl) ?_; (with_reducible refine (outbox_Latest_2.calls _ _ _ _ _ _ _ _ rfl).mono ?_); rintro e w5 ⟨rfl, hB⟩; refine ⟨_, rfl, ?_⟩; have HW5 := Aside0.mk ((HW3.out.drew).later hB); have CX5 := Aside0.mk ((HW5.out.cells (k + k2) hlt2).1); have CY5 := Aside0.mk ((HW5.out.cells (k + k2 - 1) hpn).1); rw [X.out, Nat.add_mul] at CX5; rw [Y.out, show (k + k2 - 1) * 3 = k * 3 + (k2 - 1) * 3 by omega] at CY5; clear hB))
                all_goals (try go_wp2)
                all_goals go_meet
                all_goals exact ⟨rfl, HW5⟩
              case rest =>
                obtain ⟨rfl, HW5⟩ := hcut
                clear HW3 x0 x1 x2 y0 y1 y2 CX CY hpn hq1 hq3 hq6 hsub
                by_cases hdup2 : (x.f0.toList == y.f0.toList) = true
                · have hkp2 := Aside0.mk (show keepK l (k + k2) = false by rw [HB.out, hdup2]; rfl)
                  rw [hdup2]
                  clear hdup2 HB X Y X2 x y
                  go_wp2
                  go_roundg (n - (k + (k2 + 1)))
                  case measure => omega
                  case rel => exact ⟨kk, k2 + 1, dk, rfl, by rw [w64p (by have hc := HC.out; omega)], by omega, by omega, by omega, ⟨HW5.out⟩, ⟨HI.out.skip hkp2.out⟩⟩
                · replace hdup2 : (x.f0.toList == y.f0.toList) = false := by simpa using hdup2
                  have hkp2 := Aside0.mk (show keepK l (k + k2) = true by rw [HB.out, hdup2]; rfl)
                  have cx := (HW5.out.cells (k + k2) hlt2).1
                  rw [X.out, Nat.add_mul] at cx
                  obtain ⟨x0, x1, x2⟩ := cx
                  have hkn2 : kk < n := by omega
                  obtain ⟨⟨o0, o1, o2⟩, f0, f1, f2⟩ := HW5.out.cells kk hkn2
                  have HP := Aside0.mk (HW5.out.put kk hkn2 x)
                  have HI2 := Aside0.mk (HI.out.keep (by rw [← HL.out]; exact hlt2) hkp2.out)
                  have HI3 := Aside0.mk (show CInv l (k + k2 + 1) (kk + 1) (dk.set kk x) by rw [← X2.out]; exact HI2.out)
                  rw [hdup2]
                  clear hdup2 HB HI2 X Y X2 y HI HW5
                  go_wp2
                  go_roundg (n - (k + (k2 + 1)))
                  case measure => omega
                  case rel => exact ⟨kk + 1, k2 + 1, dk.set kk x, by rw [w64p (by have hc := HC.out; omega)], by rw [w64p (by have hc := HC.out; omega)], by omega, by omega, by omega, ⟨HP.out⟩, ⟨HI3.out⟩⟩
            · have hend : k + k2 = n := by omega
              obtain ⟨wz, hcl, hbz, hkz, hRz⟩ := HW3.out.clear_ kk (by omega)
              have HZ := Aside0.mk (And.intro hbz (And.intro hkz hRz))
              have hkn3 : kk ≤ n := by omega
              have hkc3 : ¬ (kk = c) := by omega
              have hkc4 : kk ≤ c := by omega
              have hkc5 : ((kk : Int) ≤ (n : Int)) = True := eq_true (by omega)
              have hkc6 : ((kk : Int) ≤ (c : Int)) = True := eq_true (by omega)
              have hres := Aside0.mk (show dk.take kk = compactL l by
                have h5 := HI.out.low
                rw [hend, HL.out] at h5
                exact h5)
              clear hbz hkz hRz
              go_wp2
              go_ret
              refine ⟨_, rfl, ?_, HZ.out.1, HZ.out.2.1⟩
              rw [← hres.out]
              exact HZ.out.2.2
        · replace hdup : (x.f0.toList == y.f0.toList) = false := by simpa using hdup
          rw [hdup]
          have hkp := Aside0.mk (show keepK l k = true by rw [HB.out, hdup]; rfl)
          clear hdup HB X Y x y
          go_wp2
          go_roundg (n - (k + 1))
          case measure => omega
          case rel => exact ⟨k + 1, by omega, by omega, Nat.le_refl _, by rw [w64p (by have hc := HC.out; omega)], ⟨fun j hj => by
            by_cases e : j = k
            · rw [e]; exact hkp.out
            · exact HA.out j (by omega)⟩, ⟨HW2.out⟩⟩
    · obtain rfl : k = n := by omega
      have hs := Aside0.mk (compactL_all l (fun j hj => HA.out j (by rw [HL.out]; exact hj)))
      go_wp2
      go_ret
      refine ⟨_, rfl, ?_, HW.out.below, HW.out.kept⟩
      rw [hs.out]
      exact HW.out.row
set_option maxHeartbeats 4000000 in
set_option maxRecDepth 100000 in
theorem compact_small (A : Option Addr) (n c : Nat) (w : World) (h2 : n < 2) :
    Calls Try.prog 35 #[.slice A n c, .func (.func 36) #[] #[]] w fun e w' => e = .returned (.slice A n c) ∧ w' = w := by
  go_enter Try.func35, Try.ntmps35
  go_wp2
  go_ret
  exact ⟨rfl, rfl⟩
/-- slices.CompactFunc by equal keys: the first of each run stays. -/
theorem compact_v (P0_ : Nat → Prop) (u : Value) (l : List S29) (w0 w : World) (hB : Below w0.heap.size w0 w) (ho : Kd.R k29 29 w w0.heap.size P0_ u l) :
    Calls Try.prog 35 #[u, .func (.func 36) #[] #[]] w fun e w' => ∃ v', e = .returned v' ∧ Kd.R k29 29 w' w0.heap.size (fun k_ => P0_ k_ ∨ w.heap.size ≤ k_) v' (compactL l) ∧ Below w0.heap.size w0 w' ∧ Kept w w' P0_ := by
  have ho' : Kd.R k29 29 w w0.heap.size (fun k_ => P0_ k_ ∨ w.heap.size ≤ k_) u l := Kd.R_mono ho (fun k_ hk => .inl hk)
  by_cases h2 : l.length < 2
  · obtain ⟨A, c, rfl⟩ := Kd.R_slice ho'
    refine (compact_small A l.length c w h2).mono ?_
    rintro e w' ⟨rfl, rfl⟩
    refine ⟨_, rfl, ?_, hB, Kept.refl _ _⟩
    rw [compactL_all l (fun j hj => keep0 j (by omega))]
    exact ho'
  · rcases R_cells ho' with ⟨_, e⟩ | ⟨g, c, cur, rfl, _, _, _, hc, hm, _, _⟩
    · rw [e] at h2; simp at h2
    · exact compact_big P0_ g l.length c l w0 w ⟨ho', hB, Kept.refl _ _⟩ h2 hm hc
end Go.Proofs.Ytdaikljbljcagaa.Nb
namespace Go.Proofs.Ytdaikljbljcagaa.Nd
open Go Go.RowKit Go.Lib Go.Proofs.Ytdaikljbljcagaa.PAll Go.Proofs.YtdaikljbljcagaaW.PrintWords Go.Proofs.YtdaikljbljcagaaW.PrintLast Go.Proofs.Ytdaikljbljcagaa.Hl Go.Proofs.Ytdaikljbljcagaa.Fv Go.Proofs.Ytdaikljbljcagaa.Na Go.Proofs.Ytdaikljbljcagaa.Nb Go.Proofs.Ytdaikljbljcagaa.Mf
set_option linter.unusedSimpArgs false
set_option linter.unusedVariables false
theorem slice4 {w : World} {base : Nat} {ok : Nat → Prop} {v : Value} (xs : List S29) (h : Kd.R k29 29 w base ok v xs) : ∃ A c, v = .slice A xs.length c ∧ xs.length ≤ c ∧ Aside0 (Kd.R k29 29 w base ok (.slice A xs.length c) xs) := by
  obtain ⟨A, c, rfl⟩ := Kd.R_slice h
  exact ⟨A, c, rfl, (Kd.R_reads' h).2.1, ⟨h⟩⟩
def Sort_s (k : Nat) (l : List S29) : Option (List S29) := slices_insertionSortCmpFunc_api_Intent_at_outbox_Latest_1.f k l 0 (l.length : Int)
def Latest_s (k : Nat) (l0 : List S29) : Option (List S29) := (slices_Clone_api_Intent_api_Intent.f l0).bind fun a => (slices_Reverse_api_Intent_api_Intent.f k a).bind fun b => (Sort_s k b).bind fun c => some (compactL c)
theorem clone_len {a b : List S29} (h : slices_Clone_api_Intent_api_Intent.f a = some b) : a.length = b.length := by
  unfold slices_Clone_api_Intent_api_Intent.f at h
  rw [Option.bind_some] at h
  split at h
  · obtain rfl := Option.some.inj h; simp
  · cases h
theorem rev_len_l0 : ∀ (k : Nat) (a : List S29) (i j : Int) (b : List S29), slices_Reverse_api_Intent_api_Intent.l0 k a i j = some b → a.length = b.length
  | 0, a, i, j, b, h => by rw [slices_Reverse_api_Intent_api_Intent.l0] at h; cases h
  | k + 1, a, i, j, b, h => by
    rw [slices_Reverse_api_Intent_api_Intent.l0] at h
    repeat' split at h
    all_goals first
      | (have := rev_len_l0 k _ _ _ b h; simpa using this)
      | (obtain rfl := Option.some.inj h; rfl)
      | cases h
theorem rev_len {k : Nat} {a b : List S29} (h : slices_Reverse_api_Intent_api_Intent.f k a = some b) : a.length = b.length := by
  unfold slices_Reverse_api_Intent_api_Intent.f at h
  exact rev_len_l0 _ _ _ _ _ h
set_option maxHeartbeats 16000000 in
set_option maxRecDepth 100000 in
theorem stable_s (k : Nat) (P0_ : Nat → Prop) (A : Option Addr) (c : Nat) (l r : List S29) (w0 w : World) (hB : Below w0.heap.size w0 w) (ho : Kd.R k29 29 w w0.heap.size P0_ (.slice A l.length c) l) (hz : l.length < 20) (h : Sort_s k l = some r) :
    Calls Try.prog 56 #[.slice A l.length c, .int .i64 (l.length : Int), .func (.func 30) #[] #[]] w fun e w' => e = .returned (.tuple #[]) ∧ Kd.R k29 29 w' w0.heap.size (fun k_ => P0_ k_ ∨ w.heap.size ≤ k_) (.slice A l.length c) r ∧ Below w0.heap.size w0 w' ∧ Kept w w' P0_ := by
  have mixed : Try.prog.follows Departure.mixedOrders = true := by kernel_rfl
  have q1 : decide ((20 : Int) ≤ (l.length : Int)) = false := decide_eq_false (by omega)
  have q2 : decide ((20 : Int) < (l.length : Int)) = false := decide_eq_false (by omega)
  have HO := Aside0.mk ho
  have HBs := Aside0.mk hB
  have HF := Aside0.mk h
  have HZ := Aside0.mk hz
  clear hB ho h hz
  go_enter Try.func56, Try.ntmps56
  go_wp2
  go_loopg [7, 8] 1 (fun kq v7 v8 wr => v7 = .int .i64 0 ∧ v8 = .int .i64 20 ∧ wr = w)
  case atStart => exact ⟨rfl, rfl, rfl⟩
  case round =>
    obtain ⟨rfl, rfl, rfl⟩ := hrel
    go_wp2_with (first
          | ((with_reducible refine gate_callee (f := 71) rfl ?_); (try (refine gate_guard (by rfl) ?_; dsimp only)); refine goesL_ (some 27) rfl rfl Try.func71 (by kernel_rfl) rfl #[.slice A l.length c, .int .i64 0, .int .i64 (l.length : Int), .func (.func 30) #[] #[]] rfl (by (try simp only [List.map_toArray, List.map_cons, List.map_nil]); first | done | rfl) ?_; (refine (slices_insertionSortCmpFunc_api_Intent_at_outbox_Latest_1.calls k P0_ (.slice A l.length c) l 0 (l.length : Int) r w0 wr HBs.out HO.out HF.out).mono ?_); rintro e w1 ⟨rfl, hy_, hb_, hk_⟩; refine ⟨_, rfl, ?_⟩; have HY1 := Aside0.mk hy_; have HB1 := Aside0.mk hb_; have HK1 := Aside0.mk hk_; clear hy_ hb_ hk_))
    try simp only [Act.put, sT, sS, sZ]
    go_loopg [6] 1 (fun kq v6 wr2 => v6 = .int .i64 20 ∧ Aside0 (Kd.R k29 29 wr2 w0.heap.size (fun k_ => P0_ k_ ∨ wr.heap.size ≤ k_) (.slice A l.length c) r) ∧ Aside0 (Below w0.heap.size w0 wr2) ∧ Aside0 (Kept wr wr2 P0_))
    case atStart => exact ⟨rfl, HY1, HB1, HK1⟩
    case round =>
      obtain ⟨rfl, HY2, HB2, HK2⟩ := hrel
      go_wp2
      go_end0
      exact ⟨rfl, HY2.out, HB2.out, HK2.out⟩
set_option maxHeartbeats 16000000 in
set_option maxRecDepth 100000 in
theorem sort_s (k : Nat) (P0_ : Nat → Prop) (u : Value) (l r : List S29) (w0 w : World) (hB : Below w0.heap.size w0 w) (ho : Kd.R k29 29 w w0.heap.size P0_ u l) (hz : l.length < 20) (h : Sort_s k l = some r) :
    Calls Try.prog 29 #[u, .func (.func 30) #[] #[]] w fun e w' => e = .returned (.tuple #[]) ∧ Kd.R k29 29 w' w0.heap.size (fun k_ => P0_ k_ ∨ w.heap.size ≤ k_) u r ∧ Below w0.heap.size w0 w' ∧ Kept w w' P0_ := by
  have mixed : Try.prog.follows Departure.mixedOrders = true := by kernel_rfl
  obtain ⟨A, c, rfl⟩ := Kd.R_slice ho
  have HO := Aside0.mk ho
  have HBs := Aside0.mk hB
  have HF := Aside0.mk h
  have HZ := Aside0.mk hz
  clear hB ho h hz
  go_enter Try.func29, Try.ntmps29
  go_wp2_with (first
    | ((with_reducible refine gate_callee (f := 56) rfl ?_); (try (refine gate_guard (by rfl) ?_; dsimp only)); refine goesL_ (some 8) rfl rfl Try.func56 (by kernel_rfl) rfl #[.slice A l.length c, .int .i64 (l.length : Int), .func (.func 30) #[] #[]] rfl (by (try simp only [List.map_toArray, List.map_cons, List.map_nil]); first | done | rfl) ?_; (refine (stable_s k P0_ A c l r w0 w HBs.out HO.out HZ.out HF.out).mono ?_); rintro e w1 ⟨rfl, hy_, hb_, hk_⟩; refine ⟨_, rfl, ?_⟩; have HY1 := Aside0.mk hy_; have HB1 := Aside0.mk hb_; have HK1 := Aside0.mk hk_; clear hy_ hb_ hk_))
  go_end0
  exact ⟨rfl, HY1.out, HB1.out, HK1.out⟩
set_option maxHeartbeats 4000000 in
set_option maxRecDepth 100000 in
theorem latest_s (k : Nat) (A0 : Option Addr) (c0 : Nat) (l0 : List S29) (r : List S29) (w : World) (hr0 : Kd.C k29 w A0 l0.length l0) (hc0 : l0.length ≤ c0) (hz : l0.length < 20) (h : Latest_s k l0 = some r) :
    Calls Try.prog 9 #[.slice A0 l0.length c0] w fun e w' => ∃ v0_ : Value, e = .returned v0_ ∧ Cl k29 29 w' w.heap.size v0_ r ∧ Below w.heap.size w w' := by
  have mixed : Try.prog.follows Departure.mixedOrders = true := by kernel_rfl
  have HR0 := Aside0.mk hr0
  have HC0 := Aside0.mk hc0
  have HB := Aside0.mk (Below.refl w.heap.size w)
  have hz2 := hz
  unfold Latest_s at h
  replace h := Option.bind_eq_some_iff.1 h
  obtain ⟨a, h1, h⟩ := h
  replace h := Option.bind_eq_some_iff.1 h
  obtain ⟨b, h2, h⟩ := h
  replace h := Option.bind_eq_some_iff.1 h
  obtain ⟨c, h3, h⟩ := h
  obtain rfl := Option.some.inj h
  have LB := Aside0.mk (show b.length < 20 by rw [← rev_len h2, ← clone_len h1]; exact hz2)
  have A1 := Aside0.mk h1
  have A2 := Aside0.mk h2
  have A3 := Aside0.mk h3
  clear h hr0 hc0 h1 h2 h3 hz hz2
  go_enter Try.func9, Try.ntmps9
  go_wp2_with (first
    | ((with_reducible refine gate_callee (f := 27) rfl ?_); refine goesL_ (some 5) rfl rfl Try.func27 (by kernel_rfl) rfl #[.slice A0 l0.length c0] rfl (by (try simp only [List.map_toArray, List.map_cons, List.map_nil]); rfl) ?_; (with_reducible refine (slices_Clone_api_Intent_api_Intent.calls _ _ l0 a _ ?side1 ?side2 A1.out).mono ?_); (case side1 => repeat (first | exact HR0.out | (with_reducible refine Kd.C_drewN ?_ _) | (with_reducible refine Kd.C_drew ?_))); (case side2 => exact HC0.out); rintro e w1 ⟨v1, rfl, hy0, hb⟩; refine ⟨_, rfl, ?_⟩; have HO1 := Aside0.mk (Kd.R_lower (base' := w.heap.size) hy0 (by exact below_size (hL HB.out))); have HB1 := Aside0.mk (below_step (hL HB.out) hb); clear hb hy0)
    | ((with_reducible refine gate_callee (f := 28) rfl ?_); refine goesL_ (some 7) rfl rfl Try.func28 (by kernel_rfl) rfl #[v1] rfl (by (try simp only [List.map_toArray, List.map_cons, List.map_nil]); rfl) ?_; (with_reducible refine (slices_Reverse_api_Intent_api_Intent.calls k (fun _ => True) v1 a b w _ ?side1 ?side2 A2.out).mono ?_); (case side1 => exact hL HB1.out); (case side2 => exact rL HO1.out); rintro e w2 ⟨rfl, hy0, hb, hkp⟩; refine ⟨_, rfl, ?_⟩; have HO2 := Aside0.mk (Kd.R_mono (ok' := fun _ => True) hy0 (fun _ _ => trivial)); have HB2 := Aside0.mk hb; clear hb hy0 hkp HO1 HB1)
    | ((with_reducible refine gate_callee (f := 29) rfl ?_); refine goesL_ (some 9) rfl rfl Try.func29 (by kernel_rfl) rfl #[v1, .func (.func 30) #[] #[]] rfl (by (try simp only [List.map_toArray, List.map_cons, List.map_nil]); rfl) ?_; (with_reducible refine (sort_s k (fun _ => True) v1 b c w _ ?side1 ?side2 LB.out A3.out).mono ?_); (case side1 => exact hL HB2.out); (case side2 => exact rL HO2.out); rintro e w3 ⟨rfl, hy0, hb, hkp⟩; refine ⟨_, rfl, ?_⟩; have HO3 := Aside0.mk (Kd.R_mono (ok' := fun _ => True) hy0 (fun _ _ => trivial)); have HB3 := Aside0.mk hb; clear hb hy0 hkp HO2 HB2)
    | ((with_reducible refine gate_callee (f := 35) rfl ?_); refine goesL_ (some 11) rfl rfl Try.func35 (by kernel_rfl) rfl #[v1, .func (.func 36) #[] #[]] rfl (by (try simp only [List.map_toArray, List.map_cons, List.map_nil]); rfl) ?_; (refine (compact_v (fun _ => True) v1 c w _ ?side1 ?side2).mono ?_); (case side1 => exact hL HB3.out); (case side2 => exact rL HO3.out); rintro e w4 ⟨v4, rfl, hy0, hb, hkp⟩; obtain ⟨A, cc, hv, hn, HO4⟩ := slice4 (compactL c) (Kd.R_mono (ok' := fun _ => True) hy0 (fun _ _ => trivial)); subst hv; refine ⟨_, rfl, ?_⟩; have HB4 := Aside0.mk hb; have HN := Aside0.mk hn; clear hb hy0 hkp HO3 HB3 hn)
    | ((with_reducible refine gate_callee (f := 34) rfl ?_); refine goesL_ (some 12) rfl rfl Try.func34 (by kernel_rfl) rfl #[.slice A (compactL c).length cc] rfl (by (try simp only [List.map_toArray, List.map_cons, List.map_nil]); rfl) ?_; (refine (clip29 A _ cc HN.out _).mono ?_); rintro e w5 ⟨rfl, hb⟩; refine ⟨_, rfl, ?_⟩; have HO5 := Aside0.mk (Kd.R_below HO4.out hb); have HB5 := Aside0.mk (below_step HB4.out hb); clear hb))
  go_ret
  exact ⟨_, rfl, cl_of HO5.out, HB5.out⟩
end Go.Proofs.Ytdaikljbljcagaa.Nd
