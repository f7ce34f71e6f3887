/- DERIVED. slices.CompactFunc over elements of three cells, by equal keys: what it computes, and its code walked. Conditions: those that each lemma names. -/
import Derived.Test.YtkkfkccfnfjbiaaPGrx13
import Derived.Laws.CopyRow
import Derived.Laws.CopyOwn
import Derived.Lib.Overlaps
import Derived.Shelf.RegionOpenPlain
import Derived.WalkKit
import Derived.Deep.LoopGhost
import Derived.Deep.Draws
import Derived.Deep.RegionHeld3
namespace Go.Proofs.Ytkkfkccfnfjbiaa.Ka
open Go Go.RowKit Go.Lib Go.Proofs.Ytkkfkccfnfjbiaa.PGr Go.Proofs.YtkkfkccfnfjbiaaW.PrintWords Go.Proofs.YtkkfkccfnfjbiaaW.PrintLast Go.Proofs.Ytkkfkccfnfjbiaa.Hl Go.Proofs.Ytkkfkccfnfjbiaa.Fv
set_option linter.unusedSimpArgs false
set_option linter.unusedVariables false
def elA (xs : List S37) (j : Nat) : S37 := xs.getD j z37
def ky (xs : List S37) (j : Nat) : List UInt8 := (elA xs j).f0.toList
def keepK (l : List S37) (j : Nat) : Bool := j == 0 || !(ky l j == ky l (j - 1))
def compTo (l : List S37) (m : Nat) : List S37 := ((List.range m).filter (keepK l)).map (elA l)
def compactL (l : List S37) : List S37 := compTo l l.length
theorem compTo_succ (l : List S37) (m : Nat) : compTo l (m + 1) = compTo l m ++ (if keepK l m then [elA l m] else []) := by
  unfold compTo
  rw [List.range_succ, List.filter_append, List.map_append]
  congr 1
  by_cases h : keepK l m <;> simp [h]
theorem range_elA (l : List S37) (m : Nat) (h : m ≤ l.length) : (List.range m).map (elA l) = l.take m := by
  apply List.ext_getElem
  · simp; omega
  · intro i h1 h2
    simp at h1
    simp [elA, List.getD_eq_getElem?_getD, List.getElem?_eq_getElem (show i < l.length by omega)]
theorem compTo_all (l : List S37) (m : Nat) (hm : m ≤ l.length) (h : ∀ j, j < m → keepK l j = true) : compTo l m = l.take m := by
  unfold compTo
  rw [List.filter_eq_self.2 (fun j hj => h j (List.mem_range.1 hj)), range_elA l m hm]
theorem compactL_all (l : List S37) (h : ∀ j, j < l.length → keepK l j = true) : compactL l = l := by
  unfold compactL
  rw [compTo_all l _ (Nat.le_refl _) h, List.take_length]
structure CInv (l : List S37) (m k : Nat) (dk : List S37) : Prop where
  size : dk.length = l.length
  len : (compTo l m).length = k
  lt : k < m
  low : dk.take k = compTo l m
  high : dk.drop k = l.drop k
theorem CInv.start {l : List S37} {k0 : Nat} (hk : k0 ≤ l.length) (hall : ∀ j, j < k0 → keepK l j = true) (hdup : keepK l k0 = false) : CInv l (k0 + 1) k0 l where
  size := rfl
  len := by rw [compTo_succ, hdup, compTo_all l k0 hk hall]; simp; omega
  lt := Nat.lt_succ_self _
  low := by rw [compTo_succ, hdup, compTo_all l k0 hk hall]; simp
  high := rfl
theorem CInv.keep {l dk : List S37} {m k : Nat} (h : CInv l m k dk) (hm : m < l.length) (hk : keepK l m = true) : CInv l (m + 1) (k + 1) (dk.set k (elA l m)) where
  size := by simp [h.size]
  len := by rw [compTo_succ, hk]; simp [h.len]
  lt := by have := h.lt; omega
  low := by
    have h1 := h.lt; have h2 := h.size
    rw [compTo_succ, hk, if_pos rfl, ← h.low, List.take_add_one, List.take_set, List.set_eq_of_length_le (by rw [List.length_take]; omega)]
    congr 1
    rw [List.getElem?_set_self (by omega)]; rfl
  high := by
    rw [List.drop_set_of_lt (by omega), ← List.drop_drop, ← List.drop_drop, h.high]
theorem CInv.skip {l dk : List S37} {m k : Nat} (h : CInv l m k dk) (hk : keepK l m = false) : CInv l (m + 1) k dk where
  size := h.size
  len := by rw [compTo_succ, hk]; simpa using h.len
  lt := by have := h.lt; omega
  low := by rw [compTo_succ, hk]; simpa using h.low
  high := h.high
theorem CInv.at_ {l dk : List S37} {m k : Nat} (h : CInv l m k dk) {j : Nat} (hj : k ≤ j) : elA dk j = elA l j := by
  have h1 : dk[j]? = l[j]? := by
    have := congrArg (fun x => x[j - k]?) h.high
    simpa [List.getElem?_drop, show k + (j - k) = j by omega] using this
  unfold elA
  rw [List.getD_eq_getElem?_getD, List.getD_eq_getElem?_getD, h1]
/-- The row in block g, at a world on the way. -/
structure CSt (w0 w : World) (P0 : Nat → Prop) (g n c : Nat) (wr : World) (xs : List S37) : Prop where
  row : Kd.R k37 37 wr w0.heap.size (fun k_ => P0 k_ ∨ w.heap.size ≤ k_) (.slice (some ⟨g, 0, none⟩) n c) xs
  below : Below w0.heap.size w0 wr
  kept : Kept w wr P0
theorem CSt.later {w0 w : World} {P0 : Nat → Prop} {g n c : Nat} {wr wr' : World} {xs : List S37} (h : CSt w0 w P0 g n c wr xs) (hb : Below wr.heap.size wr wr') : CSt w0 w P0 g n c wr' xs :=
  ⟨Kd.R_below h.row hb, below_step h.below hb, h.kept.below hb⟩
theorem CSt.drew {w0 w : World} {P0 : Nat → Prop} {g n c : Nat} {wr : World} {xs : List S37} (h : CSt w0 w P0 g n c wr xs) : CSt w0 w P0 g n c wr.drew xs := h.later (below_drew (Below.refl _ _))
theorem CSt.drewN {w0 w : World} {P0 : Nat → Prop} {g n c : Nat} {wr : World} {xs : List S37} (h : CSt w0 w P0 g n c wr xs) (m : Nat) : CSt w0 w P0 g n c (wr.drewN m) xs := h.later (pw_below_drewN (Below.refl _ _) m)
theorem CSt.len {w0 w : World} {P0 : Nat → Prop} {g n c : Nat} {wr : World} {xs : List S37} (h : CSt w0 w P0 g n c wr xs) : n = xs.length := (Kd.R_reads' h.row).1
theorem CSt.cells {w0 w : World} {P0 : Nat → Prop} {g n c : Nat} {wr : World} {xs : List S37} (h : CSt w0 w P0 g n c wr xs) (i : Nat) (hi : i < n) :
    (wr.cell? ⟨g, i * 3, none⟩ = some (.string (elA xs i).f0) ∧ wr.cell? ⟨g, i * 3 + 1, none⟩ = some (.string (elA xs i).f1) ∧ wr.cell? ⟨g, i * 3 + 2, none⟩ = some (.bool (elA xs i).f2)) ∧ wr.frozen? ⟨g, i * 3, none⟩ = false ∧ wr.frozen? ⟨g, i * 3 + 1, none⟩ = false ∧ wr.frozen? ⟨g, i * 3 + 2, none⟩ = false := by
  obtain ⟨ce, hcl, hM, hcc, hfr⟩ := Kd.R_elem h.row z37 (i : Int) (by omega) (by omega)
  obtain rfl := k37_openM hM
  exact ⟨⟨hcc 0 _ rfl, hcc 1 _ rfl, hcc 2 _ rfl⟩, hfr 0, hfr 1, hfr 2⟩
theorem CSt.own {w0 w : World} {P0 : Nat → Prop} {g n c : Nat} {wr : World} {xs : List S37} (h : CSt w0 w P0 g n c wr xs) (hn : 0 < n) : w0.heap.size ≤ g ∧ (P0 g ∨ w.heap.size ≤ g) := by
  have hl := h.len
  obtain ⟨go, co, eo, gb, _, _⟩ := Kd.R_form h.row (by omega)
  injection eo with ea _ _
  injection ea with ea
  injection ea with ea
  subst ea
  exact ⟨gb, h.row.1 _ rfl⟩
theorem CSt.put {w0 w : World} {P0 : Nat → Prop} {g n c : Nat} {wr : World} {xs : List S37} (h : CSt w0 w P0 g n c wr xs) (i : Nat) (hi : i < n) (x : S37) :
    CSt w0 w P0 g n c (((wr.setCell ⟨g, i * 3, none⟩ (.string x.f0)).setCell ⟨g, i * 3 + 1, none⟩ (.string x.f1)).setCell ⟨g, i * 3 + 2, none⟩ (.bool x.f2)) (xs.set i x) := by
  obtain ⟨hg, hp⟩ := h.own (by omega)
  obtain ⟨ce, hcl, hM, hcc, hfr⟩ := Kd.R_elem h.row z37 (i : Int) (by omega) (by omega)
  obtain rfl := k37_openM hM
  have HP := (Kd.R_seg h.row (i : Int) (by omega) (by omega) (seg := [.string x.f0, .string x.f1, .bool x.f2]) (j := 0) hcl hcc (show 3 ≤ 3 from by decide) (x' := x) (k37_mkM _ _ _ x) (fun _ hk => hk)).1
  exact ⟨HP, ((h.below.setCell (p := ⟨g, i * 3, none⟩) hg _).setCell (p := ⟨g, i * 3 + 1, none⟩) hg _).setCell (p := ⟨g, i * 3 + 2, none⟩) hg _, ((h.kept.setCell (p := ⟨g, i * 3, none⟩) hp _).setCell (p := ⟨g, i * 3 + 1, none⟩) hp _).setCell (p := ⟨g, i * 3 + 2, none⟩) hp _⟩
/-! rows laid open -/
def cellsP (x : S37) : List Value := [.string x.f0, .string x.f1, .bool x.f2]
def rowP (xs : List S37) : List Value := xs.flatMap cellsP
theorem rowP_len (xs : List S37) : (rowP xs).length = xs.length * 3 := by
  induction xs with
  | nil => rfl
  | cons x t ih => simp only [rowP, List.flatMap_cons, List.length_append, List.length_cons] at *; rw [ih]; simp [cellsP]; omega
theorem rowP_app (a b : List S37) : rowP (a ++ b) = rowP a ++ rowP b := by simp [rowP]
theorem rowP_one (xs : List S37) : ∀ v ∈ rowP xs, v.oneCell' = true := by
  intro v hv
  simp only [rowP, List.mem_flatMap, cellsP, List.mem_cons, List.not_mem_nil, or_false] at hv
  obtain ⟨x, _, rfl | rfl | rfl⟩ := hv <;> rfl
theorem rowP_take : ∀ (xs : List S37) (i : Nat), (rowP xs).take (i * 3) = rowP (xs.take i)
  | [], i => by simp [rowP]
  | x :: t, 0 => by simp [rowP]
  | x :: t, i + 1 => by
    have h := rowP_take t i
    rw [show (i + 1) * 3 = i * 3 + 1 + 1 + 1 by omega]
    simp only [rowP, List.flatMap_cons, cellsP, List.take_succ_cons, List.cons_append, List.nil_append] at *
    rw [h]
theorem rowP_drop : ∀ (xs : List S37) (i : Nat), (rowP xs).drop (i * 3) = rowP (xs.drop i)
  | [], i => by simp [rowP]
  | x :: t, 0 => by simp [rowP]
  | x :: t, i + 1 => by
    have h := rowP_drop t i
    rw [show (i + 1) * 3 = i * 3 + 1 + 1 + 1 by omega]
    simp only [rowP, List.flatMap_cons, cellsP, List.drop_succ_cons, List.cons_append, List.nil_append] at *
    rw [h]
theorem reps_row {R : S37 → List Value → Prop} (hR : ∀ p c, R p c → c = cellsP p) : ∀ (xs : List S37) (cs : List Value), Reps R 3 xs cs → cs = rowP xs
  | [], cs, h => by
    have := h.1
    simp at this
    rw [this]; rfl
  | x :: t, cs, h => by
    have hl := h.1
    have h0 := hR _ _ (h.2 0 x rfl)
    have ht := reps_row hR t (cs.drop 3) ⟨by rw [List.length_drop, hl, List.length_cons]; omega, fun j p hj => by
      have := h.2 (j + 1) p (by simpa using hj)
      rw [List.drop_drop, show 3 + j * 3 = (j + 1) * 3 by omega]
      exact this⟩
    rw [Nat.zero_mul, List.drop_zero] at h0
    rw [← List.take_append_drop 3 cs, h0, ht]
    rfl
theorem row_reps {R : S37 → List Value → Prop} (hR : ∀ p, R p (cellsP p)) (xs : List S37) : Reps R 3 xs (rowP xs) := by
  refine ⟨rowP_len xs, fun j p hj => ?_⟩
  rw [rowP_drop]
  have hlt : j < xs.length := (List.getElem?_eq_some_iff.1 hj).1
  rw [List.drop_eq_getElem_cons hlt, (List.getElem?_eq_some_iff.1 hj).2]
  show R p ((cellsP p ++ rowP (xs.drop (j + 1))).take 3)
  exact hR p
/-- An own row of parts, laid open. -/
theorem R_cells {w : World} {base : Nat} {ok : Nat → Prop} {S : Value} {xs : List S37} (h : Kd.R k37 37 w base ok S xs) : (S = .slice none 0 0 ∧ xs = []) ∨ ∃ g c cur, S = .slice (some ⟨g, 0, none⟩) xs.length c ∧ ok g ∧ base ≤ g ∧ w.heap[g]? = some (.cells cur 37 (0, 0)) ∧ xs.length ≤ c ∧ c ≤ maxLen ∧ cur.size = c * 3 ∧ cur.toList.take (xs.length * 3) = rowP xs := by
  obtain ⟨h0, inner, ⟨h1, h2⟩, hr⟩ := h
  have hi := reps_row (fun p c hp => k37_openM hp) xs inner hr
  rcases h2 with ⟨e, hn⟩ | ⟨g, c, cur, e, hg, hh, hc, hm, hs, ht⟩
  · exact .inl ⟨e, List.eq_nil_of_length_eq_zero hn⟩
  · refine .inr ⟨g, c, cur, e, h0 g (by rw [e]; rfl), hg, hh, hc, hm, hs, ?_⟩
    rw [← hi]; exact ht
theorem cells_R {w : World} {base : Nat} {ok : Nat → Prop} {g c : Nat} {cur : Array Value} {xs : List S37} (hok : ok g) (hg : base ≤ g) (hh : w.heap[g]? = some (.cells cur 37 (0, 0))) (hc : xs.length ≤ c) (hm : c ≤ maxLen) (hs : cur.size = c * 3) (ht : cur.toList.take (xs.length * 3) = rowP xs) : Kd.R k37 37 w base ok (.slice (some ⟨g, 0, none⟩) xs.length c) xs := by
  refine ⟨fun k hk => ?_, rowP xs, ⟨rowP_len xs, .inr ⟨g, c, cur, rfl, hg, hh, hc, hm, hs, ht⟩⟩, row_reps (fun p => k37_mkM _ _ _ p) xs⟩
  have : g = k := by simpa [Value.ownBlock] using hk
  exact this ▸ hok
theorem run_clear_rows (P : Program) (w : World) (t ty elem : TypeId) (z : Value) (g o m mc : Nat) (cur : Array Value) (tt : TypeId)
    (hu : P.underlying t = some (.slice elem)) (hz : ∀ w, (Go.zeroValue elem).run P w = .ok z w) (hm : m ≠ 0)
    (hg : w.heap[g]? = some (.cells cur tt (0, 0))) (hfit : o + (Builtin.zeroCells z.cells m).size ≤ cur.size) (h1 : ∀ v ∈ (Builtin.zeroCells z.cells m).toList, v.oneCell' = true) :
    (Builtin.clear_ #[t] ty #[.slice (some ⟨g, o, none⟩) m mc]).run P w =
      .ok (.tuple #[]) (w.setRow g (cur.toList.take o ++ (Builtin.zeroCells z.cells m).toList ++ cur.toList.drop (o + (Builtin.zeroCells z.cells m).size)).toArray) := by
  have hst := run_storeCells_at P g o tt (Builtin.zeroCells z.cells m).toList 0 cur w hg (by simpa using hfit) h1
  obtain ⟨k, rfl⟩ : ∃ k, m = k + 1 := ⟨m - 1, by omega⟩
  simp [Builtin.clear_, run_underlying hu, hz, hst]
theorem zero37 (w : World) : (Go.zeroValue 37).run Try.prog w = .ok (.agg #[(.string ⟨#[]⟩), (.string ⟨#[]⟩), (.bool false)]) w := by
  obtain ⟨i0, hi0, hz0⟩ := Option.map_eq_some_iff.1 info37
  simp only [Prod.mk.injEq] at hz0
  simp [zeroValue, typeInfo, hi0, hz0.1]
theorem zero_size (m : Nat) : (Builtin.zeroCells (Value.agg #[(.string ⟨#[]⟩), (.string ⟨#[]⟩), (.bool false)]).cells m).size = m * 3 := by
  unfold Builtin.zeroCells
  rw [Array.size_map, Array.size_range]
  rfl
theorem zero_one (m : Nat) : ∀ v ∈ (Builtin.zeroCells (Value.agg #[(.string ⟨#[]⟩), (.string ⟨#[]⟩), (.bool false)]).cells m).toList, v.oneCell' = true := by
  intro v hv
  unfold Builtin.zeroCells at hv
  rw [Array.toList_map, List.mem_map] at hv
  obtain ⟨i, _, rfl⟩ := hv
  show ((#[(.string ⟨#[]⟩), (.string ⟨#[]⟩), (.bool false)] : Array Value)[i % 3]!).oneCell' = true
  rcases (show i % 3 = 0 ∨ i % 3 = 1 ∨ i % 3 = 2 by omega) with e | e | e <;> (rw [e]; rfl)
theorem CSt.open_ {w0 w : World} {P0 : Nat → Prop} {g n c : Nat} {wr : World} {xs : List S37} (h : CSt w0 w P0 g n c wr xs) : ∃ cur, wr.heap[g]? = some (.cells cur 37 (0, 0)) ∧ (P0 g ∨ w.heap.size ≤ g) ∧ w0.heap.size ≤ g ∧ n ≤ c ∧ c ≤ maxLen ∧ cur.size = c * 3 ∧ cur.toList.take (n * 3) = rowP xs := by
  rcases R_cells h.row with ⟨e, _⟩ | ⟨g', c', cur, e, ho, hg, hh, hc, hm, hs, ht⟩
  · cases e
  · injection e with ea en ec
    injection ea with ea
    injection ea with ea
    subst ea; subst ec
    have hn := h.len
    subst hn
    exact ⟨cur, hh, ho, hg, hc, hm, hs, ht⟩
theorem CSt.clear_ {w0 w : World} {P0 : Nat → Prop} {g n c : Nat} {wr : World} {xs : List S37} (h : CSt w0 w P0 g n c wr xs) (k : Nat) (hk : k < n) :
    ∃ wr', (∀ ty mc, (Builtin.clear_ #[25] ty #[.slice (some ⟨g, k * 3, none⟩) (n - k) mc]).run Try.prog wr = .ok (.tuple #[]) wr') ∧ Below w0.heap.size w0 wr' ∧ Kept w wr' P0 ∧ Kd.R k37 37 wr' w0.heap.size (fun k_ => P0 k_ ∨ w.heap.size ≤ k_) (.slice (some ⟨g, 0, none⟩) k c) (xs.take k) := by
  obtain ⟨cur, hh, ho, hg, hc, hm, hs, ht⟩ := h.open_
  have hl := h.len
  have hz : ((Builtin.zeroCells (Value.agg #[(.string ⟨#[]⟩), (.string ⟨#[]⟩), (.bool false)]).cells (n - k))).size = (n - k) * 3 := zero_size _
  have hfit : k * 3 + (n - k) * 3 ≤ cur.size := by rw [hs]; omega
  have hcl := fun ty mc => run_clear_rows Try.prog wr 25 ty 37 _ g (k * 3) (n - k) mc cur 37 Try.underlying25 zero37 (by omega) hh (by rw [hz]; exact hfit) (zero_one _)
  refine ⟨_, hcl, below_setRow h.below hg _, ?_, ?_⟩
  · refine ⟨by have := h.kept.1; simpa [World.setRow] using this, fun i hi hn => ?_⟩
    rw [setRow_other _ _ _ _ (by rintro rfl; rcases ho with ho | ho; exact hn ho; omega)]
    exact h.kept.2 i hi hn
  · have hlk : (xs.take k).length = k := by rw [List.length_take]; omega
    obtain ⟨cur2, hc2⟩ : ∃ cur2, cur2 = (cur.toList.take (k * 3) ++ (Builtin.zeroCells (Value.agg #[(.string ⟨#[]⟩), (.string ⟨#[]⟩), (.bool false)]).cells (n - k)).toList ++ cur.toList.drop (k * 3 + (Builtin.zeroCells (Value.agg #[(.string ⟨#[]⟩), (.string ⟨#[]⟩), (.bool false)]).cells (n - k)).size)).toArray := ⟨_, rfl⟩
    rw [← hc2]
    have hs2 : cur2.size = c * 3 := by
      rw [hc2, List.size_toArray, List.length_append, List.length_append, List.length_take, List.length_drop, Array.length_toList, Array.length_toList, hz, hs]; omega
    have ht2 : cur2.toList.take (k * 3) = rowP (xs.take k) := by
      rw [hc2, List.toList_toArray, List.append_assoc, List.take_append_of_le_length (by rw [List.length_take, Array.length_toList, hs]; omega), List.take_take, Nat.min_self, ← rowP_take, ← ht, List.take_take, Nat.min_eq_left (by omega)]
    have hR := cells_R (ok := fun k_ => P0 k_ ∨ w.heap.size ≤ k_) (base := w0.heap.size) (xs := xs.take k) (c := c) ho hg (setRow_heap wr g cur cur2 37 (0, 0) hh) (by rw [hlk]; omega) hm hs2 (by rw [hlk]; exact ht2)
    rw [hlk] at hR
    exact hR
end Go.Proofs.Ytkkfkccfnfjbiaa.Ka
