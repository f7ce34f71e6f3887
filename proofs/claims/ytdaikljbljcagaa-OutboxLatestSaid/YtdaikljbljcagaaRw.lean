/- DERIVED. How what a caller hands in stands in memory, told by the kinds of the print: numbers, bools, strings, slices and structs of them, nested. Conditions: those that each lemma names. -/
import Derived.Test.YtdaikljbljcagaaWWords
import Derived.ChangeArms
import Derived.ChangeOld
import Derived.SizedLaws
import Derived.WideShapes
namespace Go.Proofs.Ytdaikljbljcagaa.Rw
open Go.RowKit Go.Proofs.YtdaikljbljcagaaW.PrintWords

/-- What is read of a type's cells stands as a value of the kind. -/
def Opens {α : Type} (P : Program) (t : TypeId) (d : Kd α) (wf : α → Prop) : Prop :=
  ∀ (H : Type) (enc : TypeId × Value → H) (w : World) (held : Bool) (fuel : Nat) (cs : List Value) (x : DataW H × List MemPlace),
    DataW.trod enc P w 0 (fun _ => true) held fuel t cs = some x → ∃ a, d.K w a cs ∧ wf a

section
variable {P : Program} {t e : TypeId}

theorem opens_int {k : IntKind} (hu : P.underlying t = some (.int k)) : Opens P t (Kd.int k) (fun n => (Lit.int k n).wf = true) := by
  intro H enc w held fuel cs x h
  obtain ⟨n, rfl, _, hw⟩ := DataW.trod_int hu h
  exact ⟨n, rfl, hw⟩

theorem opens_bool (hu : P.underlying t = some .bool) : Opens P t Kd.bool (fun _ => True) := by
  intro H enc w held fuel cs x h
  obtain ⟨n, rfl, _⟩ := DataW.trod_bool hu h
  exact ⟨n, rfl, trivial⟩

theorem opens_string (hu : P.underlying t = some .string) : Opens P t Kd.string (fun s => s.size ≤ maxLen) := by
  intro H enc w held fuel cs x h
  obtain ⟨s, rfl, _, hs⟩ := DataW.trod_string hu h
  exact ⟨s, rfl, hs⟩

theorem list_of {α : Type} {Q : Nat → α → Prop} : ∀ m : Nat, (∀ i, i < m → ∃ y, Q i y) → ∃ ys : List α, ys.length = m ∧ ∀ i y, ys[i]? = some y → Q i y
  | 0, _ => ⟨[], rfl, fun i y h => by simp at h⟩
  | m + 1, h => by
    obtain ⟨ys, hl, hy⟩ := list_of m (fun i hi => h i (by omega))
    obtain ⟨y, hq⟩ := h m (by omega)
    refine ⟨ys ++ [y], by simp [hl], fun i z hz => ?_⟩
    by_cases hi : i < ys.length
    · rw [List.getElem?_append_left hi] at hz
      exact hy i z hz
    · rw [List.getElem?_append_right (by omega)] at hz
      have : i - ys.length = 0 := by
        rcases Nat.eq_zero_or_pos (i - ys.length) with h0 | h0
        · exact h0
        · rw [List.getElem?_eq_none (by simp; omega)] at hz; cases hz
      rw [this] at hz
      simp at hz
      subst hz
      obtain rfl : i = m := by omega
      exact hq

theorem opens_slice {α : Type} {d : Kd α} {wf : α → Prop} (hu : P.underlying t = some (.slice e)) (hc : P.cellsOf e = d.sz) (ho : Opens P e d wf) :
    Opens P t (Kd.slice e d) (fun xs => xs.length ≤ maxLen ∧ ∀ x ∈ xs, wf x) := by
  intro H enc w held fuel cs x h
  rcases DataW.trod_slice hu h with ⟨rfl, rfl⟩ | ⟨a, len, cap, elems, rest, n, rfl, rfl, rfl, hb, hl, hm, hlen, hel, _, _⟩
  · exact ⟨[], ⟨none, 0, rfl, by simp, Kd.C_nil _ _⟩, by simp, fun x hx => by cases hx⟩
  · have each : ∀ i, i < len → ∃ y : α, (∃ c, c.length = d.sz ∧ d.K w y c ∧ ∀ j u, c[j]? = some u → w.cell? (a.add (i * d.sz + j)) = some u) ∧ wf y := by
      intro i hi
      have h1 := hel i hi
      rw [hc] at h1
      have hi' : i < elems.length := by omega
      rw [List.getElem?_eq_getElem hi'] at h1
      obtain ⟨c, hcs, htr⟩ := Option.bind_eq_some_iff.1 h1
      obtain ⟨y, hK, hwf⟩ := ho H enc w held n c _ htr
      obtain ⟨_, hcl, hcell⟩ := World.cells?_some hcs
      refine ⟨y, ⟨c, d.K_len hK, hK, fun j u hj => ?_⟩, hwf⟩
      have hj' : j < c.length := (List.getElem?_eq_some_iff.1 hj).1
      rw [← add_add, hcell j (by omega), hj]
    obtain ⟨ys, hyl, hy⟩ := list_of len each
    refine ⟨ys, ⟨some a, cap, by rw [hyl], by omega, ?_⟩, by unfold maxLen at *; omega, fun y hys => ?_⟩
    · refine ⟨rfl, by unfold maxLen at hm; omega, fun _ => ⟨a, rfl, fun j p hj => (hy j p hj).1⟩⟩
    · obtain ⟨i, hi, rfl⟩ := List.getElem_of_mem hys
      exact (hy i _ (List.getElem?_eq_getElem hi)).2

/-- A slice that is handed in, as the print's contracts want it. -/
theorem slice_in {α : Type} {d : Kd α} {wf : List α → Prop} {H : Type} {enc : TypeId × Value → H} {w : World} {held : Bool} {a : Option Addr} {len cap : Nat} {x : DataW H} {ps : List MemPlace}
    (ho : Opens P t (Kd.slice e d) wf) (h : DataW.Trod enc P w 0 (fun _ => true) held t (.slice a len cap) x ps) : ∃ xs, len = xs.length ∧ xs.length ≤ cap ∧ d.C w a xs.length xs ∧ wf xs := by
  obtain ⟨fuel, hf⟩ := h
  obtain ⟨xs, ⟨A, c, hcs, hlc, hC⟩, hwf⟩ := ho H enc w held fuel _ _ hf
  simp [Value.cells] at hcs
  obtain ⟨rfl, rfl, rfl⟩ := hcs
  exact ⟨xs, rfl, hlc, hC, hwf⟩

/-- A slice that is handed in takes no more bytes than the reach. -/
theorem slice_sized {H : Type} {enc : TypeId × Value → H} {w : World} {held : Bool} {a : Option Addr} {len cap : Nat} {ts : List TypeId} {ds : List (DataW H)} {j : Nat} {x : DataW H} {ps : List MemPlace}
    (hsz : (DataW.weightsEach P ts ds).all (· ≤ reachBytes) = true) (ht : ts[j]? = some t) (hd : ds[j]? = some x) (hu : P.underlying t = some (.slice e)) (h : DataW.Trod enc P w 0 (fun _ => true) held t (.slice a len cap) x ps) :
    len * P.bytesOf e ≤ reachBytes := by
  obtain ⟨fuel, hf⟩ := h
  rcases DataW.trod_slice hu hf with ⟨hcs, _⟩ | ⟨a', len', cap', elems, rest, n, _, hcs, hx, _, _, _, hlen, _⟩
  · simp [Value.cells] at hcs
    obtain ⟨rfl, rfl, rfl⟩ := hcs
    simp
  · simp [Value.cells] at hcs
    obtain ⟨rfl, rfl, rfl⟩ := hcs
    obtain ⟨rfl, _⟩ := Prod.mk.inj hx
    have := sized_slice hsz ht hd hu
    simp only [List.length_map] at this
    exact Nat.le_trans (Nat.mul_le_mul_right _ (by omega)) this
end

end Go.Proofs.Ytdaikljbljcagaa.Rw
