/- DERIVED. How what a caller hands in stands in memory, told by the kinds of the print: numbers, bools, strings, slices and structs of them, nested. Conditions: those that each lemma names. DERIVED. How the structs that a caller hands in stand in memory. Conditions: none. -/
import Derived.Test.YtdaikljbljcagaaWWords
import Derived.ChangeArms
import Derived.ChangeOld
import Derived.SizedLaws
import Derived.WideShapes
import Derived.OpenShut
import Derived.Test.YtdaikljbljcagaaPAllx0
namespace Go.Proofs.Ytdaikljbljcagaa.Rw
open Go.RowKit Go.Proofs.YtdaikljbljcagaaW.PrintWords

/-- What is read of a type's cells stands as a value of the kind. -/
def Opens {α : Type} (P : Program) (t : TypeId) (d : Kd α) (wf : α → Prop) : Prop :=
  ∀ (H : Type) (enc : TypeId × Value → H) (w : World) (held : Bool) (fuel : Nat) (cs : List Value) (x : DataW H × List MemPlace),
    DataW.trod enc P w 0 (fun _ => true) held fuel t cs = some x → ∃ a, d.K w a cs ∧ wf a

section
variable {P : Program} {t e : TypeId}

theorem opens_int {k : IntKind} (hu : P.underlying t = some (.int k)) : Opens P t (Kd.int k) (fun n => (Lit.int k n).wf = true) := by
  intro H enc w held fuel cs x h
  obtain ⟨n, rfl, _, hw⟩ := DataW.trod_int hu h
  exact ⟨n, rfl, hw⟩

theorem opens_bool (hu : P.underlying t = some .bool) : Opens P t Kd.bool (fun _ => True) := by
  intro H enc w held fuel cs x h
  obtain ⟨n, rfl, _⟩ := DataW.trod_bool hu h
  exact ⟨n, rfl, trivial⟩

theorem opens_string (hu : P.underlying t = some .string) : Opens P t Kd.string (fun s => s.size ≤ maxLen) := by
  intro H enc w held fuel cs x h
  obtain ⟨s, rfl, _, hs⟩ := DataW.trod_string hu h
  exact ⟨s, rfl, hs⟩

theorem list_of {α : Type} {Q : Nat → α → Prop} : ∀ m : Nat, (∀ i, i < m → ∃ y, Q i y) → ∃ ys : List α, ys.length = m ∧ ∀ i y, ys[i]? = some y → Q i y
  | 0, _ => ⟨[], rfl, fun i y h => by simp at h⟩
  | m + 1, h => by
    obtain ⟨ys, hl, hy⟩ := list_of m (fun i hi => h i (by omega))
    obtain ⟨y, hq⟩ := h m (by omega)
    refine ⟨ys ++ [y], by simp [hl], fun i z hz => ?_⟩
    by_cases hi : i < ys.length
    · rw [List.getElem?_append_left hi] at hz
      exact hy i z hz
    · rw [List.getElem?_append_right (by omega)] at hz
      have : i - ys.length = 0 := by
        rcases Nat.eq_zero_or_pos (i - ys.length) with h0 | h0
        · exact h0
        · rw [List.getElem?_eq_none (by simp; omega)] at hz; cases hz
      rw [this] at hz
      simp at hz
      subst hz
      obtain rfl : i = m := by omega
      exact hq

theorem opens_slice {α : Type} {d : Kd α} {wf : α → Prop} (hu : P.underlying t = some (.slice e)) (hc : P.cellsOf e = d.sz) (ho : Opens P e d wf) :
    Opens P t (Kd.slice e d) (fun xs => xs.length ≤ maxLen ∧ ∀ x ∈ xs, wf x) := by
  intro H enc w held fuel cs x h
  rcases DataW.trod_slice hu h with ⟨rfl, rfl⟩ | ⟨a, len, cap, elems, rest, n, rfl, rfl, rfl, hb, hl, hm, hlen, hel, _, _⟩
  · exact ⟨[], ⟨none, 0, rfl, by simp, Kd.C_nil _ _⟩, by simp, fun x hx => by cases hx⟩
  · have each : ∀ i, i < len → ∃ y : α, (∃ c, c.length = d.sz ∧ d.K w y c ∧ ∀ j u, c[j]? = some u → w.cell? (a.add (i * d.sz + j)) = some u) ∧ wf y := by
      intro i hi
      have h1 := hel i hi
      rw [hc] at h1
      have hi' : i < elems.length := by omega
      rw [List.getElem?_eq_getElem hi'] at h1
      obtain ⟨c, hcs, htr⟩ := Option.bind_eq_some_iff.1 h1
      obtain ⟨y, hK, hwf⟩ := ho H enc w held n c _ htr
      obtain ⟨_, hcl, hcell⟩ := World.cells?_some hcs
      refine ⟨y, ⟨c, d.K_len hK, hK, fun j u hj => ?_⟩, hwf⟩
      have hj' : j < c.length := (List.getElem?_eq_some_iff.1 hj).1
      rw [← add_add, hcell j (by omega), hj]
    obtain ⟨ys, hyl, hy⟩ := list_of len each
    refine ⟨ys, ⟨some a, cap, by rw [hyl], by omega, ?_⟩, by unfold maxLen at *; omega, fun y hys => ?_⟩
    · refine ⟨rfl, by unfold maxLen at hm; omega, fun _ => ⟨a, rfl, fun j p hj => (hy j p hj).1⟩⟩
    · obtain ⟨i, hi, rfl⟩ := List.getElem_of_mem hys
      exact (hy i _ (List.getElem?_eq_getElem hi)).2

/-- A slice that is handed in, as the print's contracts want it. -/
theorem slice_in {α : Type} {d : Kd α} {wf : List α → Prop} {H : Type} {enc : TypeId × Value → H} {w : World} {held : Bool} {a : Option Addr} {len cap : Nat} {x : DataW H} {ps : List MemPlace}
    (ho : Opens P t (Kd.slice e d) wf) (h : DataW.Trod enc P w 0 (fun _ => true) held t (.slice a len cap) x ps) : ∃ xs, len = xs.length ∧ xs.length ≤ cap ∧ d.C w a xs.length xs ∧ wf xs := by
  obtain ⟨fuel, hf⟩ := h
  obtain ⟨xs, ⟨A, c, hcs, hlc, hC⟩, hwf⟩ := ho H enc w held fuel _ _ hf
  simp [Value.cells] at hcs
  obtain ⟨rfl, rfl, rfl⟩ := hcs
  exact ⟨xs, rfl, hlc, hC, hwf⟩

/-- A slice that is handed in takes no more bytes than the reach. -/
theorem slice_sized {H : Type} {enc : TypeId × Value → H} {w : World} {held : Bool} {a : Option Addr} {len cap : Nat} {ts : List TypeId} {ds : List (DataW H)} {j : Nat} {x : DataW H} {ps : List MemPlace}
    (hsz : (DataW.weightsEach P ts ds).all (· ≤ reachBytes) = true) (ht : ts[j]? = some t) (hd : ds[j]? = some x) (hu : P.underlying t = some (.slice e)) (h : DataW.Trod enc P w 0 (fun _ => true) held t (.slice a len cap) x ps) :
    len * P.bytesOf e ≤ reachBytes := by
  obtain ⟨fuel, hf⟩ := h
  rcases DataW.trod_slice hu hf with ⟨hcs, _⟩ | ⟨a', len', cap', elems, rest, n, _, hcs, hx, _, _, _, hlen, _⟩
  · simp [Value.cells] at hcs
    obtain ⟨rfl, rfl, rfl⟩ := hcs
    simp
  · simp [Value.cells] at hcs
    obtain ⟨rfl, rfl, rfl⟩ := hcs
    obtain ⟨rfl, _⟩ := Prod.mk.inj hx
    have := sized_slice hsz ht hd hu
    simp only [List.length_map] at this
    exact Nat.le_trans (Nat.mul_le_mul_right _ (by omega)) this
end

end Go.Proofs.Ytdaikljbljcagaa.Rw
namespace Go.Proofs.Ytdaikljbljcagaa.Rs
open Go.RowKit Go.Proofs.YtdaikljbljcagaaW.PrintWords Go.Proofs.Ytdaikljbljcagaa.Rw Go.Proofs.Ytdaikljbljcagaa.PAll
set_option linter.unusedVariables false
theorem cut_two {α : Type} {cs : List α} {m n : Nat} : (cs.drop m).take n ++ cs.drop (m + n) = cs.drop m := by rw [← List.drop_drop]; exact List.take_append_drop _ _
theorem trod_arr {H : Type} {enc : TypeId × Value → H} {P : Program} {w : World} {held : Bool} {fuel : Nat} {t e n s : Nat} {cs : List Value} {x : DataW H × List MemPlace} (ht : P.underlying t = some (.array n e)) (hs : P.cellsOf e = s) (h : DataW.trod enc P w 0 (fun _ => true) held fuel t cs = some x) :
    ∃ (xs : List (DataW H × List MemPlace)) (m : Nat), fuel = m + 1 ∧ x = (.agg (xs.map (·.1)), xs.flatMap (·.2)) ∧ cs.length = P.cellsOf t ∧ xs.length = n ∧ ∀ i : Nat, i < n → DataW.trod enc P w 0 (fun _ => true) held m e ((cs.drop (i * s)).take s) = xs[i]? := by
  subst hs; exact DataW.trod_array ht h
def WF29 (x : S29) : Prop := (x.f0.size ≤ maxLen) ∧ ((Lit.int .i64 x.f1).wf = true) ∧ (True)
theorem opens29 : Opens Try.prog 29 k29 WF29 := by
  intro H enc w held fuel cs x h
  obtain ⟨xs, n, _, _, hl, hlen, hf⟩ := DataW.trod_struct Try.underlying29 h
  have hc : Try.prog.cellsOf 29 = 3 := by kernel_rfl
  rw [hc] at hl
  have c0 : Try.prog.cellsOf 9 = 1 := by kernel_rfl
  have h0 : DataW.trod enc Try.prog w 0 (fun _ => true) held n 9 ((cs.drop 0).take (Try.prog.cellsOf 9)) = xs[0]? := hf 0 _ rfl
  rw [c0, List.getElem?_eq_getElem (show 0 < xs.length by rw [hlen]; decide)] at h0
  obtain ⟨a0, K0, w0⟩ := (Rw.opens_string Try.underlying9) H enc w held n _ _ h0
  have c1 : Try.prog.cellsOf 3 = 1 := by kernel_rfl
  have h1 : DataW.trod enc Try.prog w 0 (fun _ => true) held n 3 ((cs.drop 1).take (Try.prog.cellsOf 3)) = xs[1]? := hf 1 _ rfl
  rw [c1, List.getElem?_eq_getElem (show 1 < xs.length by rw [hlen]; decide)] at h1
  obtain ⟨a1, K1, w1⟩ := (Rw.opens_int Try.underlying3) H enc w held n _ _ h1
  have c2 : Try.prog.cellsOf 4 = 1 := by kernel_rfl
  have h2 : DataW.trod enc Try.prog w 0 (fun _ => true) held n 4 ((cs.drop 2).take (Try.prog.cellsOf 4)) = xs[2]? := hf 2 _ rfl
  rw [c2, List.getElem?_eq_getElem (show 2 < xs.length by rw [hlen]; decide)] at h2
  obtain ⟨a2, K2, w2⟩ := (Rw.opens_bool Try.underlying4) H enc w held n _ _ h2
  have hcs : cs = (cs.drop 0).take 1 ++ ((cs.drop 1).take 1 ++ ((cs.drop 2).take 1)) := by
    have z3 : (cs.drop 2).take 1 = cs.drop 2 := List.take_of_length_le (by rw [List.length_drop, hl]; omega)
    rw [z3]
    rw [cut_two (m := 1) (n := 1)]
    rw [cut_two (m := 0) (n := 1)]
    rfl
  exact ⟨⟨a0, a1, a2⟩, ⟨_, _, hcs, K0, ⟨_, _, rfl, K1, K2⟩⟩, w0, w1, w2⟩
def WF43 (x : S43) : Prop := (x.f0.size ≤ maxLen) ∧ (x.f1.size ≤ maxLen)
theorem opens43 : Opens Try.prog 43 k43 WF43 := by
  intro H enc w held fuel cs x h
  obtain ⟨xs, n, _, _, hl, hlen, hf⟩ := DataW.trod_struct Try.underlying43 h
  have hc : Try.prog.cellsOf 43 = 2 := by kernel_rfl
  rw [hc] at hl
  have c0 : Try.prog.cellsOf 9 = 1 := by kernel_rfl
  have h0 : DataW.trod enc Try.prog w 0 (fun _ => true) held n 9 ((cs.drop 0).take (Try.prog.cellsOf 9)) = xs[0]? := hf 0 _ rfl
  rw [c0, List.getElem?_eq_getElem (show 0 < xs.length by rw [hlen]; decide)] at h0
  obtain ⟨a0, K0, w0⟩ := (Rw.opens_string Try.underlying9) H enc w held n _ _ h0
  have c1 : Try.prog.cellsOf 9 = 1 := by kernel_rfl
  have h1 : DataW.trod enc Try.prog w 0 (fun _ => true) held n 9 ((cs.drop 1).take (Try.prog.cellsOf 9)) = xs[1]? := hf 1 _ rfl
  rw [c1, List.getElem?_eq_getElem (show 1 < xs.length by rw [hlen]; decide)] at h1
  obtain ⟨a1, K1, w1⟩ := (Rw.opens_string Try.underlying9) H enc w held n _ _ h1
  have hcs : cs = (cs.drop 0).take 1 ++ ((cs.drop 1).take 1) := by
    have z2 : (cs.drop 1).take 1 = cs.drop 1 := List.take_of_length_le (by rw [List.length_drop, hl]; omega)
    rw [z2]
    rw [cut_two (m := 0) (n := 1)]
    rfl
  exact ⟨⟨a0, a1⟩, ⟨_, _, hcs, K0, K1⟩, w0, w1⟩
def WF45 (x : S45) : Prop := ((Lit.int .i64 x.f0).wf = true) ∧ (x.f1.length ≤ maxLen ∧ ∀ x1 ∈ x.f1, WF29 x1) ∧ ((Lit.int .i64 x.f2).wf = true) ∧ (WF43 x.f3)
theorem opens45 : Opens Try.prog 45 k45 WF45 := by
  intro H enc w held fuel cs x h
  obtain ⟨xs, n, _, _, hl, hlen, hf⟩ := DataW.trod_struct Try.underlying45 h
  have hc : Try.prog.cellsOf 45 = 5 := by kernel_rfl
  rw [hc] at hl
  have c0 : Try.prog.cellsOf 3 = 1 := by kernel_rfl
  have h0 : DataW.trod enc Try.prog w 0 (fun _ => true) held n 3 ((cs.drop 0).take (Try.prog.cellsOf 3)) = xs[0]? := hf 0 _ rfl
  rw [c0, List.getElem?_eq_getElem (show 0 < xs.length by rw [hlen]; decide)] at h0
  obtain ⟨a0, K0, w0⟩ := (Rw.opens_int Try.underlying3) H enc w held n _ _ h0
  have c1 : Try.prog.cellsOf 22 = 1 := by kernel_rfl
  have h1 : DataW.trod enc Try.prog w 0 (fun _ => true) held n 22 ((cs.drop 1).take (Try.prog.cellsOf 22)) = xs[1]? := hf 1 _ rfl
  rw [c1, List.getElem?_eq_getElem (show 1 < xs.length by rw [hlen]; decide)] at h1
  obtain ⟨a1, K1, w1⟩ := (Rw.opens_slice Try.underlying22 (by kernel_rfl) opens29) H enc w held n _ _ h1
  have c2 : Try.prog.cellsOf 3 = 1 := by kernel_rfl
  have h2 : DataW.trod enc Try.prog w 0 (fun _ => true) held n 3 ((cs.drop 2).take (Try.prog.cellsOf 3)) = xs[2]? := hf 2 _ rfl
  rw [c2, List.getElem?_eq_getElem (show 2 < xs.length by rw [hlen]; decide)] at h2
  obtain ⟨a2, K2, w2⟩ := (Rw.opens_int Try.underlying3) H enc w held n _ _ h2
  have c3 : Try.prog.cellsOf 43 = 2 := by kernel_rfl
  have h3 : DataW.trod enc Try.prog w 0 (fun _ => true) held n 43 ((cs.drop 3).take (Try.prog.cellsOf 43)) = xs[3]? := hf 3 _ rfl
  rw [c3, List.getElem?_eq_getElem (show 3 < xs.length by rw [hlen]; decide)] at h3
  obtain ⟨a3, K3, w3⟩ := opens43 H enc w held n _ _ h3
  have hcs : cs = (cs.drop 0).take 1 ++ ((cs.drop 1).take 1 ++ ((cs.drop 2).take 1 ++ ((cs.drop 3).take 2))) := by
    have z4 : (cs.drop 3).take 2 = cs.drop 3 := List.take_of_length_le (by rw [List.length_drop, hl]; omega)
    rw [z4]
    rw [cut_two (m := 2) (n := 1)]
    rw [cut_two (m := 1) (n := 1)]
    rw [cut_two (m := 0) (n := 1)]
    rfl
  exact ⟨⟨a0, a1, a2, a3⟩, ⟨_, _, hcs, K0, ⟨_, _, rfl, K1, ⟨_, _, rfl, K2, K3⟩⟩⟩, w0, w1, w2, w3⟩
def WF47 (x : S47) : Prop := ((Lit.int .i64 x.f0).wf = true) ∧ ((Lit.int .i64 x.f1).wf = true)
theorem opens47 : Opens Try.prog 47 k47 WF47 := by
  intro H enc w held fuel cs x h
  obtain ⟨xs, n, _, _, hl, hlen, hf⟩ := trod_arr Try.underlying47 (s := 1) (by kernel_rfl) h
  have hc : Try.prog.cellsOf 47 = 2 := by kernel_rfl
  rw [hc] at hl
  have c0 : Try.prog.cellsOf 3 = 1 := by kernel_rfl
  have h0 := hf 0 (by decide)
  rw [List.getElem?_eq_getElem (show 0 < xs.length by rw [hlen]; decide)] at h0
  obtain ⟨a0, K0, w0⟩ := (Rw.opens_int Try.underlying3) H enc w held n _ _ h0
  have c1 : Try.prog.cellsOf 3 = 1 := by kernel_rfl
  have h1 := hf 1 (by decide)
  rw [List.getElem?_eq_getElem (show 1 < xs.length by rw [hlen]; decide)] at h1
  obtain ⟨a1, K1, w1⟩ := (Rw.opens_int Try.underlying3) H enc w held n _ _ h1
  have hcs : cs = (cs.drop 0).take 1 ++ ((cs.drop 1).take 1) := by
    have z2 : (cs.drop 1).take 1 = cs.drop 1 := List.take_of_length_le (by rw [List.length_drop, hl]; omega)
    rw [z2]
    rw [cut_two (m := 0) (n := 1)]
    rfl
  exact ⟨⟨a0, a1⟩, ⟨_, _, hcs, K0, K1⟩, w0, w1⟩
end Go.Proofs.Ytdaikljbljcagaa.Rs
