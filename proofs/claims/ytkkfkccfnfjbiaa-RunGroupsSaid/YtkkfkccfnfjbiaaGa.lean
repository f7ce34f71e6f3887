/- DERIVED. Rows of rows made out of rows that are only read from then on. Conditions: those that each lemma names. -/
import Derived.Test.YtkkfkccfnfjbiaaHl
import Derived.Test.YtkkfkccfnfjbiaaPGrx0
import Derived.WalkKit
namespace Go.Proofs.Ytkkfkccfnfjbiaa.Ga
open Go Go.RowKit Go.Proofs.Ytkkfkccfnfjbiaa.PGr Go.Proofs.YtkkfkccfnfjbiaaW.PrintWords Go.Proofs.YtkkfkccfnfjbiaaW.PrintLast Go.Proofs.Ytkkfkccfnfjbiaa.Hl
set_option linter.unusedSimpArgs false
set_option linter.unusedVariables false
/-- A row's value that is only read: its list. -/
def Rd (w : World) (v : Value) (xs : List S37) : Prop := ∃ A c, v = .slice A xs.length c ∧ xs.length ≤ c ∧ k37.C w A xs.length xs
theorem Rd.below {w w1 : World} {v : Value} {xs : List S37} (h : Rd w v xs) (hb : Below w.heap.size w w1) : Rd w1 v xs := by
  obtain ⟨A, c, e, hl, hc⟩ := h
  exact ⟨A, c, e, hl, Kd.C_below hc hb⟩
theorem Rd.of_R {w : World} {e base : Nat} {ok : Nat → Prop} {v : Value} {xs : List S37} (h : Kd.R k37 e w base ok v xs) : Rd w v xs := by
  obtain ⟨A, c, rfl⟩ := Kd.R_slice h
  obtain ⟨_, h2, h3⟩ := Kd.R_reads' h
  exact ⟨A, c, rfl, h2, h3⟩
theorem K_of_Rd {w : World} {v : Value} {xs : List S37} (h : Rd w v xs) : (Kd.slice 37 k37).K w xs [v] := by
  obtain ⟨A, c, rfl, hl, hc⟩ := h
  exact ⟨A, c, rfl, hl, hc⟩
/-- The values' lists, one by one. -/
inductive Rds (w : World) : List Value → List (List S37) → Prop
  | nil : Rds w [] []
  | cons {v : Value} {xs : List S37} {vs : List Value} {ls : List (List S37)} : Rd w v xs → Rds w vs ls → Rds w (v :: vs) (xs :: ls)
theorem Rds.len {w : World} : ∀ {vs : List Value} {ls : List (List S37)}, Rds w vs ls → vs.length = ls.length
  | _, _, .nil => rfl
  | _, _, .cons _ h => by rw [List.length_cons, List.length_cons, h.len]
theorem Rds.get {w : World} : ∀ {vs : List Value} {ls : List (List S37)}, Rds w vs ls → ∀ (j : Nat) (p : List S37), ls[j]? = some p → ∃ v, vs[j]? = some v ∧ Rd w v p
  | _, _, .nil, j, p, h => by simp at h
  | _, _, .cons h1 _, 0, p, h => by
    simp only [List.getElem?_cons_zero, Option.some.injEq] at h
    subst h
    exact ⟨_, rfl, h1⟩
  | _, _, .cons _ h1, j + 1, p, h => by
    simp only [List.getElem?_cons_succ] at h ⊢
    exact h1.get j p h
theorem lit_C {W : World} {e : Nat} {vs : List Value} {ls : List (List S37)} (h : Rds W vs ls) (hm : ls.length ≤ 9223372036854775807) : Kd.C (Kd.slice 37 k37) (W.alloc (.cells vs.toArray e)) (some ⟨W.heap.size, 0, none⟩) ls.length ls := by
  refine ⟨rfl, hm, fun _ => ⟨_, rfl, fun j p hj => ?_⟩⟩
  obtain ⟨v, hv, hr⟩ := h.get j p hj
  refine ⟨[v], rfl, K_of_Rd (hr.below (below_alloc (Below.refl _ _) _)), fun i u hu => ?_⟩
  have hi : i = 0 := by
    rcases i with _ | i
    · rfl
    · simp at hu
  subst hi
  simp only [List.getElem?_cons_zero, Option.some.injEq] at hu
  subst hu
  have hnew : (W.alloc (.cells vs.toArray e)).heap[W.heap.size]? = some (.cells vs.toArray e (0, 0)) := blk_new _ _
  rw [add_plain]
  show World.cell? _ ⟨W.heap.size, j * (Kd.slice 37 k37).sz + 0, none⟩ = some v
  rw [show j * (Kd.slice 37 k37).sz + 0 = j by show j * 1 + 0 = j; omega, blk_cell hnew j]
  simpa using hv
section
variable {P : Program} {ops : Array Oper} {o : Oper} {a : Act} {Q : Exit → Act → World → Prop} {W : World} {rest : List Oper}
theorem lit_event (hgd : o.guard = none) {N : Tmp} (_hd : o.dst = some N) (vs : List Value) (ls : List (List S37)) (hr : (execOp a.eval o).run P W = .ok (.value (.slice (some ⟨W.heap.size, 0, none⟩) vs.length vs.length)) (W.alloc (.cells vs.toArray 25)))
    (hk : Rds W vs ls) (hm : ls.length ≤ 9223372036854775807) (h : ∀ A w1, Kd.C (Kd.slice 37 k37) w1 A ls.length ls → Below W.heap.size W w1 → wpList P ops Q rest (a.put o.dst (.slice A ls.length ls.length)) w1) : wpList P ops Q (o :: rest) a W := by
  rw [hk.len] at hr
  exact Kd.event_run hgd hr (h _ _ (lit_C hk hm) (below_alloc (Below.refl _ _) _))
end
end Go.Proofs.Ytkkfkccfnfjbiaa.Ga
