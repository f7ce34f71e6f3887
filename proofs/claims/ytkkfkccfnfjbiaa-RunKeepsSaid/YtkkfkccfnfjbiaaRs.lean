/- DERIVED. How the structs that a caller hands in stand in memory. Conditions: none. -/
import Derived.Test.YtkkfkccfnfjbiaaRw
import Derived.OpenShut
import Derived.Test.YtkkfkccfnfjbiaaPGrx0
namespace Go.Proofs.Ytkkfkccfnfjbiaa.Rs
open Go.RowKit Go.Proofs.YtkkfkccfnfjbiaaW.PrintWords Go.Proofs.Ytkkfkccfnfjbiaa.Rw Go.Proofs.Ytkkfkccfnfjbiaa.PGr
set_option linter.unusedVariables false
theorem cut_two {α : Type} {cs : List α} {m n : Nat} : (cs.drop m).take n ++ cs.drop (m + n) = cs.drop m := by rw [← List.drop_drop]; exact List.take_append_drop _ _
def WF37 (x : S37) : Prop := (x.f0.size ≤ maxLen) ∧ (x.f1.size ≤ maxLen) ∧ (True)
theorem opens37 : Opens Try.prog 37 k37 WF37 := by
  intro H enc w held fuel cs x h
  obtain ⟨xs, n, _, _, hl, hlen, hf⟩ := DataW.trod_struct Try.underlying37 h
  have hc : Try.prog.cellsOf 37 = 3 := by kernel_rfl
  rw [hc] at hl
  have c0 : Try.prog.cellsOf 9 = 1 := by kernel_rfl
  have h0 : DataW.trod enc Try.prog w 0 (fun _ => true) held n 9 ((cs.drop 0).take (Try.prog.cellsOf 9)) = xs[0]? := hf 0 _ rfl
  rw [c0, List.getElem?_eq_getElem (show 0 < xs.length by rw [hlen]; decide)] at h0
  obtain ⟨a0, K0, w0⟩ := (Rw.opens_string Try.underlying9) H enc w held n _ _ h0
  have c1 : Try.prog.cellsOf 9 = 1 := by kernel_rfl
  have h1 : DataW.trod enc Try.prog w 0 (fun _ => true) held n 9 ((cs.drop 1).take (Try.prog.cellsOf 9)) = xs[1]? := hf 1 _ rfl
  rw [c1, List.getElem?_eq_getElem (show 1 < xs.length by rw [hlen]; decide)] at h1
  obtain ⟨a1, K1, w1⟩ := (Rw.opens_string Try.underlying9) H enc w held n _ _ h1
  have c2 : Try.prog.cellsOf 4 = 1 := by kernel_rfl
  have h2 : DataW.trod enc Try.prog w 0 (fun _ => true) held n 4 ((cs.drop 2).take (Try.prog.cellsOf 4)) = xs[2]? := hf 2 _ rfl
  rw [c2, List.getElem?_eq_getElem (show 2 < xs.length by rw [hlen]; decide)] at h2
  obtain ⟨a2, K2, w2⟩ := (Rw.opens_bool Try.underlying4) H enc w held n _ _ h2
  have hcs : cs = (cs.drop 0).take 1 ++ ((cs.drop 1).take 1 ++ ((cs.drop 2).take 1)) := by
    have z3 : (cs.drop 2).take 1 = cs.drop 2 := List.take_of_length_le (by rw [List.length_drop, hl]; omega)
    rw [z3]
    rw [cut_two (m := 1) (n := 1)]
    rw [cut_two (m := 0) (n := 1)]
    rfl
  exact ⟨⟨a0, a1, a2⟩, ⟨_, _, hcs, K0, ⟨_, _, rfl, K1, K2⟩⟩, w0, w1, w2⟩
end Go.Proofs.Ytkkfkccfnfjbiaa.Rs
