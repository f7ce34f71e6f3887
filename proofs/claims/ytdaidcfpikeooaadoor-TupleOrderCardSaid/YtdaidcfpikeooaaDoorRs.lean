/- DERIVED. How the structs that a caller hands in stand in memory. Conditions: none. -/
import Derived.Test.YtdaidcfpikeooaaDoorRw
import Derived.Test.YtdaidcfpikeooaaDoorPAllx0
namespace Go.Proofs.YtdaidcfpikeooaaDoor.Rs
open Go.RowKit Go.Proofs.YtdaidcfpikeooaaDoorW.PrintWords Go.Proofs.YtdaidcfpikeooaaDoor.Rw Go.Proofs.YtdaidcfpikeooaaDoor.PAll
set_option linter.unusedVariables false
def WF37 (x : S37) : Prop := ((Lit.int .i64 x.f0).wf = true) ∧ ((Lit.int .i64 x.f1).wf = true) ∧ (x.f2.size ≤ maxLen)
theorem opens37 : Opens Tryd.prog 37 k37 WF37 := by
  intro H enc w held fuel cs x h
  obtain ⟨xs, n, _, _, hl, hlen, hf⟩ := DataW.trod_struct Tryd.underlying37 h
  have hc : Tryd.prog.cellsOf 37 = 3 := by kernel_rfl
  rw [hc] at hl
  have c0 : Tryd.prog.cellsOf 3 = 1 := by kernel_rfl
  have h0 : DataW.trod enc Tryd.prog w 0 (fun _ => true) held n 3 ((cs.drop 0).take (Tryd.prog.cellsOf 3)) = xs[0]? := hf 0 _ rfl
  rw [c0, List.getElem?_eq_getElem (show 0 < xs.length by rw [hlen]; decide)] at h0
  obtain ⟨a0, K0, w0⟩ := (Rw.opens_int Tryd.underlying3) H enc w held n _ _ h0
  have c1 : Tryd.prog.cellsOf 3 = 1 := by kernel_rfl
  have h1 : DataW.trod enc Tryd.prog w 0 (fun _ => true) held n 3 ((cs.drop 1).take (Tryd.prog.cellsOf 3)) = xs[1]? := hf 1 _ rfl
  rw [c1, List.getElem?_eq_getElem (show 1 < xs.length by rw [hlen]; decide)] at h1
  obtain ⟨a1, K1, w1⟩ := (Rw.opens_int Tryd.underlying3) H enc w held n _ _ h1
  have c2 : Tryd.prog.cellsOf 9 = 1 := by kernel_rfl
  have h2 : DataW.trod enc Tryd.prog w 0 (fun _ => true) held n 9 ((cs.drop 2).take (Tryd.prog.cellsOf 9)) = xs[2]? := hf 2 _ rfl
  rw [c2, List.getElem?_eq_getElem (show 2 < xs.length by rw [hlen]; decide)] at h2
  obtain ⟨a2, K2, w2⟩ := (Rw.opens_string Tryd.underlying9) H enc w held n _ _ h2
  have hcs : cs = (cs.drop 0).take 1 ++ ((cs.drop 1).take 1 ++ ((cs.drop 2).take 1)) := by
    apply List.ext_getElem?; intro i
    simp only [List.getElem?_append, List.length_take, List.length_drop, List.getElem?_take, List.getElem?_drop, hl]
    rcases Nat.lt_or_ge i 3 with hi | hi
    · repeat' split
      all_goals first | omega | (congr 1; omega) | rfl
    · rw [List.getElem?_eq_none (by omega)]
      repeat' split
      all_goals first | omega | rfl | (rw [List.getElem?_eq_none (by omega)])
  exact ⟨⟨a0, a1, a2⟩, ⟨_, _, hcs, K0, ⟨_, _, rfl, K1, K2⟩⟩, w0, w1, w2⟩
end Go.Proofs.YtdaidcfpikeooaaDoor.Rs
