/- DERIVED. How the structs that a caller hands in stand in memory. Conditions: none. -/
import Derived.Test.YtieifhjjjlmkbaaDoorRw
import Derived.OpenShut
import Derived.Test.YtieifhjjjlmkbaaDoorPOrdx0
namespace Go.Proofs.YtieifhjjjlmkbaaDoor.Rs
open Go.RowKit Go.Proofs.YtieifhjjjlmkbaaDoorW.PrintWords Go.Proofs.YtieifhjjjlmkbaaDoor.Rw Go.Proofs.YtieifhjjjlmkbaaDoor.POrd
set_option linter.unusedVariables false
structure S34 where
  f0 : Int
  f1 : Int
def k34 : Kd S34 := Kd.iso (Kd.pair (Kd.int .i64) (Kd.int .i64)) (fun x : S34 => (x.f0, x.f1))
theorem k34_open {w : World} {x : S34} {cs : List Value} (h : k34.K w x cs) : cs = [.int .i64 x.f0, .int .i64 x.f1] := by
  obtain ⟨c1, c2, rfl, rfl, rfl⟩ := h
  rfl
structure S35 where
  f0 : ByteArray
  f1 : ByteArray
def k35 : Kd S35 := Kd.iso (Kd.pair Kd.string Kd.string) (fun x : S35 => (x.f0, x.f1))
theorem k35_open {w : World} {x : S35} {cs : List Value} (h : k35.K w x cs) : cs = [.string x.f0, .string x.f1] := by
  obtain ⟨c1, c2, rfl, rfl, rfl⟩ := h
  rfl
theorem cut_two {α : Type} {cs : List α} {m n : Nat} : (cs.drop m).take n ++ cs.drop (m + n) = cs.drop m := by rw [← List.drop_drop]; exact List.take_append_drop _ _
theorem trod_arr {H : Type} {enc : TypeId × Value → H} {P : Program} {w : World} {held : Bool} {fuel : Nat} {t e n s : Nat} {cs : List Value} {x : DataW H × List MemPlace} (ht : P.underlying t = some (.array n e)) (hs : P.cellsOf e = s) (h : DataW.trod enc P w 0 (fun _ => true) held fuel t cs = some x) :
    ∃ (xs : List (DataW H × List MemPlace)) (m : Nat), fuel = m + 1 ∧ x = (.agg (xs.map (·.1)), xs.flatMap (·.2)) ∧ cs.length = P.cellsOf t ∧ xs.length = n ∧ ∀ i : Nat, i < n → DataW.trod enc P w 0 (fun _ => true) held m e ((cs.drop (i * s)).take s) = xs[i]? := by
  subst hs; exact DataW.trod_array ht h
def WF34 (x : S34) : Prop := ((Lit.int .i64 x.f0).wf = true) ∧ ((Lit.int .i64 x.f1).wf = true)
theorem opens34 : Opens Tryd.prog 34 k34 WF34 := by
  intro H enc w held fuel cs x h
  obtain ⟨xs, n, _, _, hl, hlen, hf⟩ := trod_arr Tryd.underlying34 (s := 1) (by kernel_rfl) h
  have hc : Tryd.prog.cellsOf 34 = 2 := by kernel_rfl
  rw [hc] at hl
  have c0 : Tryd.prog.cellsOf 3 = 1 := by kernel_rfl
  have h0 := hf 0 (by decide)
  rw [List.getElem?_eq_getElem (show 0 < xs.length by rw [hlen]; decide)] at h0
  obtain ⟨a0, K0, w0⟩ := (Rw.opens_int Tryd.underlying3) H enc w held n _ _ h0
  have c1 : Tryd.prog.cellsOf 3 = 1 := by kernel_rfl
  have h1 := hf 1 (by decide)
  rw [List.getElem?_eq_getElem (show 1 < xs.length by rw [hlen]; decide)] at h1
  obtain ⟨a1, K1, w1⟩ := (Rw.opens_int Tryd.underlying3) H enc w held n _ _ h1
  have hcs : cs = (cs.drop 0).take 1 ++ ((cs.drop 1).take 1) := by
    have z2 : (cs.drop 1).take 1 = cs.drop 1 := List.take_of_length_le (by rw [List.length_drop, hl]; omega)
    rw [z2]
    rw [cut_two (m := 0) (n := 1)]
    rfl
  exact ⟨⟨a0, a1⟩, ⟨_, _, hcs, K0, K1⟩, w0, w1⟩
def WF41 (x : S41) : Prop := ((Lit.int .i64 x.f0).wf = true) ∧ ((Lit.int .i64 x.f1).wf = true) ∧ (x.f2.size ≤ maxLen)
theorem opens41 : Opens Tryd.prog 41 k41 WF41 := by
  intro H enc w held fuel cs x h
  obtain ⟨xs, n, _, _, hl, hlen, hf⟩ := DataW.trod_struct Tryd.underlying41 h
  have hc : Tryd.prog.cellsOf 41 = 3 := by kernel_rfl
  rw [hc] at hl
  have c0 : Tryd.prog.cellsOf 3 = 1 := by kernel_rfl
  have h0 : DataW.trod enc Tryd.prog w 0 (fun _ => true) held n 3 ((cs.drop 0).take (Tryd.prog.cellsOf 3)) = xs[0]? := hf 0 _ rfl
  rw [c0, List.getElem?_eq_getElem (show 0 < xs.length by rw [hlen]; decide)] at h0
  obtain ⟨a0, K0, w0⟩ := (Rw.opens_int Tryd.underlying3) H enc w held n _ _ h0
  have c1 : Tryd.prog.cellsOf 3 = 1 := by kernel_rfl
  have h1 : DataW.trod enc Tryd.prog w 0 (fun _ => true) held n 3 ((cs.drop 1).take (Tryd.prog.cellsOf 3)) = xs[1]? := hf 1 _ rfl
  rw [c1, List.getElem?_eq_getElem (show 1 < xs.length by rw [hlen]; decide)] at h1
  obtain ⟨a1, K1, w1⟩ := (Rw.opens_int Tryd.underlying3) H enc w held n _ _ h1
  have c2 : Tryd.prog.cellsOf 9 = 1 := by kernel_rfl
  have h2 : DataW.trod enc Tryd.prog w 0 (fun _ => true) held n 9 ((cs.drop 2).take (Tryd.prog.cellsOf 9)) = xs[2]? := hf 2 _ rfl
  rw [c2, List.getElem?_eq_getElem (show 2 < xs.length by rw [hlen]; decide)] at h2
  obtain ⟨a2, K2, w2⟩ := (Rw.opens_string Tryd.underlying9) H enc w held n _ _ h2
  have hcs : cs = (cs.drop 0).take 1 ++ ((cs.drop 1).take 1 ++ ((cs.drop 2).take 1)) := by
    have z3 : (cs.drop 2).take 1 = cs.drop 2 := List.take_of_length_le (by rw [List.length_drop, hl]; omega)
    rw [z3]
    rw [cut_two (m := 1) (n := 1)]
    rw [cut_two (m := 0) (n := 1)]
    rfl
  exact ⟨⟨a0, a1, a2⟩, ⟨_, _, hcs, K0, ⟨_, _, rfl, K1, K2⟩⟩, w0, w1, w2⟩
def WF35 (x : S35) : Prop := (x.f0.size ≤ maxLen) ∧ (x.f1.size ≤ maxLen)
theorem opens35 : Opens Tryd.prog 35 k35 WF35 := by
  intro H enc w held fuel cs x h
  obtain ⟨xs, n, _, _, hl, hlen, hf⟩ := trod_arr Tryd.underlying35 (s := 1) (by kernel_rfl) h
  have hc : Tryd.prog.cellsOf 35 = 2 := by kernel_rfl
  rw [hc] at hl
  have c0 : Tryd.prog.cellsOf 9 = 1 := by kernel_rfl
  have h0 := hf 0 (by decide)
  rw [List.getElem?_eq_getElem (show 0 < xs.length by rw [hlen]; decide)] at h0
  obtain ⟨a0, K0, w0⟩ := (Rw.opens_string Tryd.underlying9) H enc w held n _ _ h0
  have c1 : Tryd.prog.cellsOf 9 = 1 := by kernel_rfl
  have h1 := hf 1 (by decide)
  rw [List.getElem?_eq_getElem (show 1 < xs.length by rw [hlen]; decide)] at h1
  obtain ⟨a1, K1, w1⟩ := (Rw.opens_string Tryd.underlying9) H enc w held n _ _ h1
  have hcs : cs = (cs.drop 0).take 1 ++ ((cs.drop 1).take 1) := by
    have z2 : (cs.drop 1).take 1 = cs.drop 1 := List.take_of_length_le (by rw [List.length_drop, hl]; omega)
    rw [z2]
    rw [cut_two (m := 0) (n := 1)]
    rfl
  exact ⟨⟨a0, a1⟩, ⟨_, _, hcs, K0, K1⟩, w0, w1⟩
end Go.Proofs.YtieifhjjjlmkbaaDoor.Rs
