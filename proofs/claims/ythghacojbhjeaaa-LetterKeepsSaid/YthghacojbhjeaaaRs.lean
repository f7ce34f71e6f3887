/- DERIVED. How the structs that a caller hands in stand in memory. Conditions: none. -/
import Derived.Test.YthghacojbhjeaaaRw
import Derived.OpenShut
import Derived.Test.YthghacojbhjeaaaPKpx0
namespace Go.Proofs.Ythghacojbhjeaaa.Rs
open Go.RowKit Go.Proofs.YthghacojbhjeaaaW.PrintWords Go.Proofs.Ythghacojbhjeaaa.Rw Go.Proofs.Ythghacojbhjeaaa.PKp
set_option linter.unusedVariables false
theorem cut_two {α : Type} {cs : List α} {m n : Nat} : (cs.drop m).take n ++ cs.drop (m + n) = cs.drop m := by rw [← List.drop_drop]; exact List.take_append_drop _ _
def WF39 (x : S39) : Prop := (x.f0.size ≤ maxLen) ∧ (x.f1.size ≤ maxLen)
theorem opens39 : Opens Try.prog 39 k39 WF39 := by
  intro H enc w held fuel cs x h
  obtain ⟨xs, n, _, _, hl, hlen, hf⟩ := DataW.trod_struct Try.underlying39 h
  have hc : Try.prog.cellsOf 39 = 2 := by kernel_rfl
  rw [hc] at hl
  have c0 : Try.prog.cellsOf 9 = 1 := by kernel_rfl
  have h0 : DataW.trod enc Try.prog w 0 (fun _ => true) held n 9 ((cs.drop 0).take (Try.prog.cellsOf 9)) = xs[0]? := hf 0 _ rfl
  rw [c0, List.getElem?_eq_getElem (show 0 < xs.length by rw [hlen]; decide)] at h0
  obtain ⟨a0, K0, w0⟩ := (Rw.opens_string Try.underlying9) H enc w held n _ _ h0
  have c1 : Try.prog.cellsOf 9 = 1 := by kernel_rfl
  have h1 : DataW.trod enc Try.prog w 0 (fun _ => true) held n 9 ((cs.drop 1).take (Try.prog.cellsOf 9)) = xs[1]? := hf 1 _ rfl
  rw [c1, List.getElem?_eq_getElem (show 1 < xs.length by rw [hlen]; decide)] at h1
  obtain ⟨a1, K1, w1⟩ := (Rw.opens_string Try.underlying9) H enc w held n _ _ h1
  have hcs : cs = (cs.drop 0).take 1 ++ ((cs.drop 1).take 1) := by
    have z2 : (cs.drop 1).take 1 = cs.drop 1 := List.take_of_length_le (by rw [List.length_drop, hl]; omega)
    rw [z2]
    rw [cut_two (m := 0) (n := 1)]
    rfl
  exact ⟨⟨a0, a1⟩, ⟨_, _, hcs, K0, K1⟩, w0, w1⟩
def WF41 (x : S41) : Prop := (x.f0.size ≤ maxLen) ∧ ((Lit.int .i64 x.f1).wf = true) ∧ (True)
theorem opens41 : Opens Try.prog 41 k41 WF41 := by
  intro H enc w held fuel cs x h
  obtain ⟨xs, n, _, _, hl, hlen, hf⟩ := DataW.trod_struct Try.underlying41 h
  have hc : Try.prog.cellsOf 41 = 3 := by kernel_rfl
  rw [hc] at hl
  have c0 : Try.prog.cellsOf 9 = 1 := by kernel_rfl
  have h0 : DataW.trod enc Try.prog w 0 (fun _ => true) held n 9 ((cs.drop 0).take (Try.prog.cellsOf 9)) = xs[0]? := hf 0 _ rfl
  rw [c0, List.getElem?_eq_getElem (show 0 < xs.length by rw [hlen]; decide)] at h0
  obtain ⟨a0, K0, w0⟩ := (Rw.opens_string Try.underlying9) H enc w held n _ _ h0
  have c1 : Try.prog.cellsOf 3 = 1 := by kernel_rfl
  have h1 : DataW.trod enc Try.prog w 0 (fun _ => true) held n 3 ((cs.drop 1).take (Try.prog.cellsOf 3)) = xs[1]? := hf 1 _ rfl
  rw [c1, List.getElem?_eq_getElem (show 1 < xs.length by rw [hlen]; decide)] at h1
  obtain ⟨a1, K1, w1⟩ := (Rw.opens_int Try.underlying3) H enc w held n _ _ h1
  have c2 : Try.prog.cellsOf 4 = 1 := by kernel_rfl
  have h2 : DataW.trod enc Try.prog w 0 (fun _ => true) held n 4 ((cs.drop 2).take (Try.prog.cellsOf 4)) = xs[2]? := hf 2 _ rfl
  rw [c2, List.getElem?_eq_getElem (show 2 < xs.length by rw [hlen]; decide)] at h2
  obtain ⟨a2, K2, w2⟩ := (Rw.opens_bool Try.underlying4) H enc w held n _ _ h2
  have hcs : cs = (cs.drop 0).take 1 ++ ((cs.drop 1).take 1 ++ ((cs.drop 2).take 1)) := by
    have z3 : (cs.drop 2).take 1 = cs.drop 2 := List.take_of_length_le (by rw [List.length_drop, hl]; omega)
    rw [z3]
    rw [cut_two (m := 1) (n := 1)]
    rw [cut_two (m := 0) (n := 1)]
    rfl
  exact ⟨⟨a0, a1, a2⟩, ⟨_, _, hcs, K0, ⟨_, _, rfl, K1, K2⟩⟩, w0, w1, w2⟩
def WF27 (x : S27) : Prop := ((Lit.int .i64 x.f0).wf = true) ∧ ((Lit.int .i64 x.f1).wf = true) ∧ ((Lit.int .i64 x.f2).wf = true) ∧ ((Lit.int .i64 x.f3).wf = true) ∧ ((Lit.int .i64 x.f4).wf = true) ∧ ((Lit.int .i64 x.f5).wf = true) ∧ ((Lit.int .i64 x.f6).wf = true) ∧ (x.f7.size ≤ maxLen) ∧ (x.f8.size ≤ maxLen) ∧ (x.f9.length ≤ maxLen ∧ ∀ x1 ∈ x.f9, WF39 x1) ∧ (x.f10.length ≤ maxLen ∧ ∀ x1 ∈ x.f10, WF41 x1) ∧ ((Lit.int .i64 x.f11).wf = true) ∧ (True) ∧ (x.f13.size ≤ maxLen)
theorem opens27 : Opens Try.prog 27 k27 WF27 := by
  intro H enc w held fuel cs x h
  obtain ⟨xs, n, _, _, hl, hlen, hf⟩ := DataW.trod_struct Try.underlying27 h
  have hc : Try.prog.cellsOf 27 = 14 := by kernel_rfl
  rw [hc] at hl
  have c0 : Try.prog.cellsOf 3 = 1 := by kernel_rfl
  have h0 : DataW.trod enc Try.prog w 0 (fun _ => true) held n 3 ((cs.drop 0).take (Try.prog.cellsOf 3)) = xs[0]? := hf 0 _ rfl
  rw [c0, List.getElem?_eq_getElem (show 0 < xs.length by rw [hlen]; decide)] at h0
  obtain ⟨a0, K0, w0⟩ := (Rw.opens_int Try.underlying3) H enc w held n _ _ h0
  have c1 : Try.prog.cellsOf 3 = 1 := by kernel_rfl
  have h1 : DataW.trod enc Try.prog w 0 (fun _ => true) held n 3 ((cs.drop 1).take (Try.prog.cellsOf 3)) = xs[1]? := hf 1 _ rfl
  rw [c1, List.getElem?_eq_getElem (show 1 < xs.length by rw [hlen]; decide)] at h1
  obtain ⟨a1, K1, w1⟩ := (Rw.opens_int Try.underlying3) H enc w held n _ _ h1
  have c2 : Try.prog.cellsOf 3 = 1 := by kernel_rfl
  have h2 : DataW.trod enc Try.prog w 0 (fun _ => true) held n 3 ((cs.drop 2).take (Try.prog.cellsOf 3)) = xs[2]? := hf 2 _ rfl
  rw [c2, List.getElem?_eq_getElem (show 2 < xs.length by rw [hlen]; decide)] at h2
  obtain ⟨a2, K2, w2⟩ := (Rw.opens_int Try.underlying3) H enc w held n _ _ h2
  have c3 : Try.prog.cellsOf 3 = 1 := by kernel_rfl
  have h3 : DataW.trod enc Try.prog w 0 (fun _ => true) held n 3 ((cs.drop 3).take (Try.prog.cellsOf 3)) = xs[3]? := hf 3 _ rfl
  rw [c3, List.getElem?_eq_getElem (show 3 < xs.length by rw [hlen]; decide)] at h3
  obtain ⟨a3, K3, w3⟩ := (Rw.opens_int Try.underlying3) H enc w held n _ _ h3
  have c4 : Try.prog.cellsOf 3 = 1 := by kernel_rfl
  have h4 : DataW.trod enc Try.prog w 0 (fun _ => true) held n 3 ((cs.drop 4).take (Try.prog.cellsOf 3)) = xs[4]? := hf 4 _ rfl
  rw [c4, List.getElem?_eq_getElem (show 4 < xs.length by rw [hlen]; decide)] at h4
  obtain ⟨a4, K4, w4⟩ := (Rw.opens_int Try.underlying3) H enc w held n _ _ h4
  have c5 : Try.prog.cellsOf 3 = 1 := by kernel_rfl
  have h5 : DataW.trod enc Try.prog w 0 (fun _ => true) held n 3 ((cs.drop 5).take (Try.prog.cellsOf 3)) = xs[5]? := hf 5 _ rfl
  rw [c5, List.getElem?_eq_getElem (show 5 < xs.length by rw [hlen]; decide)] at h5
  obtain ⟨a5, K5, w5⟩ := (Rw.opens_int Try.underlying3) H enc w held n _ _ h5
  have c6 : Try.prog.cellsOf 3 = 1 := by kernel_rfl
  have h6 : DataW.trod enc Try.prog w 0 (fun _ => true) held n 3 ((cs.drop 6).take (Try.prog.cellsOf 3)) = xs[6]? := hf 6 _ rfl
  rw [c6, List.getElem?_eq_getElem (show 6 < xs.length by rw [hlen]; decide)] at h6
  obtain ⟨a6, K6, w6⟩ := (Rw.opens_int Try.underlying3) H enc w held n _ _ h6
  have c7 : Try.prog.cellsOf 9 = 1 := by kernel_rfl
  have h7 : DataW.trod enc Try.prog w 0 (fun _ => true) held n 9 ((cs.drop 7).take (Try.prog.cellsOf 9)) = xs[7]? := hf 7 _ rfl
  rw [c7, List.getElem?_eq_getElem (show 7 < xs.length by rw [hlen]; decide)] at h7
  obtain ⟨a7, K7, w7⟩ := (Rw.opens_string Try.underlying9) H enc w held n _ _ h7
  have c8 : Try.prog.cellsOf 9 = 1 := by kernel_rfl
  have h8 : DataW.trod enc Try.prog w 0 (fun _ => true) held n 9 ((cs.drop 8).take (Try.prog.cellsOf 9)) = xs[8]? := hf 8 _ rfl
  rw [c8, List.getElem?_eq_getElem (show 8 < xs.length by rw [hlen]; decide)] at h8
  obtain ⟨a8, K8, w8⟩ := (Rw.opens_string Try.underlying9) H enc w held n _ _ h8
  have c9 : Try.prog.cellsOf 23 = 1 := by kernel_rfl
  have h9 : DataW.trod enc Try.prog w 0 (fun _ => true) held n 23 ((cs.drop 9).take (Try.prog.cellsOf 23)) = xs[9]? := hf 9 _ rfl
  rw [c9, List.getElem?_eq_getElem (show 9 < xs.length by rw [hlen]; decide)] at h9
  obtain ⟨a9, K9, w9⟩ := (Rw.opens_slice Try.underlying23 (by kernel_rfl) opens39) H enc w held n _ _ h9
  have c10 : Try.prog.cellsOf 24 = 1 := by kernel_rfl
  have h10 : DataW.trod enc Try.prog w 0 (fun _ => true) held n 24 ((cs.drop 10).take (Try.prog.cellsOf 24)) = xs[10]? := hf 10 _ rfl
  rw [c10, List.getElem?_eq_getElem (show 10 < xs.length by rw [hlen]; decide)] at h10
  obtain ⟨a10, K10, w10⟩ := (Rw.opens_slice Try.underlying24 (by kernel_rfl) opens41) H enc w held n _ _ h10
  have c11 : Try.prog.cellsOf 25 = 1 := by kernel_rfl
  have h11 : DataW.trod enc Try.prog w 0 (fun _ => true) held n 25 ((cs.drop 11).take (Try.prog.cellsOf 25)) = xs[11]? := hf 11 _ rfl
  rw [c11, List.getElem?_eq_getElem (show 11 < xs.length by rw [hlen]; decide)] at h11
  obtain ⟨a11, K11, w11⟩ := (Rw.opens_int Try.underlying25) H enc w held n _ _ h11
  have c12 : Try.prog.cellsOf 4 = 1 := by kernel_rfl
  have h12 : DataW.trod enc Try.prog w 0 (fun _ => true) held n 4 ((cs.drop 12).take (Try.prog.cellsOf 4)) = xs[12]? := hf 12 _ rfl
  rw [c12, List.getElem?_eq_getElem (show 12 < xs.length by rw [hlen]; decide)] at h12
  obtain ⟨a12, K12, w12⟩ := (Rw.opens_bool Try.underlying4) H enc w held n _ _ h12
  have c13 : Try.prog.cellsOf 9 = 1 := by kernel_rfl
  have h13 : DataW.trod enc Try.prog w 0 (fun _ => true) held n 9 ((cs.drop 13).take (Try.prog.cellsOf 9)) = xs[13]? := hf 13 _ rfl
  rw [c13, List.getElem?_eq_getElem (show 13 < xs.length by rw [hlen]; decide)] at h13
  obtain ⟨a13, K13, w13⟩ := (Rw.opens_string Try.underlying9) H enc w held n _ _ h13
  have hcs : cs = (cs.drop 0).take 1 ++ ((cs.drop 1).take 1 ++ ((cs.drop 2).take 1 ++ ((cs.drop 3).take 1 ++ ((cs.drop 4).take 1 ++ ((cs.drop 5).take 1 ++ ((cs.drop 6).take 1 ++ ((cs.drop 7).take 1 ++ ((cs.drop 8).take 1 ++ ((cs.drop 9).take 1 ++ ((cs.drop 10).take 1 ++ ((cs.drop 11).take 1 ++ ((cs.drop 12).take 1 ++ ((cs.drop 13).take 1))))))))))))) := by
    have z14 : (cs.drop 13).take 1 = cs.drop 13 := List.take_of_length_le (by rw [List.length_drop, hl]; omega)
    rw [z14]
    rw [cut_two (m := 12) (n := 1)]
    rw [cut_two (m := 11) (n := 1)]
    rw [cut_two (m := 10) (n := 1)]
    rw [cut_two (m := 9) (n := 1)]
    rw [cut_two (m := 8) (n := 1)]
    rw [cut_two (m := 7) (n := 1)]
    rw [cut_two (m := 6) (n := 1)]
    rw [cut_two (m := 5) (n := 1)]
    rw [cut_two (m := 4) (n := 1)]
    rw [cut_two (m := 3) (n := 1)]
    rw [cut_two (m := 2) (n := 1)]
    rw [cut_two (m := 1) (n := 1)]
    rw [cut_two (m := 0) (n := 1)]
    rfl
  exact ⟨⟨a0, a1, a2, a3, a4, a5, a6, a7, a8, a9, a10, a11, a12, a13⟩, ⟨_, _, hcs, K0, ⟨_, _, rfl, K1, ⟨_, _, rfl, K2, ⟨_, _, rfl, K3, ⟨_, _, rfl, K4, ⟨_, _, rfl, K5, ⟨_, _, rfl, K6, ⟨_, _, rfl, K7, ⟨_, _, rfl, K8, ⟨_, _, rfl, K9, ⟨_, _, rfl, K10, ⟨_, _, rfl, K11, ⟨_, _, rfl, K12, K13⟩⟩⟩⟩⟩⟩⟩⟩⟩⟩⟩⟩⟩, w0, w1, w2, w3, w4, w5, w6, w7, w8, w9, w10, w11, w12, w13⟩
end Go.Proofs.Ythghacojbhjeaaa.Rs
