/- DERIVED. Rows of heads (what is left of a run, and which one it is), laid open as cells. Conditions: those that each lemma names. DERIVED. A head put into the row; Swap. Conditions: those that each lemma names. DERIVED. The methods of a row of heads, reached through an interface; the row by its values. Conditions: those that each lemma names. DERIVED. container/heap over a row of heads. Conditions: those that each lemma names. DERIVED. container/heap over a row of heads: Init, Fix, Pop. Conditions: those that each lemma names. -/
import Derived.Test.YtkkfkccfnfjbiaaPGrx0
import Derived.Laws.CopyRow
import Derived.Shelf.RegionOpenPlain
import Derived.WalkKit
import Derived.Test.YtkkfkccfnfjbiaaPGrx3
namespace Go.Proofs.Ytkkfkccfnfjbiaa.Hr
open Go.RowKit Go.Proofs.Ytkkfkccfnfjbiaa.PGr Go.Proofs.YtkkfkccfnfjbiaaW.PrintWords Go.Proofs.YtkkfkccfnfjbiaaW.PrintLast Go.Proofs.Ytkkfkccfnfjbiaa.Hl
set_option linter.unusedSimpArgs false
set_option linter.unusedVariables false
/-- A head as it lies: where the rest of its run lies, how long it is, what room it has. -/
structure RH where
  A : Option Addr
  c : Nat
  v : S56
def cellsH (h : RH) : List Value := [.slice h.A h.v.f0.length h.c, .int .i64 h.v.f1]
def rowH (hs : List RH) : List Value := hs.flatMap cellsH
theorem rowH_len (hs : List RH) : (rowH hs).length = hs.length * 2 := by
  induction hs with
  | nil => rfl
  | cons x t ih => simp only [rowH, List.flatMap_cons, List.length_append, List.length_cons] at *; rw [ih]; simp [cellsH]; omega
theorem rowH_app (a b : List RH) : rowH (a ++ b) = rowH a ++ rowH b := by simp [rowH]
theorem rowH_one (hs : List RH) : ∀ v ∈ rowH hs, v.oneCell' = true := by
  intro v hv
  simp only [rowH, List.mem_flatMap, cellsH, List.mem_cons, List.not_mem_nil, or_false] at hv
  obtain ⟨x, _, rfl | rfl⟩ := hv <;> rfl
theorem rowH_get0 (hs : List RH) (i : Nat) (h : i < hs.length) : (rowH hs)[i * 2]? = some (.slice hs[i].A hs[i].v.f0.length hs[i].c) := by
  rw [show rowH hs = rowH (hs.take i) ++ rowH (hs.drop i) by rw [← rowH_app, List.take_append_drop], List.getElem?_append_right (by rw [rowH_len, List.length_take]; omega), rowH_len, List.length_take, Nat.min_eq_left (by omega), Nat.sub_self, List.drop_eq_getElem_cons h]
  rfl
theorem rowH_get1 (hs : List RH) (i : Nat) (h : i < hs.length) : (rowH hs)[i * 2 + 1]? = some (.int .i64 hs[i].v.f1) := by
  rw [show rowH hs = rowH (hs.take i) ++ rowH (hs.drop i) by rw [← rowH_app, List.take_append_drop], List.getElem?_append_right (by rw [rowH_len, List.length_take]; omega), rowH_len, List.length_take, Nat.min_eq_left (by omega), show i * 2 + 1 - i * 2 = 1 by omega, List.drop_eq_getElem_cons h]
  rfl
theorem rowH_set : ∀ (hs : List RH) (i : Nat) (x : RH), i < hs.length → ((rowH hs).set (i * 2) (.slice x.A x.v.f0.length x.c)).set (i * 2 + 1) (.int .i64 x.v.f1) = rowH (hs.set i x)
  | [], i, x, h => by simp at h
  | y :: t, 0, x, h => by simp [rowH, cellsH]
  | y :: t, i + 1, x, h => by
    have ih := rowH_set t i x (by simpa using h)
    rw [show (i + 1) * 2 = i * 2 + 1 + 1 by omega]
    simp only [rowH, List.flatMap_cons, cellsH, List.set_cons_succ, List.cons_append, List.nil_append] at *
    rw [ih]
/-- All is as it was but two blocks; nothing was said. -/
structure Far (gb g : Nat) (w w' : World) : Prop where
  os : w'.os = w.os
  tape : w'.tape = w.tape
  output : w'.output = w.output
  size : w.heap.size ≤ w'.heap.size
  block : ∀ k, k < w.heap.size → k ≠ gb → k ≠ g → w'.heap[k]? = w.heap[k]?
theorem Far.refl (gb g : Nat) (w : World) : Far gb g w w := ⟨rfl, rfl, rfl, Nat.le_refl _, fun _ _ _ _ => rfl⟩
theorem Far.trans {gb g : Nat} {w w1 w2 : World} (h : Far gb g w w1) (k : Far gb g w1 w2) : Far gb g w w2 :=
  ⟨k.os.trans h.os, k.tape.trans h.tape, k.output.trans h.output, Nat.le_trans h.size k.size, fun i hi h1 h2 => (k.block i (Nat.lt_of_lt_of_le hi h.size) h1 h2).trans (h.block i hi h1 h2)⟩
theorem Far.of_below {gb g : Nat} {w w1 : World} (h : Below w.heap.size w w1) : Far gb g w w1 := ⟨h.os, h.tape, h.output, h.size, fun i hi _ _ => h.block i hi⟩
theorem Far.set {gb g : Nat} {w w1 : World} (h : Far gb g w w1) {p : Addr} (hp : w.heap.size ≤ p.block ∨ p.block = gb ∨ p.block = g) (v : Value) : Far gb g w (w1.setCell p v) :=
  ⟨h.os, h.tape, h.output, by have := h.size; simpa [World.setCell] using this, fun i hi h1 h2 => (Below.heap_setCell _ _ _ _ (by rcases hp with hp | hp | hp <;> omega)).trans (h.block i hi h1 h2)⟩
/-- The row of heads in block g, its header in block gb. -/
structure Heap (u w0 w : World) (gb g c : Nat) (hs : List RH) : Prop where
  below : Below w0.heap.size w0 w
  far : Far gb g u w
  hb : w0.heap.size ≤ gb
  hg : w0.heap.size ≤ g
  box : w.heap[gb]? = some (.cells #[.slice (some ⟨g, 0, none⟩) hs.length c] 54 (0, 0))
  row : ∃ cur : Array Value, w.heap[g]? = some (.cells cur 56 (0, 0)) ∧ cur.size = c * 2 ∧ cur.toList.take (hs.length * 2) = rowH hs
  le : hs.length ≤ c
  max : c ≤ maxLen
  few : hs.length ≤ 1000
  each : ∀ h ∈ hs, h.v.f0.length ≤ h.c ∧ Kd.C k37 w0 h.A h.v.f0.length h.v.f0
def vals (hs : List RH) : List S56 := hs.map (·.v)
theorem vals_len (hs : List RH) : (vals hs).length = hs.length := by simp [vals]
theorem Heap.ne {u w0 w : World} {gb g c : Nat} {hs : List RH} (h : Heap u w0 w gb g c hs) : gb ≠ g := by
  obtain ⟨cur, h1, _⟩ := h.row
  exact blk_ne h.box h1 (by decide)
theorem Heap.cell0 {u w0 w : World} {gb g c : Nat} {hs : List RH} (h : Heap u w0 w gb g c hs) (i : Nat) (hi : i < hs.length) : w.cell? ⟨g, i * 2, none⟩ = some (.slice hs[i].A hs[i].v.f0.length hs[i].c) := by
  obtain ⟨cur, h1, h2, h3⟩ := h.row
  have := rowH_get0 hs i hi
  rw [← h3, List.getElem?_take, if_pos (by omega)] at this
  simp [World.cell?, h1]
  simpa using this
theorem Heap.cell1 {u w0 w : World} {gb g c : Nat} {hs : List RH} (h : Heap u w0 w gb g c hs) (i : Nat) (hi : i < hs.length) : w.cell? ⟨g, i * 2 + 1, none⟩ = some (.int .i64 hs[i].v.f1) := by
  obtain ⟨cur, h1, h2, h3⟩ := h.row
  have := rowH_get1 hs i hi
  rw [← h3, List.getElem?_take, if_pos (by omega)] at this
  simp [World.cell?, h1]
  simpa using this
theorem Heap.later {u w0 w w1 : World} {gb g c : Nat} {hs : List RH} (h : Heap u w0 w gb g c hs) (hb : Below w.heap.size w w1) : Heap u w0 w1 gb g c hs := by
  obtain ⟨cur, h1, h2, h3⟩ := h.row
  exact ⟨below_step h.below hb, h.far.trans (Far.of_below hb), h.hb, h.hg, blk_below h.box hb, ⟨cur, blk_below h1 hb, h2, h3⟩, h.le, h.max, h.few, h.each⟩
/-- As what a call reads. -/
theorem Heap.reads {u w0 w : World} {gb g c : Nat} {hs : List RH} (h : Heap u w0 w gb g c hs) : Kd.C k56 w (some ⟨g, 0, none⟩) (vals hs).length (vals hs) := by
  refine ⟨rfl, by rw [vals_len]; have := h.few; omega, fun _ => ⟨_, rfl, fun j p hj => ?_⟩⟩
  have hlt : j < hs.length := by rw [← vals_len]; exact (List.getElem?_eq_some_iff.1 hj).1
  have hp : p = hs[j].v := by
    have := (List.getElem?_eq_some_iff.1 hj).2
    simpa [vals] using this.symm
  subst hp
  obtain ⟨e1, e2⟩ := h.each _ (List.getElem_mem hlt)
  refine ⟨cellsH hs[j], rfl, k56_mk w hs[j].v e1 (Kd.C_below e2 h.below), fun i u hi => ?_⟩
  have hadd : (⟨g, 0, none⟩ : Addr).add (j * 2 + i) = ⟨g, j * 2 + i, none⟩ := by unfold Addr.add; split <;> simp_all
  show w.cell? ((⟨g, 0, none⟩ : Addr).add (j * 2 + i)) = some u
  rw [hadd]
  match i, hi with
  | 0, hi => exact (h.cell0 j hlt).trans (by simpa [cellsH] using hi)
  | 1, hi => exact (h.cell1 j hlt).trans (by simpa [cellsH] using hi)
end Go.Proofs.Ytkkfkccfnfjbiaa.Hr
namespace Go.Proofs.Ytkkfkccfnfjbiaa.Hs
open Go.RowKit Go.Proofs.Ytkkfkccfnfjbiaa.PGr Go.Proofs.YtkkfkccfnfjbiaaW.PrintWords Go.Proofs.YtkkfkccfnfjbiaaW.PrintLast Go.Proofs.Ytkkfkccfnfjbiaa.Hl Go.Proofs.Ytkkfkccfnfjbiaa.Hr
set_option linter.unusedSimpArgs false
set_option linter.unusedVariables false
theorem take_set_lt {α : Type} (l : List α) (i n : Nat) (v : α) (h : i < n) : (l.set i v).take n = (l.take n).set i v := by
  rw [List.take_set]
/-- What is put there reads. -/
def Good (w0 : World) (x : RH) : Prop := x.v.f0.length ≤ x.c ∧ Kd.C k37 w0 x.A x.v.f0.length x.v.f0
theorem Heap.set {u w0 w : World} {gb g c : Nat} {hs : List RH} (h : Heap u w0 w gb g c hs) (i : Nat) (hi : i < hs.length) (x : RH) (hx : Good w0 x) :
    Heap u w0 ((w.setCell ⟨g, i * 2, none⟩ (.slice x.A x.v.f0.length x.c)).setCell ⟨g, i * 2 + 1, none⟩ (.int .i64 x.v.f1)) gb g c (hs.set i x) := by
  obtain ⟨cur, h1, h2, h3⟩ := h.row
  have hle := h.le
  refine ⟨(h.below.setCell (p := ⟨g, i * 2, none⟩) h.hg _).setCell (p := ⟨g, i * 2 + 1, none⟩) h.hg _, (h.far.set (p := ⟨g, i * 2, none⟩) (.inr (.inr rfl)) _).set (p := ⟨g, i * 2 + 1, none⟩) (.inr (.inr rfl)) _, h.hb, h.hg, ?_, ⟨_, blk_set (blk_set h1 _ _) _ _, ?_, ?_⟩, ?_, h.max, ?_, ?_⟩
  · have := blk_far (p := ⟨g, i * 2 + 1, none⟩) (blk_far (p := ⟨g, i * 2, none⟩) h.box h.ne (.slice x.A x.v.f0.length x.c)) h.ne (.int .i64 x.v.f1)
    rw [List.length_set]; exact this
  · simpa using h2
  · rw [List.length_set, ← rowH_set hs i x hi, ← h3, Array.toList_setIfInBounds, Array.toList_setIfInBounds, take_set_lt _ _ _ _ (by omega), take_set_lt _ _ _ _ (by omega)]
  · rw [List.length_set]; exact hle
  · rw [List.length_set]; exact h.few
  · intro y hy
    rcases List.mem_or_eq_of_mem_set hy with hy | rfl
    · exact h.each y hy
    · exact hx
set_option maxHeartbeats 4000000 in
set_option maxRecDepth 100000 in
theorem swap_calls {u w0 w : World} {gb g c : Nat} {hs : List RH} (h : Heap u w0 w gb g c hs) (i j : Nat) (hi : i < hs.length) (hj : j < hs.length) (hne : i ≠ j) :
    Calls Try.prog 84 #[.slice (some ⟨g, 0, none⟩) hs.length c, .int .i64 (i : Int), .int .i64 (j : Int)] w fun e w' => e = .returned (.tuple #[]) ∧ Heap u w0 w' gb g c ((hs.set i hs[j]).set j hs[i]) := by
  have hu56 := Try.underlying56
  have mixed : Try.prog.follows Departure.mixedOrders = true := by kernel_rfl
  have H0 := Aside0.mk ((Heap.set (Heap.set h i hi hs[j] (h.each _ (List.getElem_mem hj))) j (by rw [List.length_set]; exact hj) hs[i] (h.each _ (List.getElem_mem hi))))
  have ci0 := h.cell0 i hi
  have ci1 := h.cell1 i hi
  have cj0 := h.cell0 j hj
  have cj1 := h.cell1 j hj
  obtain ⟨cur, h1, h2, h3⟩ := h.row
  have fi0 := blk_frozen h1 (i * 2)
  have fi1 := blk_frozen h1 (i * 2 + 1)
  have fj0 := blk_frozen h1 (j * 2)
  have fj1 := blk_frozen h1 (j * 2 + 1)
  have q1 : (0 ≤ (i : Int)) = True := eq_true (by omega)
  have q2 : ((i : Int) < (hs.length : Int)) = True := eq_true (by omega)
  have q3 : (i < hs.length) = True := eq_true hi
  have q4 : (0 ≤ (j : Int)) = True := eq_true (by omega)
  have q5 : ((j : Int) < (hs.length : Int)) = True := eq_true (by omega)
  have q6 : (j < hs.length) = True := eq_true hj
  have q7 : (i = j) = False := eq_false hne
  have q8 : (j = i) = False := eq_false (Ne.symm hne)
  have q9 : (j * 2 = i * 2) = False := eq_false (by omega)
  have q10 : (i * 2 = j * 2) = False := eq_false (by omega)
  have q11 : (j * 2 = i * 2 + 1) = False := eq_false (by omega)
  have q12 : (i * 2 + 1 = j * 2) = False := eq_false (by omega)
  have q13 : (j * 2 + 1 = i * 2) = False := eq_false (by omega)
  have q14 : (i * 2 = j * 2 + 1) = False := eq_false (by omega)
  have q15 : (j * 2 + 1 = i * 2 + 1) = False := eq_false (by omega)
  have q16 : (i * 2 + 1 = j * 2 + 1) = False := eq_false (by omega)
  have HG := Aside0.mk (⟨hi, hj, hne⟩ : _ ∧ _ ∧ _)
  generalize hs[i] = x at *
  generalize hs[j] = y at *
  clear h h1 h2 h3 hne
  go_enter Try.func84, Try.ntmps84
  go_region_law_o (fail)
  all_goals
    refine bodyPost_end (v := .tuple #[]) (by simp [results, Try.f84]) rfl ?_
    exact ⟨rfl, H0.out.later (below_drew (Below.refl _ _))⟩
end Go.Proofs.Ytkkfkccfnfjbiaa.Hs
namespace Go.Proofs.Ytkkfkccfnfjbiaa.Ht
open Go Go.RowKit Go.Proofs.Ytkkfkccfnfjbiaa.PGr Go.Proofs.YtkkfkccfnfjbiaaW.PrintWords Go.Proofs.YtkkfkccfnfjbiaaW.PrintLast Go.Proofs.Ytkkfkccfnfjbiaa.Hl Go.Proofs.Ytkkfkccfnfjbiaa.Hr Go.Proofs.Ytkkfkccfnfjbiaa.Hs
set_option linter.unusedSimpArgs false
set_option linter.unusedVariables false
theorem wrapNil (ts : Array TypeId) (t : TypeId) (a : Addr) (s m : ByteArray) : Builtin.ssaWrapNilChk_ ts t #[.pointer (some a), .string s, .string m] = pure (.pointer (some a)) := rfl
/-- A method with a value receiver, reached through a pointer to a slice. -/
theorem meth_val {P : Program} (T E : TypeId) (name : String) (f : FuncId) (hm : ((P.info? T).bind fun i => i.methods.find? (·.name == name)).map (fun m => (m.func, m.path.toList)) = some (some (f, false), [])) (hu : P.underlying T = some (.pointer E)) {d : TypeId} (hE : P.underlying E = some (.slice d)) (n : Nat) (a : Addr) (v : Value) (w : World) (hc : w.cell? a = some v) :
    Sem.run P (method (n + 1) T (.pointer (some a)) name) w = .ok (f, v) w := by
  obtain ⟨m, hm1, hm2⟩ := Option.map_eq_some_iff.1 hm
  obtain ⟨i, hi, hf⟩ := Option.bind_eq_some_iff.1 hm1
  simp only [Prod.mk.injEq] at hm2
  obtain ⟨e1, e2⟩ := hm2
  have hp : m.path = #[] := by simpa using e2
  unfold method
  simp [typeInfo, hi, hf, e1, follow, receiverAt, run_underlying hu, run_underlying hE, Place.get, hp, asAddr, strVal, wrapNil, loadVar, isAgg, run_load, hc, go_sem]
theorem meth_ptr {P : Program} (T E : TypeId) (name : String) (f : FuncId) (hm : ((P.info? T).bind fun i => i.methods.find? (·.name == name)).map (fun m => (m.func, m.path.toList)) = some (some (f, true), [])) (hu : P.underlying T = some (.pointer E)) (n : Nat) (a : Addr) (w : World) :
    Sem.run P (method (n + 1) T (.pointer (some a)) name) w = .ok (f, .pointer (some a)) w := by
  obtain ⟨m, hm1, hm2⟩ := Option.map_eq_some_iff.1 hm
  obtain ⟨i, hi, hf⟩ := Option.bind_eq_some_iff.1 hm1
  simp only [Prod.mk.injEq] at hm2
  obtain ⟨e1, e2⟩ := hm2
  have hp : m.path = #[] := by simpa using e2
  unfold method
  simp [typeInfo, hi, hf, e1, follow, receiverAt, run_underlying hu, Place.get, hp, asAddr, strVal, wrapNil, loadVar, isAgg, run_load, go_sem]
theorem mLen (a : Addr) (v : Value) (w : World) (hc : w.cell? a = some v) : Sem.run Try.prog (method 223 58 (.pointer (some a)) "Len") w = .ok (82, v) w := meth_val 58 54 _ _ (by kernel_rfl) Try.underlying58 Try.underlying54 _ a v w hc
theorem mLess (a : Addr) (v : Value) (w : World) (hc : w.cell? a = some v) : Sem.run Try.prog (method 223 58 (.pointer (some a)) "Less") w = .ok (83, v) w := meth_val 58 54 _ _ (by kernel_rfl) Try.underlying58 Try.underlying54 _ a v w hc
theorem mSwap (a : Addr) (v : Value) (w : World) (hc : w.cell? a = some v) : Sem.run Try.prog (method 223 58 (.pointer (some a)) "Swap") w = .ok (84, v) w := meth_val 58 54 _ _ (by kernel_rfl) Try.underlying58 Try.underlying54 _ a v w hc
theorem mPop (a : Addr) (w : World) : Sem.run Try.prog (method 223 58 (.pointer (some a)) "Pop") w = .ok (88, .pointer (some a)) w := meth_ptr 58 54 _ _ (by kernel_rfl) Try.underlying58 _ a w
theorem e82 : ∀ args w, (callFunc 82 args).run Try.prog w = .ok (.enter 82 args) w := enters_of Try.func82 (by kernel_rfl) rfl
theorem e83 : ∀ args w, (callFunc 83 args).run Try.prog w = .ok (.enter 83 args) w := enters_of Try.func83 (by kernel_rfl) rfl
theorem e84 : ∀ args w, (callFunc 84 args).run Try.prog w = .ok (.enter 84 args) w := enters_of Try.func84 (by kernel_rfl) rfl
theorem e88 : ∀ args w, (callFunc 88 args).run Try.prog w = .ok (.enter 88 args) w := enters_of Try.func88 (by kernel_rfl) rfl
/-- Which of two heads comes first. -/
def lessB (x y : S56) : Bool := Op.bytesLess (rd_T37 x.f0 0).f0.toList (rd_T37 y.f0 0).f0.toList || (!(Op.bytesLess (rd_T37 y.f0 0).f0.toList (rd_T37 x.f0 0).f0.toList) && decide (x.f1 < y.f1))
def at_ (vs : List S56) (i : Nat) : S56 := vs.getD i z56
theorem cmp_str (a b : ByteArray) : cmp_Compare_string.f a b = some (if Op.bytesLess a.toList b.toList = true then -1 else if Op.bytesLess b.toList a.toList = true then 1 else 0) := by
  unfold cmp_Compare_string.f cmp_isNaN_string.f
  simp
  repeat' split
  all_goals rfl
theorem cmp_int (a b : Int) : cmp_Compare_int.f a b = some (if a < b then -1 else if b < a then 1 else 0) := by
  unfold cmp_Compare_int.f cmp_isNaN_int.f
  simp
  repeat' split
  all_goals rfl
theorem cmp_or (a b : Int) : cmp_Or_int.f 3 [a, b] = some (if a = 0 then b else a) := by
  unfold cmp_Or_int.f
  simp only [cmp_Or_int.l0, List.length_cons, List.length_nil]
  simp [rd, wrap64]
  split
  · split <;> simp_all
  · rfl
theorem less_f (vs : List S56) (i j : Nat) (hi : i < vs.length) (hj : j < vs.length) (h1 : (at_ vs i).f0 ≠ []) (h2 : (at_ vs j).f0 ≠ []) : run_heads_Less.f 3 vs (i : Int) (j : Int) = some (lessB (at_ vs i) (at_ vs j)) := by
  have g1 : 0 < (at_ vs i).f0.length := List.length_pos_iff.2 h1
  have g2 : 0 < (at_ vs j).f0.length := List.length_pos_iff.2 h2
  have e1 : rd_T56 vs (i : Int) = at_ vs i := rfl
  have e2 : rd_T56 vs (j : Int) = at_ vs j := rfl
  unfold run_heads_Less.f run_byKey.f
  rw [e1, e2, if_pos (by omega), if_pos (by omega), if_pos (by omega), if_pos (by omega), if_pos (by omega), if_pos (by omega)]
  simp only [cmp_str, cmp_int, cmp_or, Option.bind_some, lessB]
  congr 1
  generalize Op.bytesLess (rd_T37 (at_ vs i).f0 0).f0.toList (rd_T37 (at_ vs j).f0 0).f0.toList = p
  generalize Op.bytesLess (rd_T37 (at_ vs j).f0 0).f0.toList (rd_T37 (at_ vs i).f0 0).f0.toList = q
  generalize (at_ vs i).f1 = a
  generalize (at_ vs j).f1 = b
  cases p <;> cases q <;> simp <;> split <;> simp_all <;> split <;> simp_all <;> omega
/-- The row by its values. -/
def HeapV (u w0 w : World) (gb g c : Nat) (vs : List S56) : Prop := ∃ hs, vals hs = vs ∧ Heap u w0 w gb g c hs
def swp (vs : List S56) (i j : Nat) : List S56 := (vs.set i (at_ vs j)).set j (at_ vs i)
theorem swp_len (vs : List S56) (i j : Nat) : (swp vs i j).length = vs.length := by simp [swp]
theorem HeapV.later {u w0 w w1 : World} {gb g c : Nat} {vs : List S56} (h : HeapV u w0 w gb g c vs) (hb : Below w.heap.size w w1) : HeapV u w0 w1 gb g c vs := by
  obtain ⟨hs, e, h⟩ := h
  exact ⟨hs, e, h.later hb⟩
theorem HeapV.head {u w0 w : World} {gb g c : Nat} {vs : List S56} (h : HeapV u w0 w gb g c vs) : w.cell? ⟨gb, 0, none⟩ = some (.slice (some ⟨g, 0, none⟩) vs.length c) := by
  obtain ⟨hs, rfl, h⟩ := h
  rw [vals_len]
  exact (blk_cell h.box 0).trans rfl
theorem HeapV.few {u w0 w : World} {gb g c : Nat} {vs : List S56} (h : HeapV u w0 w gb g c vs) : vs.length ≤ 1000 ∧ vs.length ≤ c := by
  obtain ⟨hs, rfl, h⟩ := h
  rw [vals_len]
  exact ⟨h.few, h.le⟩
theorem len_v {u w0 w : World} {gb g c : Nat} {vs : List S56} (h : HeapV u w0 w gb g c vs) : Calls Try.prog 82 #[.slice (some ⟨g, 0, none⟩) vs.length c] w fun e w' => e = .returned (.int .i64 (vs.length : Int)) ∧ HeapV u w0 w' gb g c vs := by
  obtain ⟨hs, rfl, h⟩ := h
  refine (run_heads_Len.calls _ c (vals hs) _ w h.reads (by rw [vals_len]; exact h.le) rfl).mono fun e w' ⟨he, hw⟩ => ⟨he, hs, rfl, ?_⟩
  obtain ⟨n, rfl⟩ := hw.out
  exact h.later (pw_below_drewN (Below.refl _ _) n)
theorem less_v {u w0 w : World} {gb g c : Nat} {vs : List S56} (h : HeapV u w0 w gb g c vs) (i j : Nat) (hi : i < vs.length) (hj : j < vs.length) (h1 : (at_ vs i).f0 ≠ []) (h2 : (at_ vs j).f0 ≠ []) : Calls Try.prog 83 #[.slice (some ⟨g, 0, none⟩) vs.length c, .int .i64 (i : Int), .int .i64 (j : Int)] w fun e w' => e = .returned (.bool (lessB (at_ vs i) (at_ vs j))) ∧ HeapV u w0 w' gb g c vs := by
  have hf := less_f vs i j hi hj h1 h2
  obtain ⟨hs, rfl, h⟩ := h
  exact (run_heads_Less.calls 3 _ c (vals hs) _ _ _ w h.reads (by rw [vals_len]; exact h.le) hf).mono fun e w' ⟨he, hw⟩ => ⟨he, hs, rfl, h.later hw⟩
theorem vals_set (hs : List RH) (i : Nat) (x : RH) : vals (hs.set i x) = (vals hs).set i x.v := by simp [vals]
theorem at_vals (hs : List RH) (i : Nat) (h : i < hs.length) : at_ (vals hs) i = hs[i].v := by
  simp [at_, vals, List.getD_eq_getElem?_getD, List.getElem?_eq_getElem h]
set_option maxHeartbeats 4000000 in
set_option maxRecDepth 100000 in
theorem swap_same {u w0 w : World} {gb g c : Nat} {hs : List RH} (h : Heap u w0 w gb g c hs) (i : Nat) (hi : i < hs.length) :
    Calls Try.prog 84 #[.slice (some ⟨g, 0, none⟩) hs.length c, .int .i64 (i : Int), .int .i64 (i : Int)] w fun e w' => e = .returned (.tuple #[]) ∧ Heap u w0 w' gb g c ((hs.set i hs[i]).set i hs[i]) := by
  have hu56 := Try.underlying56
  have mixed : Try.prog.follows Departure.mixedOrders = true := by kernel_rfl
  have H0 := Aside0.mk ((Heap.set (Heap.set h i hi hs[i] (h.each _ (List.getElem_mem hi))) i (by rw [List.length_set]; exact hi) hs[i] (h.each _ (List.getElem_mem hi))))
  have ci0 := h.cell0 i hi
  have ci1 := h.cell1 i hi
  obtain ⟨cur, h1, h2, h3⟩ := h.row
  have fi0 := blk_frozen h1 (i * 2)
  have fi1 := blk_frozen h1 (i * 2 + 1)
  have q1 : (0 ≤ (i : Int)) = True := eq_true (by omega)
  have q2 : ((i : Int) < (hs.length : Int)) = True := eq_true (by omega)
  have q3 : (i < hs.length) = True := eq_true hi
  have HG := Aside0.mk hi
  generalize hs[i] = x at *
  clear h h1 h2 h3
  go_enter Try.func84, Try.ntmps84
  go_region_law_o (fail)
  all_goals
    refine bodyPost_end (v := .tuple #[]) (by simp [results, Try.f84]) rfl ?_
    exact ⟨rfl, H0.out.later (below_drew (Below.refl _ _))⟩
theorem swap_v {u w0 w : World} {gb g c : Nat} {vs : List S56} (h : HeapV u w0 w gb g c vs) (i j : Nat) (hi : i < vs.length) (hj : j < vs.length) : Calls Try.prog 84 #[.slice (some ⟨g, 0, none⟩) vs.length c, .int .i64 (i : Int), .int .i64 (j : Int)] w fun e w' => e = .returned (.tuple #[]) ∧ HeapV u w0 w' gb g c (swp vs i j) := by
  obtain ⟨hs, rfl, h⟩ := h
  rw [vals_len] at hi hj ⊢
  by_cases hne : i = j
  · subst hne
    exact (swap_same h i hi).mono fun e w' ⟨he, hw⟩ => ⟨he, _, by rw [vals_set, vals_set, swp, at_vals _ _ hi], hw⟩
  · exact (swap_calls h i j hi hj hne).mono fun e w' ⟨he, hw⟩ => ⟨he, _, by rw [vals_set, vals_set, swp, at_vals _ _ hi, at_vals _ _ hj], hw⟩
end Go.Proofs.Ytkkfkccfnfjbiaa.Ht
namespace Go.Proofs.Ytkkfkccfnfjbiaa.Hu
open Go Go.RowKit Go.Proofs.Ytkkfkccfnfjbiaa.PGr Go.Proofs.YtkkfkccfnfjbiaaW.PrintWords Go.Proofs.YtkkfkccfnfjbiaaW.PrintLast Go.Proofs.Ytkkfkccfnfjbiaa.Hl Go.Proofs.Ytkkfkccfnfjbiaa.Hr Go.Proofs.Ytkkfkccfnfjbiaa.Hs Go.Proofs.Ytkkfkccfnfjbiaa.Ht
set_option linter.unusedSimpArgs false
set_option linter.unusedVariables false
def kid (vs : List S56) (i n : Nat) : Nat := if 2 * i + 2 < n ∧ lessB (at_ vs (2 * i + 2)) (at_ vs (2 * i + 1)) = true then 2 * i + 2 else 2 * i + 1
def downL : Nat → List S56 → Nat → Nat → Option (List S56 × Nat)
  | 0, _, _, _ => none
  | k + 1, vs, i, n => if n ≤ 2 * i + 1 then some (vs, i) else if lessB (at_ vs (kid vs i n)) (at_ vs i) = true then downL k (swp vs i (kid vs i n)) (kid vs i n) n else some (vs, i)
/-- None of the first n is empty. -/
def Full (vs : List S56) (n : Nat) : Prop := ∀ m, m < n → (at_ vs m).f0 ≠ []
theorem at_swp (vs : List S56) (i j m : Nat) (hi : i < vs.length) (hj : j < vs.length) : at_ (swp vs i j) m = if m = j then at_ vs i else if m = i then at_ vs j else at_ vs m := by
  unfold swp at_
  rw [List.getD_eq_getElem?_getD, List.getElem?_set]
  split
  · rename_i h; subst h
    rw [if_pos (by rw [List.length_set]; exact hj), if_pos rfl]; rfl
  · rename_i h
    rw [if_neg (Ne.symm h), List.getElem?_set]
    split
    · rename_i h2; subst h2; rw [if_pos rfl]; simp [List.getElem?_eq_getElem hi]
    · rename_i h2; rw [if_neg (Ne.symm h2), List.getD_eq_getElem?_getD]
theorem full_swp {vs : List S56} {n : Nat} (h : Full vs n) (i j : Nat) (hi : i < n) (hj : j < n) (hn : n ≤ vs.length) : Full (swp vs i j) n := by
  intro m hm
  rw [at_swp vs i j m (by omega) (by omega)]
  split
  · exact h i hi
  · split
    · exact h j hj
    · exact h m hm
theorem kid_lt (vs : List S56) (i n : Nat) (h : ¬ n ≤ 2 * i + 1) : kid vs i n < n ∧ i < kid vs i n := by
  unfold kid; split <;> omega
set_option maxHeartbeats 4000000 in
set_option maxRecDepth 100000 in
theorem down_v {u w0 w : World} {gb g c : Nat} {vs : List S56} (hv : HeapV u w0 w gb g c vs) (i n k : Nat) (vs' : List S56) (i' : Nat) (hd : downL k vs i n = some (vs', i')) (hn : n ≤ vs.length) (hi : i ≤ n) (hf : Full vs n) :
    Calls Try.prog 50 #[.iface 58 (.pointer (some ⟨gb, 0, none⟩)), .int .i64 (i : Int), .int .i64 (n : Int)] w fun e w' => e = .returned (.bool (decide (i < i'))) ∧ HeapV u w0 w' gb g c vs' := by
  have HV := Aside0.mk hv
  have HD := Aside0.mk hd
  have HF := Aside0.mk hf
  have HN := Aside0.mk hn
  have hn1 : (n : Int) ≤ 1000 := by have := hv.few; omega
  have c83 := e83
  have c84 := e84
  clear hv hd hf
  go_enter Try.func50, Try.ntmps50
  go_wp2
  go_loopg [7] k (fun kq v7 w' => ∃ (m : Nat) (us : List S56), v7 = .int .i64 (m : Int) ∧ m ≤ n ∧ Aside0 (HeapV u w0 w' gb g c us) ∧ Aside0 (downL kq us m n = some (vs', i')) ∧ Aside0 (Full us n) ∧ Aside0 (us.length = vs.length))
  case atStart => exact ⟨i, vs, rfl, hi, HV, HD, HF, ⟨rfl⟩⟩
  case round =>
    obtain ⟨m, us, rfl, hm, HU, HDU, HFU, HLU⟩ := hrel
    rcases gk with _ | kq
    · exact absurd HDU.out (by simp [downL])
    · have hdu := HDU.out
      rw [downL] at hdu
      by_cases h1 : n ≤ 2 * m + 1
      · rw [if_pos h1] at hdu
        simp only [Option.some.injEq, Prod.mk.injEq] at hdu
        obtain ⟨rfl, rfl⟩ := hdu
        have t1 : decide ((n : Int) ≤ 2 * (m : Int) + 1) = true := decide_eq_true (by omega)
        go_wp2
        go_ret
        exact ⟨by simp, HU.out⟩
      · rw [if_neg h1] at hdu
        have t1 : decide ((n : Int) ≤ 2 * (m : Int) + 1) = false := decide_eq_false (by omega)
        have t2 : decide (2 * (m : Int) + 1 < 0) = false := decide_eq_false (by omega)
        have hj1 := kid_lt us m n h1
        obtain ⟨j, hj⟩ : ∃ j, kid us m n = j := ⟨_, rfl⟩
        rw [hj] at hdu hj1
        have HFS := Aside0.mk (full_swp HFU.out m j (by omega) hj1.1 (by rw [HLU.out]; exact HN.out))
        have HLSW := Aside0.mk ((swp_len us m j).trans HLU.out)
        have HLS := Aside0.mk (fun w' (hh : HeapV u w0 w' gb g c us) => less_v hh j m (by have := HN.out; have := HLU.out; omega) (by have := HN.out; have := HLU.out; omega) (HFU.out _ hj1.1) (HFU.out _ (by omega)))
        have HSW := Aside0.mk (fun w' (hh : HeapV u w0 w' gb g c us) => swap_v hh m j (by have := HN.out; have := HLU.out; omega) (by have := HN.out; have := HLU.out; omega))
        have ml := mLess _ _ _ HU.out.head
        by_cases h2 : 2 * m + 2 < n
        · have t3 : decide (2 * (m : Int) + 1 + 1 < (n : Int)) = true := decide_eq_true (by omega)
          have HL2 := Aside0.mk (less_v HU.out (2 * m + 2) (2 * m + 1) (by have := HN.out; have := HLU.out; omega) (by have := HN.out; have := HLU.out; omega) (HFU.out _ h2) (HFU.out _ (by omega)))
          rw [show ((2 * m + 2 : Nat) : Int) = 2 * (m : Int) + 1 + 1 by omega, show ((2 * m + 1 : Nat) : Int) = 2 * (m : Int) + 1 by omega] at HL2
          cases hb : lessB (at_ us (2 * m + 2)) (at_ us (2 * m + 1)) with
          | true =>
            rw [hb] at HL2
            have hje : j = 2 * m + 2 := by rw [← hj, kid, if_pos ⟨h2, hb⟩]
            have HJ := Aside0.mk (show (j : Int) = 2 * (m : Int) + 1 + 1 by omega)
            rw [HJ.out] at HLS HSW
            clear hb hje hj
            cases hb2 : lessB (at_ us j) (at_ us m) with
            | true =>
              rw [hb2] at HLS hdu
              rw [if_pos rfl] at hdu
              have HDN := Aside0.mk hdu
              clear hdu
              clear hb2
              go_wp2_with (first | (go_at_fn 83; (with_reducible refine HL2.out.mono ?_); rintro e w1 ⟨rfl, hh⟩; have HU1 := Aside0.mk hh; have ml1 := mLess _ _ _ hh.head; clear hh) | (go_at_fn 83; (with_reducible refine (HLS.out _ HU1.out).mono ?_); rintro e w2 ⟨rfl, hh⟩; have HU2 := Aside0.mk hh; have ms2 := mSwap _ _ _ hh.head; clear hh) | (go_at_fn 84; (with_reducible refine (HSW.out _ HU2.out).mono ?_); rintro e w3 ⟨rfl, hh⟩; have HU3 := Aside0.mk hh; clear hh))
              go_roundg kq
              case measure => omega
              case rel => exact ⟨j, swp us m j, by rw [HJ.out], by omega, HU3, HDN, HFS, HLSW⟩
            | false =>
              rw [hb2] at HLS hdu
              rw [if_neg (by decide)] at hdu
              simp only [Option.some.injEq, Prod.mk.injEq] at hdu
              obtain ⟨rfl, rfl⟩ := hdu
              clear hb2
              go_wp2_with (first | (go_at_fn 83; (with_reducible refine HL2.out.mono ?_); rintro e w1 ⟨rfl, hh⟩; have HU1 := Aside0.mk hh; have ml1 := mLess _ _ _ hh.head; clear hh) | (go_at_fn 83; (with_reducible refine (HLS.out _ HU1.out).mono ?_); rintro e w2 ⟨rfl, hh⟩; have HU2 := Aside0.mk hh; have ms2 := mSwap _ _ _ hh.head; clear hh))
              go_ret
              exact ⟨by simp, HU2.out⟩
          | false =>
            rw [hb] at HL2
            have hje : j = 2 * m + 1 := by rw [← hj, kid, if_neg (by rw [hb]; simp)]
            have HJ := Aside0.mk (show (j : Int) = 2 * (m : Int) + 1 by omega)
            rw [HJ.out] at HLS HSW
            clear hb hje hj
            cases hb2 : lessB (at_ us j) (at_ us m) with
            | true =>
              rw [hb2] at HLS hdu
              rw [if_pos rfl] at hdu
              have HDN := Aside0.mk hdu
              clear hdu
              clear hb2
              go_wp2_with (first | (go_at_fn 83; (with_reducible refine HL2.out.mono ?_); rintro e w1 ⟨rfl, hh⟩; have HU1 := Aside0.mk hh; have ml1 := mLess _ _ _ hh.head; clear hh) | (go_at_fn 83; (with_reducible refine (HLS.out _ HU1.out).mono ?_); rintro e w2 ⟨rfl, hh⟩; have HU2 := Aside0.mk hh; have ms2 := mSwap _ _ _ hh.head; clear hh) | (go_at_fn 84; (with_reducible refine (HSW.out _ HU2.out).mono ?_); rintro e w3 ⟨rfl, hh⟩; have HU3 := Aside0.mk hh; clear hh))
              go_roundg kq
              case measure => omega
              case rel => exact ⟨j, swp us m j, by rw [HJ.out], by omega, HU3, HDN, HFS, HLSW⟩
            | false =>
              rw [hb2] at HLS hdu
              rw [if_neg (by decide)] at hdu
              simp only [Option.some.injEq, Prod.mk.injEq] at hdu
              obtain ⟨rfl, rfl⟩ := hdu
              clear hb2
              go_wp2_with (first | (go_at_fn 83; (with_reducible refine HL2.out.mono ?_); rintro e w1 ⟨rfl, hh⟩; have HU1 := Aside0.mk hh; have ml1 := mLess _ _ _ hh.head; clear hh) | (go_at_fn 83; (with_reducible refine (HLS.out _ HU1.out).mono ?_); rintro e w2 ⟨rfl, hh⟩; have HU2 := Aside0.mk hh; have ms2 := mSwap _ _ _ hh.head; clear hh))
              go_ret
              exact ⟨by simp, HU2.out⟩
        · have t3 : decide (2 * (m : Int) + 1 + 1 < (n : Int)) = false := decide_eq_false (by omega)
          have hje : j = 2 * m + 1 := by rw [← hj, kid, if_neg (by omega)]
          have HJ := Aside0.mk (show (j : Int) = 2 * (m : Int) + 1 by omega)
          rw [HJ.out] at HLS HSW
          clear hje hj
          cases hb2 : lessB (at_ us j) (at_ us m) with
          | true =>
            rw [hb2] at HLS hdu
            rw [if_pos rfl] at hdu
            have HDN := Aside0.mk hdu
            clear hdu
            clear hb2
            go_wp2_with (first | (go_at_fn 83; (with_reducible refine (HLS.out _ HU.out).mono ?_); rintro e w2 ⟨rfl, hh⟩; have HU2 := Aside0.mk hh; have ms2 := mSwap _ _ _ hh.head; clear hh) | (go_at_fn 84; (with_reducible refine (HSW.out _ HU2.out).mono ?_); rintro e w3 ⟨rfl, hh⟩; have HU3 := Aside0.mk hh; clear hh))
            go_roundg kq
            case measure => omega
            case rel => exact ⟨j, swp us m j, by rw [HJ.out], by omega, HU3, HDN, HFS, HLSW⟩
          | false =>
            rw [hb2] at HLS hdu
            rw [if_neg (by decide)] at hdu
            simp only [Option.some.injEq, Prod.mk.injEq] at hdu
            obtain ⟨rfl, rfl⟩ := hdu
            clear hb2
            go_wp2_with (first | (go_at_fn 83; (with_reducible refine (HLS.out _ HU.out).mono ?_); rintro e w2 ⟨rfl, hh⟩; have HU2 := Aside0.mk hh; have ms2 := mSwap _ _ _ hh.head; clear hh))
            go_ret
            exact ⟨by simp, HU2.out⟩
end Go.Proofs.Ytkkfkccfnfjbiaa.Hu
namespace Go.Proofs.Ytkkfkccfnfjbiaa.Hv
open Go Go.RowKit Go.Proofs.Ytkkfkccfnfjbiaa.PGr Go.Proofs.YtkkfkccfnfjbiaaW.PrintWords Go.Proofs.YtkkfkccfnfjbiaaW.PrintLast Go.Proofs.Ytkkfkccfnfjbiaa.Hl Go.Proofs.Ytkkfkccfnfjbiaa.Hr Go.Proofs.Ytkkfkccfnfjbiaa.Hs Go.Proofs.Ytkkfkccfnfjbiaa.Ht Go.Proofs.Ytkkfkccfnfjbiaa.Hu
set_option linter.unusedSimpArgs false
set_option linter.unusedVariables false
theorem down_keeps : ∀ (k : Nat) (vs : List S56) (i n : Nat) (vs' : List S56) (i' : Nat), downL k vs i n = some (vs', i') → n ≤ vs.length → Full vs n → vs'.length = vs.length ∧ Full vs' n
  | 0, vs, i, n, vs', i', h, _, _ => by simp [downL] at h
  | k + 1, vs, i, n, vs', i', h, hn, hf => by
    rw [downL] at h
    by_cases h1 : n ≤ 2 * i + 1
    · rw [if_pos h1] at h
      simp only [Option.some.injEq, Prod.mk.injEq] at h
      obtain ⟨rfl, rfl⟩ := h
      exact ⟨rfl, hf⟩
    · rw [if_neg h1] at h
      have hk := kid_lt vs i n h1
      split at h
      · have := down_keeps k _ _ n vs' i' h (by rw [swp_len]; exact hn) (full_swp hf _ _ (by omega) hk.1 hn)
        rw [swp_len] at this
        exact this
      · simp only [Option.some.injEq, Prod.mk.injEq] at h
        obtain ⟨rfl, rfl⟩ := h
        exact ⟨rfl, hf⟩
def initL (n : Nat) : Nat → List S56 → Option (List S56)
  | 0, vs => some vs
  | i + 1, vs => (downL (n + 1) vs i n).bind fun r => initL n i r.1
set_option maxHeartbeats 4000000 in
set_option maxRecDepth 100000 in
theorem up_zero (w : World) (v : Value) : Calls Try.prog 51 #[v, .int .i64 0] w fun e w' => e = .returned (.tuple #[]) ∧ w' = w := by
  go_enter Try.func51, Try.ntmps51
  go_wp2
  refine wp_loop_rounds 1 ?_
  rw [rounds_succ]
  go_wp2
  refine bodyPost_end (v := .tuple #[]) (by simp [results, Try.f51]) rfl ?_
  exact ⟨rfl, rfl⟩
set_option maxHeartbeats 4000000 in
set_option maxRecDepth 100000 in
theorem init_v {u w0 w : World} {gb g c : Nat} {vs : List S56} (hv : HeapV u w0 w gb g c vs) (vs' : List S56) (hd : initL vs.length (vs.length / 2) vs = some vs') (hf : Full vs vs.length) :
    Calls Try.prog 31 #[.iface 58 (.pointer (some ⟨gb, 0, none⟩))] w fun e w' => e = .returned (.tuple #[]) ∧ HeapV u w0 w' gb g c vs' := by
  have hml := mLen _ _ _ hv.head
  have hn1 : (vs.length : Int) ≤ 1000 := by have := hv.few; omega
  obtain ⟨n, hn⟩ : ∃ n, vs.length = n := ⟨_, rfl⟩
  have HLV := Aside0.mk (len_v hv)
  rw [hn] at hml hn1 HLV hd hf
  have HN := Aside0.mk hn
  have HD := Aside0.mk hd
  have HF := Aside0.mk hf
  have c82 := e82
  clear hd hf hn hv
  go_enter Try.func31, Try.ntmps31
  go_wp2_with (first | (go_at_fn 82; (with_reducible refine HLV.out.mono ?_); rintro e w1 ⟨rfl, hh⟩; have HU1 := Aside0.mk hh; clear hh))
  go_loopg [3] (n / 2) (fun kq v3 w' => ∃ (us : List S56), v3 = .int .i64 ((kq : Int) - 1) ∧ Aside0 (kq ≤ n) ∧ Aside0 (HeapV u w0 w' gb g c us) ∧ Aside0 (initL n kq us = some vs') ∧ Aside0 (Full us n) ∧ Aside0 (us.length = n))
  case atStart => exact ⟨vs, by first | rfl | (congr 1; omega), ⟨by omega⟩, HU1, HD, HF, HN⟩
  case round =>
    obtain ⟨us, hv3, HK, HU, HDU, HFU, HLU⟩ := hrel
    rcases gk with _ | kq
    · subst hv3
      have hdu := HDU.out
      simp only [initL, Option.some.injEq] at hdu
      subst hdu
      go_wp2
      refine bodyPost_end (v := .tuple #[]) (by simp [results, Try.f31]) rfl ?_
      exact ⟨rfl, HU.out⟩
    · rw [show ((kq + 1 : Nat) : Int) - 1 = (kq : Int) by omega] at hv3
      subst hv3
      have hdu := HDU.out
      rw [initL] at hdu
      obtain ⟨r, h1, h2⟩ := Option.bind_eq_some_iff.1 hdu
      obtain ⟨us', i'⟩ := r
      have hk := down_keeps _ _ _ _ _ _ h1 (by rw [HLU.out]; exact Nat.le_refl _) HFU.out
      have HLU' := Aside0.mk (hk.1.trans HLU.out)
      have HFU' := Aside0.mk hk.2
      have HDU' := Aside0.mk h2
      have HDN := Aside0.mk (down_v HU.out kq n _ _ _ h1 (by rw [HLU.out]; exact Nat.le_refl _) (by have := HK.out; omega) HFU.out)
      have hkb : (kq : Int) ≤ 1000 := by have := HK.out; omega
      clear h1 h2 hk hdu
      go_wp2_with (go_at_call 50; (with_reducible refine HDN.out.mono ?_); rintro e w2 ⟨rfl, hh⟩; have HU2 := Aside0.mk hh; clear hh)
      go_roundg kq
      case measure => omega
      case rel => exact ⟨us', rfl, ⟨by have := HK.out; omega⟩, HU2, HDU', HFU', HLU'⟩
set_option maxHeartbeats 4000000 in
set_option maxRecDepth 100000 in
/-- Fix at the first place. -/
theorem fix_v {u w0 w : World} {gb g c : Nat} {vs : List S56} (hv : HeapV u w0 w gb g c vs) (vs' : List S56) (i' : Nat) (hd : downL (vs.length + 1) vs 0 vs.length = some (vs', i')) (hf : Full vs vs.length) :
    Calls Try.prog 32 #[.iface 58 (.pointer (some ⟨gb, 0, none⟩)), .int .i64 0] w fun e w' => e = .returned (.tuple #[]) ∧ HeapV u w0 w' gb g c vs' := by
  have hml := mLen _ _ _ hv.head
  obtain ⟨n, hn⟩ : ∃ n, vs.length = n := ⟨_, rfl⟩
  have HLV := Aside0.mk (len_v hv)
  have HDN := Aside0.mk (fun w1 (h1 : HeapV u w0 w1 gb g c vs) => down_v h1 0 vs.length _ _ _ hd (Nat.le_refl _) (by omega) hf)
  rw [hn, show ((0 : Nat) : Int) = 0 from rfl] at HDN
  rw [hn] at hml HLV
  have c82 := e82
  clear hd hf hn hv
  cases hb : decide (0 < i') with
  | true =>
    rw [hb] at HDN
    go_enter Try.func32, Try.ntmps32
    go_wp2_with (first | (go_at_fn 82; (with_reducible refine HLV.out.mono ?_); rintro e w1 ⟨rfl, hh⟩; have HU1 := Aside0.mk hh; clear hh) | (go_at_call 50; (with_reducible refine (HDN.out _ HU1.out).mono ?_); rintro e w2 ⟨rfl, hh⟩; have HU2 := Aside0.mk hh; clear hh))
    refine bodyPost_end (v := .tuple #[]) (by simp [results, Try.f32]) rfl ?_
    exact ⟨rfl, HU2.out⟩
  | false =>
    rw [hb] at HDN
    go_enter Try.func32, Try.ntmps32
    go_wp2_with (first | (go_at_fn 82; (with_reducible refine HLV.out.mono ?_); rintro e w1 ⟨rfl, hh⟩; have HU1 := Aside0.mk hh; clear hh) | (go_at_call 50; (with_reducible refine (HDN.out _ HU1.out).mono ?_); rintro e w2 ⟨rfl, hh⟩; have HU2 := Aside0.mk hh; clear hh) | (go_at_call 51; (with_reducible refine (up_zero _ _).mono ?_); rintro e w3 ⟨rfl, rfl⟩))
    refine bodyPost_end (v := .tuple #[]) (by simp [results, Try.f32]) rfl ?_
    exact ⟨rfl, HU2.out⟩
/-- The header cut by one. -/
theorem Heap.cut {u w0 w : World} {gb g c : Nat} {hs : List RH} (h : Heap u w0 w gb g c hs) (n : Nat) (hn : n ≤ hs.length) : Heap u w0 (w.setCell ⟨gb, 0, none⟩ (.slice (some ⟨g, 0, none⟩) n c)) gb g c (hs.take n) := by
  obtain ⟨cur, h1, h2, h3⟩ := h.row
  have hl : (hs.take n).length = n := by rw [List.length_take]; omega
  refine ⟨h.below.setCell (p := ⟨gb, 0, none⟩) h.hb _, h.far.set (p := ⟨gb, 0, none⟩) (.inr (.inl rfl)) _, h.hb, h.hg, ?_, ⟨cur, ?_, h2, ?_⟩, ?_, h.max, ?_, ?_⟩
  · rw [hl]; exact blk_put h.box 0 _ rfl
  · exact blk_far (p := ⟨gb, 0, none⟩) h1 (Ne.symm h.ne) _
  · rw [hl, show cur.toList.take (n * 2) = (cur.toList.take (hs.length * 2)).take (n * 2) by rw [List.take_take, Nat.min_eq_left (by omega)], h3]
    rw [show rowH hs = rowH (hs.take n) ++ rowH (hs.drop n) by rw [← rowH_app, List.take_append_drop], List.take_append_of_le_length (by rw [rowH_len, hl]; exact Nat.le_refl _), List.take_of_length_le (by rw [rowH_len, hl]; exact Nat.le_refl _)]
  · rw [hl]; have := h.le; omega
  · rw [hl]; have := h.few; omega
  · intro x hx; exact h.each x (List.mem_of_mem_take hx)
set_option maxHeartbeats 4000000 in
set_option maxRecDepth 100000 in
theorem cut_h {u w0 w : World} {gb g c : Nat} {hs : List RH} (h : Heap u w0 w gb g c hs) (n : Nat) (hn : hs.length = n + 1) :
    Calls Try.prog 88 #[.pointer (some ⟨gb, 0, none⟩)] w fun e w' => ∃ v, e = .returned v ∧ Heap u w0 w' gb g c (hs.take n) := by
  have hu56 := Try.underlying56
  have mixed : Try.prog.follows Departure.mixedOrders = true := by kernel_rfl
  have hc : w.cell? ⟨gb, 0, none⟩ = some (.slice (some ⟨g, 0, none⟩) (n + 1) c) := by have := (blk_cell h.box 0).trans rfl; rw [hn] at this; exact this
  have hfz := blk_frozen h.box 0
  have c0 := h.cell0 n (by omega)
  have c1 := h.cell1 n (by omega)
  have q1 : (n : Int) ≤ 1000 := by have := h.few; omega
  have hcn : n ≤ c := by have := h.le; omega
  have H0 := Aside0.mk h
  have HN := Aside0.mk hn
  have q2 : (0 ≤ (n : Int)) = True := eq_true (by omega)
  have q3 : ((n : Int) < (n : Int) + 1) = True := eq_true (by omega)
  have q4 : ((n : Int) ≤ (c : Int)) = True := eq_true (by omega)
  have q5 : IntKind.i64.wrap (n : Int) = (n : Int) := by rw [IntKind.wrap_i64]; omega
  have ha := h.later (below_alloc (Below.refl _ _) (Obj.cells #[Value.slice none 0 0, Value.int IntKind.i64 0] 56))
  have ca0 := ha.cell0 n (by omega)
  have ca1 := ha.cell1 n (by omega)
  have cah : (w.alloc (Obj.cells #[Value.slice none 0 0, Value.int IntKind.i64 0] 56)).cell? ⟨gb, 0, none⟩ = some (.slice (some ⟨g, 0, none⟩) (n + 1) c) := by have := (blk_cell ha.box 0).trans rfl; rw [hn] at this; exact this
  have HA := Aside0.mk ha
  clear ha
  generalize hs[n] = x at *
  clear h hn
  go_enter Try.func88, Try.ntmps88
  go_upto_region 1 with (fail)
  go_cut [3] from 3 to 13 (fun v3 wc => v3 = .pointer (some ⟨w.heap.size, 0, none⟩) ∧ wc = (w.alloc (.cells #[.slice x.A x.v.f0.length x.c, .int .i64 x.v.f1] 56)).drew)
  case first =>
    go_region_law_o (fail)
    all_goals (try go_wp2)
    all_goals go_meet
    all_goals exact ⟨rfl, rfl⟩
  case rest =>
    obtain ⟨rfl, hwx⟩ := hcut
    
    have h1 := H0.out.later (show Below w.heap.size w wc by rw [hwx]; exact below_drew (below_alloc (Below.refl _ _) _))
    have HN1 := HN.out
    have d0 : wc.cell? ⟨gb, 0, none⟩ = some (.slice (some ⟨g, 0, none⟩) (n + 1) c) := by have := (blk_cell h1.box 0).trans rfl; rw [HN1] at this; exact this
    have d1 := blk_frozen h1.box 0
    have HX := Aside0.mk (show wc.heap[w.heap.size]? = some (.cells #[.slice x.A x.v.f0.length x.c, .int .i64 x.v.f1] 56 (0, 0)) by rw [hwx]; exact heap_alloc_new w _)
    have HE := Aside0.mk (Heap.cut h1 n (by omega))
    have HNE := Aside0.mk (show w.heap.size ≠ gb from fun e => by have := H0.out.box; rw [← e] at this; have := blk_lt this; omega)
    clear h1 hwx HN1 cah ca0 ca1 c0 c1 hc hfz
    go_upto_region 2 with (fail)
    go_cut [24] from 14 to 24 (fun v24 wy => wy = (wc.setCell ⟨gb, 0, none⟩ (.slice (some ⟨g, 0, none⟩) n c)).drew)
    case first =>
      go_region_law_o (fail)
      all_goals (try go_wp2)
      all_goals go_meet
      all_goals rfl
    case rest =>
      have hy : Below wc.heap.size wc wc := Below.refl _ _
      have e1 := blk_drew (blk_far (p := ⟨gb, 0, none⟩) HX.out HNE.out (.slice (some ⟨g, 0, none⟩) n c))
      rw [← hcut] at e1
      have y0 := (blk_cell e1 0).trans rfl
      have y1 := (blk_cell e1 1).trans rfl
      have HE2 := Aside0.mk (HE.out.later (below_drew (Below.refl _ _)))
      rw [← hcut] at HE2
      clear hcut e1
      go_wp2
      go_ret
      exact ⟨_, rfl, HE2.out⟩
theorem cut_v {u w0 w : World} {gb g c : Nat} {vs : List S56} (hv : HeapV u w0 w gb g c vs) (n : Nat) (hn : vs.length = n + 1) : Calls Try.prog 88 #[.pointer (some ⟨gb, 0, none⟩)] w fun e w' => ∃ v, e = .returned v ∧ HeapV u w0 w' gb g c (vs.take n) := by
  obtain ⟨hs, rfl, h⟩ := hv
  rw [vals_len] at hn
  exact (cut_h h n hn).mono fun e w' ⟨v, he, hw⟩ => ⟨v, he, _, by simp [vals], hw⟩
set_option maxHeartbeats 4000000 in
set_option maxRecDepth 100000 in
theorem pop_v {u w0 w : World} {gb g c : Nat} {vs : List S56} (hv : HeapV u w0 w gb g c vs) (n : Nat) (vs' : List S56) (i' : Nat) (hn : vs.length = n + 1) (hd : downL (n + 1) (swp vs 0 n) 0 n = some (vs', i')) (hf : Full (swp vs 0 n) n) :
    Calls Try.prog 33 #[.iface 58 (.pointer (some ⟨gb, 0, none⟩))] w fun e w' => ∃ v, e = .returned v ∧ HeapV u w0 w' gb g c (vs'.take n) := by
  have hml := mLen _ _ _ hv.head
  have hb : (n : Int) ≤ 1000 := by have := hv.few; omega
  have HLV := Aside0.mk (len_v hv)
  have HSW := Aside0.mk (fun w1 (h1 : HeapV u w0 w1 gb g c vs) => swap_v h1 0 n (by omega) (by omega))
  have HDN := Aside0.mk (fun w1 (h1 : HeapV u w0 w1 gb g c (swp vs 0 n)) => down_v h1 0 n _ _ _ hd (by rw [swp_len]; omega) (by omega) hf)
  have HPP := Aside0.mk (fun w1 (h1 : HeapV u w0 w1 gb g c vs') => cut_v h1 n (by rw [(down_keeps _ _ _ _ _ _ hd (by rw [swp_len]; omega) hf).1, swp_len]; exact hn))
  have HN := Aside0.mk hn
  rw [show ((0 : Nat) : Int) = 0 from rfl] at HDN HSW
  rw [hn] at hml HLV HSW
  have hcast : ((n + 1 : Nat) : Int) - 1 = (n : Int) := by omega
  have c82 := e82
  have c84 := e84
  have c88 := e88
  have mp : ∀ w, Sem.run Try.prog (method 223 58 (.pointer (some ⟨gb, 0, none⟩)) "Pop") w = .ok (88, .pointer (some ⟨gb, 0, none⟩)) w := mPop _
  clear hd hf hn hv hcast
  go_enter Try.func33, Try.ntmps33
  go_wp2_with (first | (go_at_fn 82; (with_reducible refine HLV.out.mono ?_); rintro e w1 ⟨rfl, hh⟩; have HU1 := Aside0.mk hh; have hms := mSwap _ _ _ hh.head; rw [HN.out] at hms; clear hh) | (go_at_fn 84; (with_reducible refine (HSW.out _ HU1.out).mono ?_); rintro e w2 ⟨rfl, hh⟩; have HU2 := Aside0.mk hh; clear hh) | (go_at_call 50; (with_reducible refine (HDN.out _ HU2.out).mono ?_); rintro e w3 ⟨rfl, hh⟩; have HU3 := Aside0.mk hh; clear hh) | (go_at_fn 88; (with_reducible refine (HPP.out _ HU3.out).mono ?_); rintro e w4 ⟨v4, rfl, hh⟩; have HU4 := Aside0.mk hh; clear hh))
  go_ret
  exact ⟨_, rfl, HU4.out⟩
end Go.Proofs.Ytkkfkccfnfjbiaa.Hv
