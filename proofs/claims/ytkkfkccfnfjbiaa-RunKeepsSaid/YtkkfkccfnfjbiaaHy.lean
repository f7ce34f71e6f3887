/- DERIVED. run.Merge: what it computes. Conditions: those that each lemma names. DERIVED. run.Merge: its code walked. Conditions: those that each lemma names. DERIVED. run.Merge: its code walked. Conditions: those that each lemma names. -/
import Derived.Test.YtkkfkccfnfjbiaaHv
import Derived.Test.YtkkfkccfnfjbiaaPGrx5
namespace Go.Proofs.Ytkkfkccfnfjbiaa.Hw
open Go Go.RowKit Go.Proofs.Ytkkfkccfnfjbiaa.PGr Go.Proofs.YtkkfkccfnfjbiaaW.PrintWords Go.Proofs.YtkkfkccfnfjbiaaW.PrintLast Go.Proofs.Ytkkfkccfnfjbiaa.Hl Go.Proofs.Ytkkfkccfnfjbiaa.Hr Go.Proofs.Ytkkfkccfnfjbiaa.Hs Go.Proofs.Ytkkfkccfnfjbiaa.Ht Go.Proofs.Ytkkfkccfnfjbiaa.Hu Go.Proofs.Ytkkfkccfnfjbiaa.Hv
set_option linter.unusedSimpArgs false
set_option linter.unusedVariables false
def headsL : List (List S37) → Nat → List S56
  | [], _ => []
  | l :: t, i => if l = [] then headsL t (i + 1) else ⟨l, (i : Int)⟩ :: headsL t (i + 1)
def rightL (k : Nat) : List (List S37) → Option Bool
  | [] => some true
  | l :: t => (run_Right.f k l).bind fun b => if b = true then rightL k t else some false
/-- One head more. -/
def outL (out : List S37) (c : S37) : List S37 := if out.length = 0 then out ++ [c] else if (rd_T37 out ((out.length : Int) - 1)).f0.toList = c.f0.toList then out else out ++ [c]
def mergeL : Nat → List S56 → List S37 → Option (List S37)
  | 0, _, _ => none
  | k + 1, vs, out => if vs.length = 0 then some out else if out.length < 1000000 then
      (if 1 < (at_ vs 0).f0.length then (downL (vs.length + 1) (vs.set 0 ⟨(at_ vs 0).f0.drop 1, (at_ vs 0).f1⟩) 0 vs.length).bind fun r => mergeL k r.1 (outL out (rd_T37 (at_ vs 0).f0 0))
       else (downL vs.length (swp (vs.set 0 ⟨(at_ vs 0).f0.drop 1, (at_ vs 0).f1⟩) 0 (vs.length - 1)) 0 (vs.length - 1)).bind fun r => mergeL k (r.1.take (vs.length - 1)) (outL out (rd_T37 (at_ vs 0).f0 0)))
      else none
def run_Merge.f (k : Nat) (ls : List (List S37)) : Option (List S37 × Int) := if ls.length ≤ 1000 then (rightL k ls).bind fun b => if b = true then (initL (headsL ls 0).length ((headsL ls 0).length / 2) (headsL ls 0)).bind fun vs => (mergeL k vs []).map fun o => (o, 0) else some ([], 3) else none
theorem rightL_mono : ∀ ls k, LeO (rightL k ls) (rightL (k + 1) ls)
  | [], k => LeO.refl _
  | l :: t, k => LeO.bind (run_Right.mono l k) fun b => LeO.ite (rightL_mono t k) (LeO.refl _)
theorem mergeL_mono : ∀ k vs out, LeO (mergeL k vs out) (mergeL (k + 1) vs out)
  | 0, vs, out => LeO.none _
  | k + 1, vs, out => by
    rw [mergeL, mergeL]
    exact LeO.ite (LeO.refl _) (LeO.ite (LeO.ite (LeO.bind (LeO.refl _) fun _ => mergeL_mono k _ _) (LeO.bind (LeO.refl _) fun _ => mergeL_mono k _ _)) (LeO.refl _))
theorem run_Merge.mono (ls : List (List S37)) (k : Nat) : LeO (run_Merge.f k ls) (run_Merge.f (k + 1) ls) :=
  LeO.ite (LeO.bind (rightL_mono ls k) fun b => LeO.ite (LeO.bind (LeO.refl _) fun vs => LeO.map _ (mergeL_mono k vs [])) (LeO.refl _)) (LeO.refl _)
theorem headsL_app : ∀ (a b : List (List S37)) (i : Nat), headsL (a ++ b) i = headsL a i ++ headsL b (i + a.length)
  | [], b, i => by simp [headsL]
  | l :: t, b, i => by
    simp only [List.cons_append, headsL, headsL_app t b (i + 1), List.length_cons]
    rw [show i + 1 + t.length = i + (t.length + 1) by omega]
    split <;> simp
theorem headsL_len : ∀ (a : List (List S37)) (i : Nat), (headsL a i).length ≤ a.length
  | [], i => Nat.le_refl _
  | l :: t, i => by
    have := headsL_len t (i + 1)
    simp only [headsL]
    split <;> simp <;> omega
theorem headsL_full : ∀ (a : List (List S37)) (i : Nat), ∀ x ∈ headsL a i, x.f0 ≠ []
  | [], i, x, h => by simp [headsL] at h
  | l :: t, i, x, h => by
    simp only [headsL] at h
    split at h
    · exact headsL_full t _ x h
    · rename_i hl
      rcases List.mem_cons.1 h with rfl | h
      · exact hl
      · exact headsL_full t _ x h
theorem rightL_at (k : Nat) : ∀ (ls : List (List S37)) (b : Bool), rightL k ls = some b → ∀ i : Nat, (∀ j : Nat, j < i → run_Right.f k (rd_L3 ls (j : Int)) = some true) → i < ls.length → ∃ c, run_Right.f k (rd_L3 ls (i : Int)) = some c ∧ (c = false → b = false)
  | [], b, h, i, _, hi => by simp at hi
  | l :: t, b, h, 0, _, hi => by
    rw [rightL] at h
    obtain ⟨c, h1, h2⟩ := Option.bind_eq_some_iff.1 h
    refine ⟨c, h1, fun hc => ?_⟩
    subst hc
    simpa using h2.symm
  | l :: t, b, h, i + 1, hj, hi => by
    rw [rightL] at h
    obtain ⟨c, h1, h2⟩ := Option.bind_eq_some_iff.1 h
    have h0 := hj 0 (by omega)
    have e0 : rd_L3 (l :: t) ((0 : Nat) : Int) = l := rfl
    rw [e0, h1] at h0
    obtain rfl := Option.some.inj h0
    rw [if_pos rfl] at h2
    have e1 : ∀ j : Nat, rd_L3 (l :: t) ((j + 1 : Nat) : Int) = rd_L3 t (j : Int) := fun j => by
      unfold rd_L3
      rw [show ((j + 1 : Nat) : Int).toNat = j + 1 by omega, show ((j : Nat) : Int).toNat = j by omega]
      rfl
    rw [e1]
    exact rightL_at k t b h2 i (fun j hlt => by rw [← e1]; exact hj (j + 1) (by omega)) (by simpa using hi)
theorem rightL_all (k : Nat) : ∀ (ls : List (List S37)), (∀ j : Nat, j < ls.length → run_Right.f k (rd_L3 ls (j : Int)) = some true) → rightL k ls = some true
  | [], _ => rfl
  | l :: t, h => by
    have h0 := h 0 (by simp)
    have e0 : rd_L3 (l :: t) ((0 : Nat) : Int) = l := rfl
    rw [e0] at h0
    rw [rightL, h0]
    refine rightL_all k t fun j hj => ?_
    have := h (j + 1) (by simpa using hj)
    unfold rd_L3 at this ⊢
    rw [show ((j + 1 : Nat) : Int).toNat = j + 1 by omega] at this
    rw [show ((j : Nat) : Int).toNat = j by omega]
    exact this
theorem take_rd (ls : List (List S37)) (i : Nat) (h : i < ls.length) : headsL (ls.take (i + 1)) 0 = headsL (ls.take i) 0 ++ (if rd_L3 ls (i : Int) = [] then [] else [⟨rd_L3 ls (i : Int), (i : Int)⟩]) := by
  have e : rd_L3 ls (i : Int) = ls[i] := by simp [rd_L3, List.getD_eq_getElem?_getD, List.getElem?_eq_getElem h]
  rw [List.take_succ_eq_append_getElem h, headsL_app, e, List.length_take, Nat.min_eq_left (by omega), Nat.zero_add]
  congr 1
end Go.Proofs.Ytkkfkccfnfjbiaa.Hw
namespace Go.Proofs.Ytkkfkccfnfjbiaa.Hx
open Go Go.RowKit Go.Proofs.Ytkkfkccfnfjbiaa.PGr Go.Proofs.YtkkfkccfnfjbiaaW.PrintWords Go.Proofs.YtkkfkccfnfjbiaaW.PrintLast Go.Proofs.Ytkkfkccfnfjbiaa.Hl Go.Proofs.Ytkkfkccfnfjbiaa.Hr Go.Proofs.Ytkkfkccfnfjbiaa.Hs Go.Proofs.Ytkkfkccfnfjbiaa.Ht Go.Proofs.Ytkkfkccfnfjbiaa.Hu Go.Proofs.Ytkkfkccfnfjbiaa.Hv Go.Proofs.Ytkkfkccfnfjbiaa.Hw
set_option linter.unusedSimpArgs false
set_option linter.unusedVariables false
/-- The heads that were laid up to some list: their row in the making. -/
structure Made (w0 w : World) (gb : Nat) (v : Value) (hs : List RH) : Prop where
  below : Below w0.heap.size w0 w
  hb : w0.heap.size ≤ gb
  box : w.heap[gb]? = some (.cells #[v] 54 (0, 0))
  row : Kd.R (Kd.raw 2) 56 w w0.heap.size (fun k => True) v (hs.map cellsH)
  each : ∀ x ∈ hs, Hs.Good w0 x
theorem Made.later {w0 w w1 : World} {gb : Nat} {v : Value} {hs : List RH} (h : Made w0 w gb v hs) (hb : Below w.heap.size w w1) : Made w0 w1 gb v hs := ⟨below_step h.below hb, h.hb, blk_below h.box hb, Kd.R_below h.row hb, h.each⟩
theorem cellsH_len (hs : List RH) : (hs.map cellsH).length = hs.length := by simp
theorem row_of (hs : List RH) (inner : List Value) (h : Reps (fun x cs => cs = x ∧ cs.length = 2 ∧ ∀ u ∈ cs, u.oneCell' = true) 2 (hs.map cellsH) inner) : inner = rowH hs := by
  induction hs generalizing inner with
  | nil => have := h.1; simp at this; rw [this]; rfl
  | cons x t ih =>
    have hl := h.1
    have h0 := (h.2 0 (cellsH x) rfl).1
    have ht := ih (inner.drop 2) ⟨by rw [List.length_drop, hl]; simp; omega, fun j p hj => by
      have := h.2 (j + 1) p (by simpa using hj)
      rw [List.drop_drop, show 2 + j * 2 = (j + 1) * 2 by omega]
      exact this⟩
    rw [Nat.zero_mul, List.drop_zero] at h0
    rw [← List.take_append_drop 2 inner, h0, ht]
    rfl
/-- What was made is a row of heads. -/
theorem Made.heap {w0 w : World} {gb : Nat} {v : Value} {hs : List RH} (h : Made w0 w gb v hs) (hne : hs ≠ []) (hf : hs.length ≤ 1000) : ∃ g c, v = .slice (some ⟨g, 0, none⟩) hs.length c ∧ Heap w w0 w gb g c hs := by
  obtain ⟨h0, inner, ⟨h1, h2⟩, hr⟩ := h.row
  have hi := row_of hs inner hr
  rw [cellsH_len] at h1 h2
  rcases h2 with ⟨e, hn⟩ | ⟨g, c, cur, e, hg, hh, hc, hm, hs', ht⟩
  · exact absurd (List.eq_nil_of_length_eq_zero hn) hne
  · refine ⟨g, c, e, h.below, Far.refl _ _ _, h.hb, hg, by rw [← e]; exact h.box, ⟨cur, hh, hs', by rw [← hi]; exact ht⟩, hc, hm, hf, fun x hx => h.each x hx⟩
/-- The row stands in a later world, too; from there on it is told anew. -/
theorem Heap.step {u w0 w w1 : World} {gb g c : Nat} {hs : List RH} (h : Heap u w0 w gb g c hs) (hb : Below w0.heap.size w0 w1) (h1 : w1.heap[gb]? = w.heap[gb]?) (h2 : w1.heap[g]? = w.heap[g]?) : Heap w1 w0 w1 gb g c hs := by
  obtain ⟨cur, r1, r2, r3⟩ := h.row
  exact ⟨hb, Far.refl _ _ _, h.hb, h.hg, h1.trans h.box, ⟨cur, h2.trans r1, r2, r3⟩, h.le, h.max, h.few, h.each⟩
/-- The first head's rest, cut by one. -/
theorem Heap.set0 {u w0 w : World} {gb g c : Nat} {hs : List RH} (h : Heap u w0 w gb g c hs) (x : RH) (hx : hs[0]? = some x) (A : Option Addr) (cx : Nat) (l : List S37) (hl : l.length ≤ cx) (hr : Kd.C k37 w0 A l.length l) :
    Heap w w0 (w.setCell ⟨g, 0, none⟩ (.slice A l.length cx)) gb g c (hs.set 0 ⟨A, cx, ⟨l, x.v.f1⟩⟩) := by
  obtain ⟨cur, h1, h2, h3⟩ := h.row
  have hle := h.le
  have hlen : 0 < hs.length := (List.getElem?_eq_some_iff.1 hx).1
  have hx0 : hs[0] = x := (List.getElem?_eq_some_iff.1 hx).2
  have e : (rowH hs).set 0 (.slice A l.length cx) = rowH (hs.set 0 ⟨A, cx, ⟨l, x.v.f1⟩⟩) := by
    rw [← rowH_set hs 0 ⟨A, cx, ⟨l, x.v.f1⟩⟩ hlen]
    have g1 := rowH_get1 hs 0 hlen
    rw [hx0] at g1
    obtain ⟨q1, q2⟩ := List.getElem?_eq_some_iff.1 g1
    rw [show 0 * 2 = 0 by rfl, show 0 + 1 = 1 by rfl]
    apply List.ext_getElem?
    intro j
    rw [List.getElem?_set, List.getElem?_set]
    by_cases h1 : 1 = j
    · subst h1
      rw [if_neg (by omega), if_pos rfl, if_pos (by simpa using q1)]
      exact g1
    · rw [if_neg h1, List.getElem?_set]
  refine ⟨h.below.setCell (p := ⟨g, 0, none⟩) h.hg _, (Far.refl _ _ _).set (p := ⟨g, 0, none⟩) (.inr (.inr rfl)) _, h.hb, h.hg, ?_, ⟨_, blk_set h1 _ _, ?_, ?_⟩, ?_, h.max, ?_, ?_⟩
  · rw [List.length_set]; exact blk_far (p := ⟨g, 0, none⟩) h.box h.ne _
  · simpa using h2
  · rw [List.length_set, ← e, ← h3, Array.toList_setIfInBounds, take_set_lt _ _ _ _ (by omega)]
  · rw [List.length_set]; exact hle
  · rw [List.length_set]; exact h.few
  · intro y hy
    rcases List.mem_or_eq_of_mem_set hy with hy | rfl
    · exact h.each y hy
    · exact ⟨hl, hr⟩
theorem init_zero (w : World) (gb : Nat) (A : Option Addr) (c : Nat) (hc : w.cell? ⟨gb, 0, none⟩ = some (.slice A 0 c)) : Calls Try.prog 31 #[.iface 58 (.pointer (some ⟨gb, 0, none⟩))] w fun e w' => e = .returned (.tuple #[]) ∧ Below w.heap.size w w' := by
  have hml := mLen _ _ _ hc
  have HLV := Aside0.mk (show Calls Try.prog 82 #[.slice A 0 c] w _ from run_heads_Len.calls A c [] 0 w ⟨rfl, by simp, fun h => absurd h (by simp)⟩ (by simp) rfl)
  have c82 := e82
  clear hc
  go_enter Try.func31, Try.ntmps31
  go_wp2_with (first | (go_at_fn 82; (with_reducible refine HLV.out.mono ?_); rintro e w1 ⟨rfl, hh⟩; have HU1 := Aside0.mk hh; clear hh))
  refine wp_loop_rounds 1 ?_
  rw [rounds_succ]
  go_wp2
  refine bodyPost_end (v := .tuple #[]) (by simp [results, Try.f31]) rfl ?_
  obtain ⟨n, e⟩ := HU1.out.out
  exact ⟨rfl, by rw [e]; exact pw_below_drewN (Below.refl _ _) n⟩
end Go.Proofs.Ytkkfkccfnfjbiaa.Hx
namespace Go.Proofs.Ytkkfkccfnfjbiaa.Hy
open Go Go.RowKit Go.Proofs.Ytkkfkccfnfjbiaa.PGr Go.Proofs.YtkkfkccfnfjbiaaW.PrintWords Go.Proofs.YtkkfkccfnfjbiaaW.PrintLast Go.Proofs.Ytkkfkccfnfjbiaa.Hl Go.Proofs.Ytkkfkccfnfjbiaa.Hr Go.Proofs.Ytkkfkccfnfjbiaa.Hs Go.Proofs.Ytkkfkccfnfjbiaa.Ht Go.Proofs.Ytkkfkccfnfjbiaa.Hu Go.Proofs.Ytkkfkccfnfjbiaa.Hv Go.Proofs.Ytkkfkccfnfjbiaa.Hw Go.Proofs.Ytkkfkccfnfjbiaa.Hx
set_option linter.unusedSimpArgs false
set_option linter.unusedVariables false
theorem vals_app (hs : List RH) (x : RH) : vals (hs ++ [x]) = vals hs ++ [x.v] := by simp [vals]
theorem full_of (vs : List S56) (h : ∀ x ∈ vs, x.f0 ≠ []) : Full vs vs.length := fun m hm => by
  unfold at_
  rw [List.getD_eq_getElem?_getD, List.getElem?_eq_getElem hm]
  exact h _ (List.getElem_mem hm)
theorem rebase {u w0 w : World} {gb g c : Nat} {vs : List S56} (h : HeapV u w0 w gb g c vs) : HeapV w w0 w gb g c vs := by
  obtain ⟨hs, e, h⟩ := h
  exact ⟨hs, e, h.below, Far.refl _ _ _, h.hb, h.hg, h.box, h.row, h.le, h.max, h.few, h.each⟩
/-- The state at the head of the second loop. -/
structure Two (w0 w : World) (gb g c : Nat) (vs : List S56) (v : Value) (out : List S37) : Prop where
  heap : HeapV w w0 w gb g c vs
  out : Kd.R k37 37 w w0.heap.size (fun _ => True) v out
/-- A call that touches nothing but the heap. -/
theorem Two.after {w0 w w1 : World} {gb g c : Nat} {vs us : List S56} {v : Value} {out : List S37} (h : Two w0 w gb g c vs v out) (h1 : HeapV w w0 w1 gb g c us) : Two w0 w1 gb g c us v out := by
  refine ⟨rebase h1, ?_⟩
  obtain ⟨hs, _, hh⟩ := h.heap
  obtain ⟨hs1, _, hh1⟩ := h1
  obtain ⟨cur, hrow, _⟩ := hh.row
  have e1 := Kd.R_types (Kd.R_types h.out hh.box (by decide)) hrow (by decide)
  exact Kd.R_mono (Kd.R_step e1 (fun k hk hlt => hh1.far.block k hlt hk.1.2 hk.2)) (fun _ _ => trivial)
theorem Two.later {w0 w w1 : World} {gb g c : Nat} {vs : List S56} {v : Value} {out : List S37} (h : Two w0 w gb g c vs v out) (hb : Below w.heap.size w w1) : Two w0 w1 gb g c vs v out := h.after (h.heap.later hb)
/-- Something was put behind what there is. -/
theorem Two.grown {w0 w w1 : World} {gb g c : Nat} {vs : List S56} {v v1 : Value} {out out1 : List S37} (h : Two w0 w gb g c vs v out) (hb : Below w0.heap.size w0 w1) (hg : w.grownBy w1 v.ownBlock) (ho : Kd.R k37 37 w1 w0.heap.size (fun _ => True) v1 out1) : Two w0 w1 gb g c vs v1 out1 := by
  obtain ⟨hs, e, hh⟩ := h.heap
  obtain ⟨cur, hrow, _⟩ := hh.row
  exact ⟨⟨hs, e, Heap.step hh hb (hg.block gb (blk_lt hh.box) (Kd.R_ne h.out hh.box (by decide))) (hg.block g (blk_lt hrow) (Kd.R_ne h.out hrow (by decide)))⟩, ho⟩
theorem initL_keeps (n : Nat) : ∀ (i : Nat) (vs vs' : List S56), initL n i vs = some vs' → n ≤ vs.length → Full vs n → vs'.length = vs.length ∧ Full vs' n
  | 0, vs, vs', h, _, hf => by
    simp only [initL, Option.some.injEq] at h
    subst h
    exact ⟨rfl, hf⟩
  | i + 1, vs, vs', h, hn, hf => by
    rw [initL] at h
    obtain ⟨r, h1, h2⟩ := Option.bind_eq_some_iff.1 h
    obtain ⟨us, i'⟩ := r
    have hk := down_keeps _ _ _ _ _ _ h1 hn hf
    have := initL_keeps n i us vs' h2 (by rw [hk.1]; exact hn) hk.2
    exact ⟨this.1.trans hk.1, this.2⟩
/-- Is the head put behind what there is? -/
def apB (out : List S37) (c : S37) : Bool := out.length == 0 || !((rd_T37 out ((out.length : Int) - 1)).f0.toList == c.f0.toList)
theorem outL_t (out : List S37) (c : S37) (h : apB out c = true) : outL out c = out ++ [c] := by
  unfold outL
  unfold apB at h
  by_cases h0 : out.length = 0
  · rw [if_pos h0]
  · rw [if_neg h0, if_neg]
    intro e
    rw [e] at h
    simp [h0] at h
theorem outL_f (out : List S37) (c : S37) (h : apB out c = false) : outL out c = out := by
  unfold outL
  unfold apB at h
  by_cases h0 : out.length = 0
  · simp [h0] at h
  · rw [if_neg h0, if_pos]
    simpa [h0] using h
theorem info56 : (Try.prog.info? 56).map (fun i => (i.zero, i.size, i.bytes)) = some (some (.agg #[.slice none 0 0, .int .i64 0]), 2, 32) := by kernel_rfl
set_option maxHeartbeats 4000000 in
set_option maxRecDepth 100000 in
theorem run_Merge.calls (k : Nat) (A0 : Option Addr) (c0 : Nat) (ls : List (List S37)) (r1 : List S37) (r2 : Int) (w : World) (hr0 : Kd.C (Kd.slice 37 k37) w A0 ls.length ls) (hc0 : ls.length ≤ c0) (h : run_Merge.f k ls = some (r1, r2)) :
    Calls Try.prog 12 #[.slice A0 ls.length c0] w fun e w' => ∃ v0_ : Value, e = .returned (.tuple #[v0_, .int .i64 r2]) ∧ Kd.R k37 37 w' w.heap.size (fun _ => True) v0_ r1 ∧ Below w.heap.size w w' := by
  unfold run_Merge.f at h
  by_cases hl : ls.length ≤ 1000
  rotate_left
  · rw [if_neg hl] at h; cases h
  rw [if_pos hl] at h
  replace h := Option.bind_eq_some_iff.1 h
  obtain ⟨b, hR, h⟩ := h
  have hres : (b = false → r1 = [] ∧ r2 = 3) ∧ (b = true → r2 = 0 ∧ ∃ vs, initL (headsL ls 0).length ((headsL ls 0).length / 2) (headsL ls 0) = some vs ∧ mergeL k vs [] = some r1) := by
    refine ⟨fun hb => ?_, fun hb => ?_⟩
    · rw [if_neg (by rw [hb]; decide)] at h
      simp only [Option.some.injEq, Prod.mk.injEq] at h
      exact ⟨h.1.symm, h.2.symm⟩
    · rw [if_pos hb] at h
      obtain ⟨vs, h1, h2⟩ := Option.bind_eq_some_iff.1 h
      obtain ⟨o, h3, h4⟩ := Option.map_eq_some_iff.1 h2
      simp only [Prod.mk.injEq] at h4
      obtain ⟨rfl, rfl⟩ := h4
      exact ⟨rfl, vs, h1, h3⟩
  clear h
  have hu37 := Try.underlying37
  have hu56 := Try.underlying56
  have mixed : Try.prog.follows Departure.mixedOrders = true := by kernel_rfl
  have HR0 := Aside0.mk hr0
  have HRT := Aside0.mk hR
  have HRES := Aside0.mk hres
  have hlb : (ls.length : Int) ≤ 1000 := by omega
  clear hr0 hc0 hR hres
  go_enter Try.func12, Try.ntmps12
  go_wp2_with (first | ((with_reducible refine gate_dst (N := 4) rfl ?_); refine box_event ?hg (N := 4) ?hd (cs := #[.slice none 0 0]) (t := 54) ?hr ?_; (case hd => rfl); (case hg => rfl); (case hr => first | (go_simp; done) | (go_simp; rfl)); intro gb hg w1 hbox hb; have HM1 := Aside0.mk (Made.mk (w0 := w) (hs := []) hb (by omega) hbox (Kd.R_nil _ _ _ _ _) (fun _ h => by cases h)); clear hb hbox hg))
  go_loopg [11] ls.length (fun kq v11 w' => ∃ (i : Nat) (v : Value) (hs : List RH), v11 = .int .i64 (i : Int) ∧ Aside0 (i + kq = ls.length) ∧ Aside0 (Made w w' gb v hs) ∧ Aside0 (vals hs = headsL (ls.take i) 0) ∧ Aside0 (∀ j : Nat, j < i → run_Right.f k (rd_L3 ls (j : Int)) = some true))
  case atStart => exact ⟨0, _, [], rfl, ⟨by omega⟩, HM1, ⟨rfl⟩, ⟨fun j hj => absurd hj (by omega)⟩⟩
  case round =>
    obtain ⟨i, v, hs, rfl, HI, HM, HV, HJ⟩ := hrel
    rcases gk with _ | kq
    · have hi := HI.out
      obtain rfl : i = ls.length := by omega
      have hnb := HRT.out.symm.trans (rightL_all k ls HJ.out)
      obtain rfl := Option.some.inj hnb
      obtain ⟨e2, vs0, hin, hmg⟩ := HRES.out.2 rfl
      subst e2
      rw [List.take_length] at HV
      have HIN := Aside0.mk hin
      have HMG := Aside0.mk hmg
      have hle : hs.length ≤ 1000 := by have := headsL_len ls 0; rw [← HV.out, vals_len] at this; omega
      clear hi hnb hin hmg HJ HI HRT HRES HM1
      by_cases hnil : hs = []
      · have hv0 := HV.out
        rw [hnil] at hv0
        have h0 : headsL ls 0 = [] := hv0.symm
        have hin := HIN.out
        rw [h0] at hin
        simp only [List.length_nil, Nat.zero_div, initL, Option.some.injEq] at hin
        subst hin
        have hmg := HMG.out
        cases k with
        | zero => simp [mergeL] at hmg
        | succ k1 =>
        simp only [mergeL, List.length_nil, if_true, Option.some.injEq] at hmg
        subst hmg
        subst hnil
        obtain ⟨A9, c9, e9⟩ := Kd.R_slice HM.out.row
        have e9' : v = .slice A9 0 c9 := e9
        subst e9'
        have hcb : wr.cell? ⟨gb, 0, none⟩ = some (.slice A9 0 c9) := (blk_cell HM.out.box 0).trans rfl
        have HIZ := Aside0.mk (init_zero wr gb A9 c9 hcb)
        clear e9 hcb hv0 h0
        go_wp2_with (first | (go_at_call 31; (with_reducible refine HIZ.out.mono ?_); rintro e w2 ⟨rfl, hb⟩; have HM2 := Aside0.mk (HM.out.later hb); have hcb : w2.cell? ⟨gb, 0, none⟩ = some (.slice A9 0 c9) := (blk_cell HM2.out.box 0).trans rfl; clear hb))
        refine wp_loop_rounds 1 ?_
        rw [rounds_succ]
        go_wp2
        go_ret2
        exact ⟨_, rfl, Kd.R_nil _ _ _ _ _, HM2.out.below⟩
      · obtain ⟨g, c, ev, hh⟩ := HM.out.heap hnil hle
        subst ev
        have hfull := full_of (vals hs) (by rw [HV.out]; exact headsL_full ls 0)
        have HH := Aside0.mk (show HeapV wr w wr gb g c (vals hs) from ⟨hs, rfl, hh⟩)
        have hin := HIN.out
        rw [← HV.out] at hin
        have hkl := initL_keeps _ _ _ _ hin (Nat.le_refl _) hfull
        have HINV := Aside0.mk (init_v HH.out vs0 hin hfull)
        have HFV := Aside0.mk (show Full vs0 vs0.length by rw [hkl.1]; exact hkl.2)
        clear hh hfull hin hkl HIN
        go_wp2_with (first | (go_at_call 31; (with_reducible refine HINV.out.mono ?_); rintro e w2 ⟨rfl, hb⟩; have HT2 := Aside0.mk (Two.mk (rebase hb) (Kd.R_nil k37 37 _ _ _)); clear hb))
        go_loopg [7] k (fun kq v7 w' => ∃ (vs : List S56) (out : List S37), Aside0 (Two w w' gb g c vs v7 out) ∧ Aside0 (mergeL kq vs out = some r1) ∧ Aside0 (Full vs vs.length))
        case atStart => exact ⟨vs0, [], HT2, HMG, HFV⟩
        case round =>
          obtain ⟨vs, out, HT, HMR, HFU⟩ := hrel
          rcases gk with _ | kq
          · exact absurd HMR.out (by simp [mergeL])
          · have hmr := HMR.out
            rw [mergeL] at hmr
            by_cases hn : vs.length = 0
            · rw [if_pos hn] at hmr
              obtain rfl := Option.some.inj hmr
              have hcb := HT.out.heap.head
              rw [hn] at hcb
              clear hmr hn
              go_wp2
              go_ret2
              obtain ⟨hs9, _, h9⟩ := HT.out.heap
              exact ⟨_, rfl, HT.out.out, h9.below⟩
            · rw [if_neg hn] at hmr
              by_cases hol : out.length < 1000000
              rotate_left
              · rw [if_neg hol] at hmr; cases hmr
              rw [if_pos hol] at hmr
              have HMS := Aside0.mk hmr
              have HFL := HFU.out
              obtain ⟨hs', ev, hh⟩ := HT.out.heap
              have hlen : hs'.length = vs.length := by rw [← ev, vals_len]
              obtain ⟨x, hx⟩ : ∃ x, hs'[0]? = some x := ⟨_, List.getElem?_eq_getElem (show 0 < hs'.length by omega)⟩
              have hx0 : hs'[0]'(by omega) = x := (List.getElem?_eq_some_iff.1 hx).2
              have eat : at_ vs 0 = x.v := by rw [← ev, at_vals _ _ (by omega), hx0]
              have hne := HFL 0 (by omega)
              rw [eat] at hne
              have hpos : 0 < x.v.f0.length := List.length_pos_iff.2 hne
              have hgood := hh.each x (by rw [← hx0]; exact List.getElem_mem (by omega))
              have hC := Kd.C_below hgood.2 hh.below
              obtain ⟨ad, eA, y0, y1, y2⟩ := at_T37 hC 0 (by omega) (by omega)
              have hcb : wr.cell? ⟨gb, 0, none⟩ = some (.slice (some ⟨g, 0, none⟩) vs.length c) := HT.out.heap.head
              have k0 := hh.cell0 0 (by omega)
              have k1 := hh.cell1 0 (by omega)
              rw [hx0] at k0 k1
              rw [eA] at k0
              have ea : ad.add 0 = ad := by simp [Addr.add]
              simp only [Int.toNat_zero, Nat.zero_mul, Nat.zero_add, ea] at y0 y1 y2 k0 k1
              clear ea
              have t1 : decide (0 < vs.length) = true := decide_eq_true (by omega)
              have t2 : decide ((0 : Int) < (vs.length : Int)) = true := decide_eq_true (by omega)
              have t3 : (0 < vs.length) = True := eq_true (by omega)
              have t4 : ((0 : Int) < (vs.length : Int)) = True := eq_true (by omega)
              have t5 : (0 < x.v.f0.length) = True := eq_true (by omega)
              have t6 : ((0 : Int) < (x.v.f0.length : Int)) = True := eq_true (by omega)
              have HXX := Aside0.mk (⟨hlen, hx, eat, hpos, eA, hn, hol⟩ : _ ∧ _ ∧ _ ∧ _ ∧ _ ∧ _ ∧ _)
              have HHH := Aside0.mk (⟨ev, hh⟩ : _ ∧ _)
              obtain ⟨c1, hc1⟩ : ∃ c1, rd_T37 x.v.f0 0 = c1 := ⟨_, rfl⟩
              rw [hc1] at y0 y1 y2
              have HC1 := Aside0.mk hc1
              clear hmr hgood hC hc1 hlen hx hx0 eat hne hpos eA hn hol ev hh HFL
              go_upto_region 13 with (fail)
              go_cut [8] from 31 to 76 (fun v8 wc => ∃ gc, v8 = .pointer (some ⟨gc, 0, none⟩) ∧ Aside0 (Below wr.heap.size wr wc) ∧ Aside0 (wc.heap[gc]? = some (.cells #[.string c1.f0, .string c1.f1, .bool c1.f2] 37 (0, 0))))
              case first =>
                go_wp2_with (first | ((with_reducible refine gate_dst (N := 8) rfl ?_); refine box_event ?hg (N := 8) ?hd (cs := #[.string (⟨#[]⟩ : ByteArray), .string (⟨#[]⟩ : ByteArray), .bool false]) (t := 37) ?hr ?_; (case hd => rfl); (case hg => rfl); (case hr => first | (go_simp; done) | (go_simp; rfl)); intro gc hg w3 hbox hb; have L3 := Aside0.mk (show wr.heap.size ≤ gc by omega); have BX3 := Aside0.mk hbox; have HB3 := Aside0.mk hb; clear hb hbox hg; have hz0 : w3.cell? ⟨gc, 0, none⟩ = some (.string (⟨#[]⟩ : ByteArray)) := (blk_cell BX3.out 0).trans rfl; have hz1 : w3.cell? ⟨gc, 1, none⟩ = some (.string (⟨#[]⟩ : ByteArray)) := (blk_cell BX3.out 1).trans rfl; have hz2 : w3.cell? ⟨gc, 2, none⟩ = some (.bool false) := (blk_cell BX3.out 2).trans rfl; have hf0 := blk_frozen BX3.out 0; have hf1 := blk_frozen BX3.out 1; have hf2 := blk_frozen BX3.out 2))
                go_meet
                exact ⟨gc, rfl, ⟨((HB3.out.setCell (p := ⟨gc, 0, none⟩) L3.out _).setCell (p := ⟨gc, 1, none⟩) L3.out _).setCell (p := ⟨gc, 2, none⟩) L3.out _⟩, ⟨blk_put (blk_put (blk_put BX3.out 0 _ rfl) 1 _ rfl) 2 _ rfl⟩⟩
              case rest =>
                obtain ⟨gc, rfl, HBC, BXC⟩ := hcut
                obtain ⟨wd, hwd⟩ : ∃ u, u = wc := ⟨_, rfl⟩
                subst hwd
                clear y0 y1 y2 k0 k1 hcb
                have HT1 := Aside0.mk (HT.out.later HBC.out)
                have HBW := Aside0.mk (show Below w.heap.size w wd by obtain ⟨hs9, _, h9⟩ := HT1.out.heap; exact h9.below)
                have z0 : wd.cell? ⟨gc, 0, none⟩ = some (.string c1.f0) := (blk_cell BXC.out 0).trans rfl
                have z1 : wd.cell? ⟨gc, 1, none⟩ = some (.string c1.f1) := (blk_cell BXC.out 1).trans rfl
                have z2 : wd.cell? ⟨gc, 2, none⟩ = some (.bool c1.f2) := (blk_cell BXC.out 2).trans rfl
                obtain ⟨Ao, co, ev7, hco, hCo⟩ := Kd.R_reads HT1.out.out
                subst ev7
                have hob : (out.length : Int) ≤ 1000000 := by have := HXX.out.2.2.2.2.2.2; omega
                go_upto_if 54 with (fail)
                go_cut [54] from 31 to 76 (fun v54 wc => v54 = .bool (apB out c1) ∧ Aside0 (Drawn0 wd wc))
                case first =>
                  by_cases ho : out.length = 0
                  · have s1 : (out.length == 0) = true := by rw [ho]; rfl
                    have s2 : ((out.length : Int) == 0) = true := by rw [ho]; rfl
                    have HOU := Aside0.mk (show apB out c1 = true by unfold apB; rw [ho]; rfl)
                    clear ho hCo
                    go_quiet (fail)
                    (try go_wp2)
                    go_meet
                    exact ⟨by rw [HOU.out], ⟨⟨_, rfl⟩⟩⟩
                  · have s1 : (out.length == 0) = false := by simp [ho]
                    have s2 : ((out.length : Int) == 0) = false := by simp; exact fun e => ho (by rw [e]; rfl)
                    obtain ⟨az, eAo, h0, h1, h2⟩ := at_T37 hCo ((out.length : Int) - 1) (by omega) (by omega)
                    have s3 : (0 ≤ (out.length : Int) - 1) = True := eq_true (by omega)
                    have s4 : ((out.length : Int) - 1 < (out.length : Int)) = True := eq_true (by omega)
                    obtain ⟨s5, s6⟩ : wrap64 ((out.length : Int) - 1) = (out.length : Int) - 1 ∧ IntKind.i64.wrap ((out.length : Int) - 1) = (out.length : Int) - 1 := ⟨Go.IntWalk.wrap64_in _ (by omega), by rw [IntKind.wrap_i64]; omega⟩
                    have s7 : (1 ≤ (out.length : Int)) = True := eq_true (by omega)
                    rw [show ((out.length : Int) - 1).toNat = out.length - 1 by omega] at h0 h1 h2
                    subst eAo
                    have HO2 := Aside0.mk (⟨h1, h2⟩ : _ ∧ _)
                    clear h1 h2 hCo
                    cases hk : ((rd_T37 out ((out.length : Int) - 1)).f0.toList == c1.f0.toList) with
                    | true =>
                      have s9 : ((rd_T37 out ((out.length : Int) - 1)).f0.toList != c1.f0.toList) = false := by simp [bne, hk]
                      have HOU := Aside0.mk (show apB out c1 = false by unfold apB; rw [s1, hk]; rfl)
                      clear ho
                      go_quiet (fail)
                      (try go_wp2)
                      go_meet
                      exact ⟨by rw [HOU.out], ⟨⟨_, rfl⟩⟩⟩
                    | false =>
                      have s9 : ((rd_T37 out ((out.length : Int) - 1)).f0.toList != c1.f0.toList) = true := by simp [bne, hk]
                      have HOU := Aside0.mk (show apB out c1 = true by unfold apB; rw [s1, hk]; rfl)
                      clear ho
                      go_quiet (fail)
                      (try go_wp2)
                      go_meet
                      exact ⟨by rw [HOU.out], ⟨⟨_, rfl⟩⟩⟩
                case rest =>
                  obtain ⟨rfl, HDR⟩ := hcut
                  obtain ⟨we, hwe⟩ : ∃ u, u = wc := ⟨_, rfl⟩
                  subst hwe
                  have HBE := Aside0.mk (show Below wd.heap.size wd we by obtain ⟨n9, e9⟩ := HDR.out.out; rw [e9]; exact pw_below_drewN (Below.refl _ _) _)
                  have HT2 := Aside0.mk (HT1.out.later HBE.out)
                  have HBX := Aside0.mk (below_step HBW.out HBE.out)
                  have BXE := Aside0.mk (blk_below BXC.out HBE.out)
                  clear z0 z1 z2 HDR
                  have z0 : we.cell? ⟨gc, 0, none⟩ = some (.string c1.f0) := (blk_cell BXE.out 0).trans rfl
                  have z1 : we.cell? ⟨gc, 1, none⟩ = some (.string c1.f1) := (blk_cell BXE.out 1).trans rfl
                  have z2 : we.cell? ⟨gc, 2, none⟩ = some (.bool c1.f2) := (blk_cell BXE.out 2).trans rfl
                  go_upto_if 54 with (fail)
                  go_cut [7] from 31 to 76 (fun v7 wc => Aside0 (Two w wc gb g c vs v7 (outL out c1)))
                  case first =>
                    cases hap : apB out c1 with
                    | true =>
                      have HOU := Aside0.mk (outL_t out c1 hap)
                      clear hap
                      go_wp2_with (first | ((with_reducible refine gate_builtin (b := .append) (xs := #[.tmp 55, .tmp 57]) rfl ?_); at_builtin; go_loud (refine Kd.R_append k37 (w0 := w) w.heap.size rfl (.tmp 55) (.tmp 57) 25 37 (.agg #[(.string ⟨#[]⟩), (.string ⟨#[]⟩), (.bool false)]) 40 rfl Try.underlying25 info37 rfl (by decide) (by omega) (.slice Ao out.length co) out c1 [.string c1.f0, .string c1.f1, .bool c1.f2] (fun _ => True) (fun _ => False) rfl (by first | (go_simp; done) | (go_simp; rfl)) ?aP (fun _ hk => hk.elim) ?aF ?aO ?aB ?aS ?aL ?_; (case aP => exact k37_mkM _ _ _ c1); (case aB => repeat (first | exact HBX.out | apply pw_below_drewN | apply below_drew)); (case aF => exact (fun _ _ => trivial)); (case aO => (with_reducible repeat (first | apply Kd.R_alloc | apply Kd.R_drewN | apply Kd.R_drew)); exact HT2.out.out); (case aS => exact HBX.out.size); (case aL => have := HXX.out.2.2.2.2.2.2; omega); intro v3 w3 ho hb hg hat; have HT3 := Aside0.mk (Two.grown (HT2.out) hb hg ho); clear ho hb hg hat)))
                      go_meet
                      rw [HOU.out]
                      exact HT3
                    | false =>
                      have HOU := Aside0.mk (outL_f out c1 hap)
                      clear hap
                      go_wp2
                      go_meet
                      rw [HOU.out]
                      exact HT2
                  case rest =>
                    have HT4 := hcut
                    clear hcut
                    obtain ⟨wf, hwf⟩ : ∃ u, u = wc := ⟨_, rfl⟩
                    subst hwf
                    clear z0 z1 z2
                    obtain ⟨hs2, ev2, hh2⟩ := HT4.out.heap
                    have hlen2 : hs2.length = vs.length := by rw [← ev2, vals_len]
                    have hvn := HXX.out.2.2.2.2.2.1
                    obtain ⟨x2, hx2⟩ : ∃ x2, hs2[0]? = some x2 := ⟨_, List.getElem?_eq_getElem (show 0 < hs2.length by omega)⟩
                    have hx02 : hs2[0]'(by omega) = x2 := (List.getElem?_eq_some_iff.1 hx2).2
                    have exv : x2.v = x.v := by rw [← HXX.out.2.2.1, ← ev2, at_vals _ _ (by omega), hx02]
                    have hn2 : 0 < x2.v.f0.length := by rw [exv]; exact HXX.out.2.2.2.1
                    have hg2 := hh2.each x2 (by rw [← hx02]; exact List.getElem_mem (by omega))
                    obtain ⟨i0, hi0, hz0⟩ := Option.map_eq_some_iff.1 info37
                    simp only [Prod.mk.injEq] at hz0
                    have hct := cut_from (P := Try.prog) 25 37 .i64 Try.underlying25 hi0 3 hz0.2.1 x2.A x2.v.f0.length x2.c 1 (by omega) (by omega)
                    have hCt := Kd.C_drop (m := 1) hg2.2 (by omega) hg2.1
                    rw [show (1 : Int).toNat = 1 from rfl] at hct
                    rw [show k37.sz = 3 from rfl] at hCt
                    obtain ⟨A', hA'⟩ : ∃ A', (if x2.c = 1 then x2.A else x2.A.map (·.add (1 * 3))) = A' := ⟨_, rfl⟩
                    rw [hA'] at hct hCt
                    have hst := Heap.set0 hh2 x2 hx2 A' (x2.c - 1) (x2.v.f0.drop 1) (by rw [List.length_drop]; have := hg2.1; omega) hCt
                    rw [List.length_drop] at hst
                    have HST := Aside0.mk (show HeapV wf w (wf.setCell ⟨g, 0, none⟩ (.slice A' (x2.v.f0.length - 1) (x2.c - 1))) gb g c (vs.set 0 ⟨(at_ vs 0).f0.drop 1, (at_ vs 0).f1⟩) from ⟨_, by rw [vals_set, ev2, HXX.out.2.2.1, exv], hst⟩)
                    have hcb : wf.cell? ⟨gb, 0, none⟩ = some (.slice (some ⟨g, 0, none⟩) vs.length c) := HT4.out.heap.head
                    have k0 := hh2.cell0 0 (by omega)
                    rw [hx02] at k0
                    simp only [Nat.zero_mul] at k0
                    have kf : wf.frozen? ⟨g, 0, none⟩ = false := by obtain ⟨cur, hr, _⟩ := hh2.row; exact blk_frozen hr 0
                    have HXV := Aside0.mk exv
                    have HN2 := Aside0.mk hn2
                    clear hst hCt hA' hz0 hi0 hg2 hn2 hx02 hx2 hlen2 ev2 hh2 exv hvn
                    go_upto_region 16 with (fail)
                    go_cut [66] from 31 to 76 (fun v66 wc => Aside0 (wc = (wf.setCell ⟨g, 0, none⟩ (.slice A' (x2.v.f0.length - 1) (x2.c - 1))).drew))
                    case first =>
                      go_region_law_o (fail)
                      all_goals (try go_wp2)
                      all_goals go_meet
                      all_goals exact ⟨rfl⟩
                    case rest =>
                      obtain ⟨wg, hwg⟩ : ∃ u, u = wc := ⟨_, rfl⟩
                      subst hwg
                      have HS2 := Aside0.mk (show HeapV wf w wg gb g c (vs.set 0 ⟨(at_ vs 0).f0.drop 1, (at_ vs 0).f1⟩) by rw [hcut.out]; exact HST.out.later (below_drew (Below.refl _ _)))
                      have HT5 := Aside0.mk (HT4.out.after HS2.out)
                      have k1 : wg.cell? ⟨g, 0, none⟩ = some (.slice A' (x2.v.f0.length - 1) (x2.c - 1)) := by rw [hcut.out]; exact World.cell?_setCell_same _ _ _ k0
                      have hc1 := HT5.out.heap.head
                      rw [List.length_set] at hc1
                      have HVN := Aside0.mk HXX.out.2.2.2.2.2.1
                      have HEQ := Aside0.mk (show (at_ vs 0).f0.length = x2.v.f0.length by rw [HXX.out.2.2.1, HXV.out])
                      have HF1 := Aside0.mk (show ∀ m, m < vs.length → m ≠ 0 → (at_ (vs.set 0 ⟨(at_ vs 0).f0.drop 1, (at_ vs 0).f1⟩) m).f0 ≠ [] from fun m hm h0 => by
                        unfold at_
                        rw [List.getD_eq_getElem?_getD, List.getElem?_set_ne (Ne.symm h0), ← List.getD_eq_getElem?_getD]
                        exact HFU.out m hm)
                      obtain ⟨m, hm⟩ : ∃ m, x2.v.f0.length - 1 = m := ⟨_, rfl⟩
                      rw [hm] at k1
                      have HC1 := Aside0.mk (show rd_T37 (at_ vs 0).f0 0 = c1 by rw [HXX.out.2.2.1]; exact HC1.out)
                      have hms := HMS.out
                      rw [HC1.out] at hms
                      clear hcut k0 kf hcb hct HST
                      by_cases hmz : 0 < m
                      · rw [if_pos (by have := HEQ.out; omega)] at hms
                        obtain ⟨r, hd1, hd2⟩ := Option.bind_eq_some_iff.1 hms
                        obtain ⟨vs', i'⟩ := r
                        have hful : Full (vs.set 0 ⟨(at_ vs 0).f0.drop 1, (at_ vs 0).f1⟩) vs.length := fun j hj => by
                          by_cases h0 : j = 0
                          · subst h0
                            unfold at_
                            rw [List.getD_eq_getElem?_getD, List.getElem?_set_self (by omega)]
                            intro e
                            have e2 := congrArg List.length e
                            have := HEQ.out
                            unfold at_ at this
                            simp only [Option.getD_some, List.length_drop, List.length_nil] at e2
                            omega
                          · exact HF1.out j hj h0
                        have hkp := down_keeps _ _ _ _ _ _ hd1 (by rw [List.length_set]; exact Nat.le_refl _) hful
                        rw [List.length_set] at hkp
                        have HFX := Aside0.mk (fix_v HS2.out vs' i' (by rw [List.length_set]; exact hd1) (by rw [List.length_set]; exact hful))
                        have HD2 := Aside0.mk hd2
                        have HFN := Aside0.mk (show Full vs' vs'.length by rw [hkp.1]; exact hkp.2)
                        have t7 : decide (0 < m) = true := decide_eq_true hmz
                        have t8 : decide ((0 : Int) < (m : Int)) = true := decide_eq_true (by omega)
                        clear hms hd1 hd2 hful hkp hmz hm
                        go_wp2_with (first | (go_at_call 32; (with_reducible refine HFX.out.mono ?_); rintro e w8 ⟨rfl, hh⟩; have HT8 := Aside0.mk (HT4.out.after hh); clear hh))
                        go_roundg kq
                        case measure => omega
                        case rel => exact ⟨vs', outL out c1, HT8, HD2, HFN⟩
                      · rw [if_neg (by have := HEQ.out; omega)] at hms
                        obtain ⟨r, hd1, hd2⟩ := Option.bind_eq_some_iff.1 hms
                        obtain ⟨vs', i'⟩ := r
                        obtain ⟨n, hn⟩ : ∃ n, vs.length = n + 1 := ⟨vs.length - 1, by have := HVN.out; omega⟩
                        rw [hn, Nat.add_sub_cancel] at hd1
                        rw [hn, Nat.add_sub_cancel] at hd2
                        have hful : Full (swp (vs.set 0 ⟨(at_ vs 0).f0.drop 1, (at_ vs 0).f1⟩) 0 n) n := fun j hj => by
                          rw [at_swp _ _ _ _ (by rw [List.length_set]; omega) (by rw [List.length_set]; omega)]
                          rw [if_neg (by omega)]
                          split
                          · exact HF1.out n (by omega) (by omega)
                          · exact HF1.out j (by omega) (by assumption)
                        have hkp := down_keeps _ _ _ _ _ _ hd1 (by rw [swp_len, List.length_set]; omega) hful
                        rw [swp_len, List.length_set] at hkp
                        have HFX := Aside0.mk (pop_v HS2.out n vs' i' (by rw [List.length_set]; exact hn) hd1 hful)
                        have HD2 := Aside0.mk hd2
                        have HFN := Aside0.mk (show Full (vs'.take n) (vs'.take n).length from fun j hj => by
                          rw [List.length_take] at hj
                          have := hkp.2 j (by omega)
                          unfold at_ at this ⊢
                          rw [List.getD_eq_getElem?_getD, List.getElem?_take, if_pos (by omega), ← List.getD_eq_getElem?_getD]
                          exact this)
                        have t7 : decide (0 < m) = false := decide_eq_false hmz
                        have t8 : decide ((0 : Int) < (m : Int)) = false := decide_eq_false (by omega)
                        clear hms hd1 hd2 hful hkp hmz hm hn
                        go_wp2_with (first | (go_at_call 33; (with_reducible refine HFX.out.mono ?_); rintro e w8 ⟨v8, rfl, hh⟩; have HT8 := Aside0.mk (HT4.out.after hh); clear hh))
                        go_roundg kq
                        case measure => omega
                        case rel => exact ⟨vs'.take n, outL out c1, HT8, HD2, HFN⟩
    · have hi := HI.out
      have hlt : i < ls.length := by omega
      obtain ⟨cR, hcR, hcb⟩ := rightL_at k ls b HRT.out i HJ.out hlt
      obtain ⟨ad, A1, c1, rfl, hx1, hx2, hx3⟩ := at_L3 (Kd.C_below HR0.out HM.out.below) (i : Int) (by omega) (by omega)
      obtain ⟨ad', A1', c1', e1, hx1', hx2', hx3'⟩ := at_L3 HR0.out (i : Int) (by omega) (by omega)
      obtain rfl := Option.some.inj e1
      have e2 : (Value.slice A1' (rd_L3 ls (i : Int)).length c1') = .slice A1 (rd_L3 ls (i : Int)).length c1 := by
        have := (HM.out.below.cell (World.block_lt_of_cell? w _ hx1')).trans hx1'
        rw [hx1] at this
        exact (Option.some.inj this).symm
      injection e2 with e2 _ e3
      subst e2
      subst e3
      clear e1 hx1' hx2'
      have HG := Aside0.mk hx3'
      have htk := take_rd ls i hlt
      simp only [Int.toNat_natCast] at hx1
      have HX := Aside0.mk (⟨hx2, hx3⟩ : _ ∧ _)
      have q1 : decide ((i : Int) < (ls.length : Int)) = true := decide_eq_true (by omega)
      have q2 : (0 ≤ (i : Int)) = True := eq_true (by omega)
      have q3 : ((i : Int) < (ls.length : Int)) = True := eq_true (by omega)
      have q4 : (i < ls.length) = True := eq_true hlt
      have HCR := Aside0.mk hcR
      have HTK := Aside0.mk htk
      clear hcR hx2 hx3 hx3' htk hi
      cases cR with
      | false =>
        have HB := Aside0.mk (hcb rfl)
        clear hcb
        go_wp2_with (first | (go_at_call 28; (with_reducible refine (run_Right.calls k _ _ _ false _ HX.out.2 HX.out.1 HCR.out).mono ?_); rintro e w2 ⟨rfl, hb⟩; have HB2 := Aside0.mk hb; clear hb))
        go_ret2
        obtain ⟨e1, e2⟩ := HRES.out.1 HB.out
        subst e1
        subst e2
        exact ⟨_, rfl, Kd.R_nil _ _ _ _ _, below_step HM.out.below HB2.out⟩
      | true =>
        clear hcb
        have HJ' := Aside0.mk (show ∀ j : Nat, j < i + 1 → run_Right.f k (rd_L3 ls (j : Int)) = some true from fun j hj => by
          by_cases e : j = i
          · subst e; exact HCR.out
          · exact HJ.out j (by omega))
        obtain ⟨l, hl0⟩ : ∃ l, rd_L3 ls (i : Int) = l := ⟨_, rfl⟩
        have HFL := Aside0.mk (show hs.length ≤ i from by
          have := headsL_len (ls.take i) 0
          rw [← HV.out, vals_len, List.length_take] at this
          omega)
        rw [hl0] at HG HX HCR HTK hx1
        clear hl0
        by_cases hz : l = []
        · have t1 : decide (0 < l.length) = false := by rw [hz]; rfl
          have HVN := Aside0.mk (show vals hs = headsL (ls.take (i + 1)) 0 by rw [HTK.out, if_pos hz, List.append_nil]; exact HV.out)
          clear hz
          go_wp2_with (first | (go_at_call 28; (with_reducible refine (run_Right.calls k _ _ _ true _ HX.out.2 HX.out.1 HCR.out).mono ?_); rintro e w2 ⟨rfl, hb⟩; have HB2 := Aside0.mk hb; clear hb))
          go_roundg kq
          case measure => omega
          case rel => exact ⟨i + 1, v, hs, by go_num, ⟨by have := HI.out; omega⟩, ⟨HM.out.later HB2.out⟩, HVN, HJ'⟩
        · have hpos : 0 < l.length := List.length_pos_iff.2 hz
          have t1 : decide (0 < l.length) = true := decide_eq_true hpos
          have t2 : decide ((0 : Int) < (l.length : Int)) = true := decide_eq_true (by omega)
          have HVN := Aside0.mk (show vals (hs ++ [⟨A1', c1', ⟨l, (i : Int)⟩⟩]) = headsL (ls.take (i + 1)) 0 by rw [HTK.out, if_neg hz, vals_app, HV.out])
          clear hz hpos
          go_wp2_with (first | (go_at_call 28; (with_reducible refine (run_Right.calls k _ _ _ true _ HX.out.2 HX.out.1 HCR.out).mono ?_); rintro e w2 ⟨rfl, hb⟩; have HM2 := Aside0.mk (HM.out.later hb); have hcb : w2.cell? ⟨gb, 0, none⟩ = some v := (blk_cell HM2.out.box 0).trans rfl; have hfb := blk_frozen HM2.out.box 0; clear hb) | ((with_reducible refine gate_builtin (b := .append) (xs := #[.tmp 22, .tmp 26]) rfl ?_); at_builtin; go_loud (refine Kd.R_append (Kd.raw 2) (w0 := w) w.heap.size rfl (.tmp 22) (.tmp 26) 54 56 (.agg #[.slice none 0 0, .int .i64 0]) 32 rfl Try.underlying54 info56 rfl (by decide) (by omega) v (hs.map cellsH) (cellsH ⟨A1', c1', ⟨l, (i : Int)⟩⟩) (cellsH ⟨A1', c1', ⟨l, (i : Int)⟩⟩) (fun _ => True) (fun _ => False) rfl (by first | (go_simp; done) | (go_simp; rfl)) ?aP (fun _ hk => hk.elim) ?aF ?aO ?aB ?aS ?aL ?_; (case aP => exact ⟨rfl, rfl, by intro u hu; simp only [cellsH, List.mem_cons, List.not_mem_nil, or_false] at hu; rcases hu with rfl | rfl <;> rfl⟩); (case aB => exact HM2.out.below); (case aF => exact (fun _ _ => trivial)); (case aO => exact HM2.out.row); (case aS => exact HM2.out.below.size); (case aL => have := HFL.out; rw [List.length_map]; omega); intro v3 w3 ho hb hg hat; obtain ⟨A9, c9, e9⟩ := Kd.R_slice ho; rw [show (hs.map cellsH ++ [cellsH ⟨A1', c1', ⟨l, (i : Int)⟩⟩]).length = hs.length + 1 by simp] at e9; subst e9; have HO3 := Aside0.mk ho; have HB3 := Aside0.mk hb; have BX3 := Aside0.mk ((hg.block gb (blk_lt HM2.out.box) (Kd.R_ne HM2.out.row HM2.out.box (by decide))).trans HM2.out.box); clear ho hb hg hat hcb hfb; have hcb : w3.cell? ⟨gb, 0, none⟩ = some v := (blk_cell BX3.out 0).trans rfl; have hfb := blk_frozen BX3.out 0)))
          have HM4 := Aside0.mk (Made.mk (w0 := w) (hs := hs ++ [⟨A1', c1', ⟨l, (i : Int)⟩⟩]) (HB3.out.setCell (p := ⟨gb, 0, none⟩) HM.out.hb (.slice A9 (hs.length + 1) c9)) HM.out.hb (blk_put BX3.out 0 _ rfl) (by rw [List.map_append]; exact Kd.R_mono (Kd.R_far (p := ⟨gb, 0, none⟩) (Kd.R_types HO3.out BX3.out (by decide)) (fun _ hk => hk.2) _) (fun _ _ => trivial)) (by intro x hx; rcases List.mem_append.1 hx with hx | hx; exact HM.out.each x hx; rw [List.mem_singleton.1 hx]; exact ⟨HX.out.1, HG.out⟩))
          go_roundg kq
          case measure => omega
          case rel => exact ⟨i + 1, _, _, by go_num, ⟨by have := HI.out; omega⟩, HM4, HVN, HJ'⟩
end Go.Proofs.Ytkkfkccfnfjbiaa.Hy
