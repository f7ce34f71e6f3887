/- DERIVED. The document's Unpack: its code walked. Conditions: those that each lemma names. -/
import Derived.Test.YthghacojbhjeaaaLe
import Derived.Test.YthghacojbhjeaaaLf
namespace Go.Proofs.Ythghacojbhjeaaa.Lg
open Go Go.RowKit Go.Proofs.Ythghacojbhjeaaa.PKp Go.Proofs.YthghacojbhjeaaaW.PrintWords Go.Proofs.YthghacojbhjeaaaW.PrintLast Go.Proofs.Ythghacojbhjeaaa.Hl Go.Proofs.Ythghacojbhjeaaa.Fv Go.Proofs.Ythghacojbhjeaaa.La Go.Proofs.Ythghacojbhjeaaa.Lc Go.Proofs.Ythghacojbhjeaaa.Le Go.Proofs.Ythghacojbhjeaaa.Lf
set_option linter.unusedSimpArgs false
set_option linter.unusedVariables false
section
variable {P : Program} {ops : Array Oper} {o : Oper} {a : Act} {Q : Exit → Act → World → Prop} {Kc : Act → World → Prop} {α : Type}
/-- An append in a region that draws; the row is written out. -/
theorem R_append_step2 (d : Kd α) {w0 W : World} (base : Nat) (hw : Region.wanted o (yielded ops a.tmps) = true) (s x : Operand) (t e : TypeId) (z : Value) (bytes : Nat)
    (ho : o.op = .call { callee := .builtin .append, args := #[s, x], argTypes := #[t, t] })
    (ht : P.underlying t = some (.slice e)) (hinfo : (P.info? e).map (fun i => (i.zero, i.size, i.bytes)) = some (some z, d.sz, bytes)) (hz : z.cells.size = d.sz) (hs0 : 0 < d.sz) (hb0 : 0 < bytes)
    (v : Value) (xs : List α) (p : α) (cs : List Value) (ok okp : Nat → Prop) (hs : a.eval s = v) (hx : a.eval x = .slice (some ⟨W.heap.size, 0, none⟩) 1 1) (hp : d.M W base okp p cs) (hokp : ∀ k, okp k → ok k ∧ some k ≠ v.ownBlock) (hfresh : ∀ k, W.heap.size ≤ k → ok k)
    (HO : d.R e W base ok v xs) (HB : Below base w0 W) (hbase : base ≤ W.heap.size) (hl : (xs.length + 1) * bytes ≤ 140737488355328)
    (h : ∀ A c w1, d.R e w1 base ok (.slice A (xs ++ [p]).length c) (xs ++ [p]) → Below base w0 w1 → W.grownBy w1 v.ownBlock → Kc (a.put o.dst (.slice A (xs ++ [p]).length c)) w1) :
    if Region.wanted o (yielded ops a.tmps) = true then Oper.wp P o a (W.alloc (.cells cs.toArray e)) Kc Q else Kc (a.put o.dst undef) (W.alloc (.cells cs.toArray e)) :=
  Kd.R_append_step d base hw s x t e z bytes ho ht hinfo hz hs0 hb0 v xs p cs ok okp hs hx hp hokp hfresh HO HB hbase hl fun v1 w1 ho1 hb1 hg1 _ => by
    obtain ⟨A, c, rfl⟩ := Kd.R_slice ho1
    exact h A c w1 ho1 hb1 hg1
end
/-- The reader and the letter. -/
structure Su (w0 w : World) (gr g5 : Nat) (A : Option Addr) (c : Nat) (bs : List Int) (a e : Int) (L : Array Value) : Prop where
  rd : Rdr 61 w0 w gr A c bs a e
  b5 : w.heap[g5]? = some (.cells L 27 (0, 0))
  l5 : w0.heap.size ≤ g5
section
variable {w0 w w1 : World} {gr g5 : Nat} {A : Option Addr} {c : Nat} {bs : List Int} {a e a1 e1 : Int} {L L' : Array Value}
theorem Su.n5 (h : Su w0 w gr g5 A c bs a e L) : g5 ≠ gr := blk_ne h.b5 h.rd.box (by decide)
theorem Su.turned (h : Su w0 w gr g5 A c bs a e L) (hr : Rdr 61 w0 w1 gr A c bs a1 e1) (ht : Turned gr w w1) : Su w0 w1 gr g5 A c bs a1 e1 L := ⟨hr, ht.blk h.b5 h.n5, h.l5⟩
theorem Su.put (h : Su w0 w gr g5 A c bs a e L) (i : Nat) (v : Value) (hL : L.setIfInBounds i v = L') : Su w0 (w.setCell ⟨g5, i, none⟩ v) gr g5 A c bs a e L' :=
  ⟨h.rd.far (p := ⟨g5, i, none⟩) h.l5 (Ne.symm h.n5) _, blk_put h.b5 i v hL, h.l5⟩
theorem Su.later (h : Su w0 w gr g5 A c bs a e L) (hb : Below w.heap.size w w1) : Su w0 w1 gr g5 A c bs a e L := ⟨h.rd.later hb, blk_below h.b5 hb, h.l5⟩
theorem Su.grown {row : Option Nat} (h : Su w0 w gr g5 A c bs a e L) (hb : Below w0.heap.size w w1) (hg : w.grownBy w1 row) (h1 : some gr ≠ row) (h2 : some g5 ≠ row) : Su w0 w1 gr g5 A c bs a e L :=
  ⟨⟨h.rd.below.trans hb, h.rd.hb, blk_grown h.rd.box hg h1, h.rd.reads, h.rd.room⟩, blk_grown h.b5 hg h2, h.l5⟩
theorem Su.far (h : Su w0 w gr g5 A c bs a e L) {p : Addr} (hp : w0.heap.size ≤ p.block) (h1 : gr ≠ p.block) (h2 : g5 ≠ p.block) (v : Value) : Su w0 (w.setCell p v) gr g5 A c bs a e L := ⟨h.rd.far hp h1 v, blk_far h.b5 h2 v, h.l5⟩
theorem Su.err (h : Su w0 w gr g5 A c bs a e L) (v : Int) : Su w0 (w.setCell ⟨gr, 2, none⟩ (.int .i64 v)) gr g5 A c bs a v L := ⟨h.rd.err v, blk_far (p := ⟨gr, 2, none⟩) h.b5 h.n5 _, h.l5⟩
end
set_option maxHeartbeats 8000000 in
set_option maxRecDepth 100000 in
theorem unpack_long (s : ByteArray) (w : World) (hs : (s.size : Int) > 65536) : Calls Try.prog 9 #[.string s] w (Out w (z27, 4)) := by
  have hu27 := Try.underlying27
  have mixed : Try.prog.follows Departure.mixedOrders = true := by kernel_rfl
  have q1 : decide ((s.size : Int) > 65536) = true := decide_eq_true hs
  clear hs
  go_enter Try.func9, Try.ntmps9
  go_wp2_with (first
      | ((with_reducible refine gate_dst (N := 2) rfl ?_); refine box_event ?hg (N := 2) ?hd (cs := #[.int .i64 0, .int .i64 0, .int .i64 0, .int .i64 0, .int .i64 0, .int .i64 0, .int .i64 0, .string (⟨#[]⟩ : ByteArray), .string (⟨#[]⟩ : ByteArray), .slice none 0 0, .slice none 0 0, .int .i64 0, .bool false, .string (⟨#[]⟩ : ByteArray)]) (t := 27) ?hr ?_; (case hd => rfl); (case hg => rfl); (case hr => first | (go_simp; done) | (go_simp; rfl)); intro g2 hg_ w1 hbox_ hb_; have L2 := Aside0.mk (show w.heap.size ≤ g2 by omega); have BX2 := Aside0.mk hbox_; have HB1 := Aside0.mk hb_; have yb0 := blk_frozen BX2.out 0; have zb0 : w1.cell? ⟨g2, 0, none⟩ = some (.int .i64 0) := (blk_cell BX2.out 0).trans rfl; have yb1 := blk_frozen BX2.out 1; have zb1 : w1.cell? ⟨g2, 1, none⟩ = some (.int .i64 0) := (blk_cell BX2.out 1).trans rfl; have yb2 := blk_frozen BX2.out 2; have zb2 : w1.cell? ⟨g2, 2, none⟩ = some (.int .i64 0) := (blk_cell BX2.out 2).trans rfl; have yb3 := blk_frozen BX2.out 3; have zb3 : w1.cell? ⟨g2, 3, none⟩ = some (.int .i64 0) := (blk_cell BX2.out 3).trans rfl; have yb4 := blk_frozen BX2.out 4; have zb4 : w1.cell? ⟨g2, 4, none⟩ = some (.int .i64 0) := (blk_cell BX2.out 4).trans rfl; have yb5 := blk_frozen BX2.out 5; have zb5 : w1.cell? ⟨g2, 5, none⟩ = some (.int .i64 0) := (blk_cell BX2.out 5).trans rfl; have yb6 := blk_frozen BX2.out 6; have zb6 : w1.cell? ⟨g2, 6, none⟩ = some (.int .i64 0) := (blk_cell BX2.out 6).trans rfl; have yb7 := blk_frozen BX2.out 7; have zb7 : w1.cell? ⟨g2, 7, none⟩ = some (.string (⟨#[]⟩ : ByteArray)) := (blk_cell BX2.out 7).trans rfl; have yb8 := blk_frozen BX2.out 8; have zb8 : w1.cell? ⟨g2, 8, none⟩ = some (.string (⟨#[]⟩ : ByteArray)) := (blk_cell BX2.out 8).trans rfl; have yb9 := blk_frozen BX2.out 9; have zb9 : w1.cell? ⟨g2, 9, none⟩ = some (.slice none 0 0) := (blk_cell BX2.out 9).trans rfl; have yb10 := blk_frozen BX2.out 10; have zb10 : w1.cell? ⟨g2, 10, none⟩ = some (.slice none 0 0) := (blk_cell BX2.out 10).trans rfl; have yb11 := blk_frozen BX2.out 11; have zb11 : w1.cell? ⟨g2, 11, none⟩ = some (.int .i64 0) := (blk_cell BX2.out 11).trans rfl; have yb12 := blk_frozen BX2.out 12; have zb12 : w1.cell? ⟨g2, 12, none⟩ = some (.bool false) := (blk_cell BX2.out 12).trans rfl; have yb13 := blk_frozen BX2.out 13; have zb13 : w1.cell? ⟨g2, 13, none⟩ = some (.string (⟨#[]⟩ : ByteArray)) := (blk_cell BX2.out 13).trans rfl; clear hb_ hbox_ hg_))
  refine bodyPost_ret (results_ct rfl _ _ g2 27 #[.int .i64 0, .int .i64 0, .int .i64 0, .int .i64 0, .int .i64 0, .int .i64 0, .int .i64 0, .string (⟨#[]⟩ : ByteArray), .string (⟨#[]⟩ : ByteArray), .slice none 0 0, .slice none 0 0, .int .i64 0, .bool false, .string (⟨#[]⟩ : ByteArray)] (0, 0) _ rfl (blk_put (cs' := #[.int .i64 0, .int .i64 0, .int .i64 0, .int .i64 0, .int .i64 0, .int .i64 0, .int .i64 0, .string (⟨#[]⟩ : ByteArray), .string (⟨#[]⟩ : ByteArray), .slice none 0 0, .slice none 0 0, .int .i64 0, .bool false, .string (⟨#[]⟩ : ByteArray)]) (blk_put (cs' := #[.int .i64 0, .int .i64 0, .int .i64 0, .int .i64 0, .int .i64 0, .int .i64 0, .int .i64 0, .string (⟨#[]⟩ : ByteArray), .string (⟨#[]⟩ : ByteArray), .slice none 0 0, .slice none 0 0, .int .i64 0, .bool false, .string (⟨#[]⟩ : ByteArray)]) (blk_put (cs' := #[.int .i64 0, .int .i64 0, .int .i64 0, .int .i64 0, .int .i64 0, .int .i64 0, .int .i64 0, .string (⟨#[]⟩ : ByteArray), .string (⟨#[]⟩ : ByteArray), .slice none 0 0, .slice none 0 0, .int .i64 0, .bool false, .string (⟨#[]⟩ : ByteArray)]) (blk_put (cs' := #[.int .i64 0, .int .i64 0, .int .i64 0, .int .i64 0, .int .i64 0, .int .i64 0, .int .i64 0, .string (⟨#[]⟩ : ByteArray), .string (⟨#[]⟩ : ByteArray), .slice none 0 0, .slice none 0 0, .int .i64 0, .bool false, .string (⟨#[]⟩ : ByteArray)]) (blk_put (cs' := #[.int .i64 0, .int .i64 0, .int .i64 0, .int .i64 0, .int .i64 0, .int .i64 0, .int .i64 0, .string (⟨#[]⟩ : ByteArray), .string (⟨#[]⟩ : ByteArray), .slice none 0 0, .slice none 0 0, .int .i64 0, .bool false, .string (⟨#[]⟩ : ByteArray)]) (blk_put (cs' := #[.int .i64 0, .int .i64 0, .int .i64 0, .int .i64 0, .int .i64 0, .int .i64 0, .int .i64 0, .string (⟨#[]⟩ : ByteArray), .string (⟨#[]⟩ : ByteArray), .slice none 0 0, .slice none 0 0, .int .i64 0, .bool false, .string (⟨#[]⟩ : ByteArray)]) (blk_put (cs' := #[.int .i64 0, .int .i64 0, .int .i64 0, .int .i64 0, .int .i64 0, .int .i64 0, .int .i64 0, .string (⟨#[]⟩ : ByteArray), .string (⟨#[]⟩ : ByteArray), .slice none 0 0, .slice none 0 0, .int .i64 0, .bool false, .string (⟨#[]⟩ : ByteArray)]) (blk_put (cs' := #[.int .i64 0, .int .i64 0, .int .i64 0, .int .i64 0, .int .i64 0, .int .i64 0, .int .i64 0, .string (⟨#[]⟩ : ByteArray), .string (⟨#[]⟩ : ByteArray), .slice none 0 0, .slice none 0 0, .int .i64 0, .bool false, .string (⟨#[]⟩ : ByteArray)]) (blk_put (cs' := #[.int .i64 0, .int .i64 0, .int .i64 0, .int .i64 0, .int .i64 0, .int .i64 0, .int .i64 0, .string (⟨#[]⟩ : ByteArray), .string (⟨#[]⟩ : ByteArray), .slice none 0 0, .slice none 0 0, .int .i64 0, .bool false, .string (⟨#[]⟩ : ByteArray)]) (blk_put (cs' := #[.int .i64 0, .int .i64 0, .int .i64 0, .int .i64 0, .int .i64 0, .int .i64 0, .int .i64 0, .string (⟨#[]⟩ : ByteArray), .string (⟨#[]⟩ : ByteArray), .slice none 0 0, .slice none 0 0, .int .i64 0, .bool false, .string (⟨#[]⟩ : ByteArray)]) (blk_put (cs' := #[.int .i64 0, .int .i64 0, .int .i64 0, .int .i64 0, .int .i64 0, .int .i64 0, .int .i64 0, .string (⟨#[]⟩ : ByteArray), .string (⟨#[]⟩ : ByteArray), .slice none 0 0, .slice none 0 0, .int .i64 0, .bool false, .string (⟨#[]⟩ : ByteArray)]) (blk_put (cs' := #[.int .i64 0, .int .i64 0, .int .i64 0, .int .i64 0, .int .i64 0, .int .i64 0, .int .i64 0, .string (⟨#[]⟩ : ByteArray), .string (⟨#[]⟩ : ByteArray), .slice none 0 0, .slice none 0 0, .int .i64 0, .bool false, .string (⟨#[]⟩ : ByteArray)]) (blk_put (cs' := #[.int .i64 0, .int .i64 0, .int .i64 0, .int .i64 0, .int .i64 0, .int .i64 0, .int .i64 0, .string (⟨#[]⟩ : ByteArray), .string (⟨#[]⟩ : ByteArray), .slice none 0 0, .slice none 0 0, .int .i64 0, .bool false, .string (⟨#[]⟩ : ByteArray)]) (blk_put (cs' := #[.int .i64 0, .int .i64 0, .int .i64 0, .int .i64 0, .int .i64 0, .int .i64 0, .int .i64 0, .string (⟨#[]⟩ : ByteArray), .string (⟨#[]⟩ : ByteArray), .slice none 0 0, .slice none 0 0, .int .i64 0, .bool false, .string (⟨#[]⟩ : ByteArray)]) BX2.out 0 (.int .i64 0) rfl) 1 (.int .i64 0) rfl) 2 (.int .i64 0) rfl) 3 (.int .i64 0) rfl) 4 (.int .i64 0) rfl) 5 (.int .i64 0) rfl) 6 (.int .i64 0) rfl) 7 (.string (⟨#[]⟩ : ByteArray)) rfl) 8 (.string (⟨#[]⟩ : ByteArray)) rfl) 9 (.slice none 0 0) rfl) 10 (.slice none 0 0) rfl) 11 (.int .i64 0) rfl) 12 (.bool false) rfl) 13 (.string (⟨#[]⟩ : ByteArray)) rfl) Try.underlying27 rfl (by kernel_rfl)) rfl ?_
  refine ⟨_, _, rfl, Kd.R_nil _ _ _ _ _, Kd.R_nil _ _ _ _ _, ?_⟩
  exact ((((((((((((((HB1.out.setCell (p := ⟨g2, 0, none⟩) L2.out _).setCell (p := ⟨g2, 1, none⟩) L2.out _).setCell (p := ⟨g2, 2, none⟩) L2.out _).setCell (p := ⟨g2, 3, none⟩) L2.out _).setCell (p := ⟨g2, 4, none⟩) L2.out _).setCell (p := ⟨g2, 5, none⟩) L2.out _).setCell (p := ⟨g2, 6, none⟩) L2.out _).setCell (p := ⟨g2, 7, none⟩) L2.out _).setCell (p := ⟨g2, 8, none⟩) L2.out _).setCell (p := ⟨g2, 9, none⟩) L2.out _).setCell (p := ⟨g2, 10, none⟩) L2.out _).setCell (p := ⟨g2, 11, none⟩) L2.out _).setCell (p := ⟨g2, 12, none⟩) L2.out _).setCell (p := ⟨g2, 13, none⟩) L2.out _)
set_option maxHeartbeats 8000000 in
set_option maxRecDepth 100000 in
theorem unpack_short (k : Nat) (s : ByteArray) (w : World) (r : S27 × Int) (hs : ¬ (s.size : Int) > 65536) (h : unpackG (refN k) (refT k) (bytesOf s) (s.size : Int) = some r) : Calls Try.prog 9 #[.string s] w (Out w r) := by
  have hu27 := Try.underlying27
  have hu61 := Try.underlying61
  have hu41 := Try.underlying41
  have mixed : Try.prog.follows Departure.mixedOrders = true := by kernel_rfl
  have q1 : decide ((s.size : Int) > 65536) = false := decide_eq_false hs
  have HS := Aside0.mk (show s.size ≤ 140737488351232 by omega)
  unfold unpackG at h
  obtain ⟨⟨kd, a1, e1⟩, h1, h⟩ := Option.bind_eq_some_iff.1 h
  obtain ⟨⟨ns, a2, e2⟩, h2, h⟩ := Option.bind_eq_some_iff.1 h
  obtain ⟨⟨co, a3, e3⟩, h3, h⟩ := Option.bind_eq_some_iff.1 h
  obtain ⟨⟨ye, a4, e4⟩, h4, h⟩ := Option.bind_eq_some_iff.1 h
  obtain ⟨⟨ts, a5, e5⟩, h5, h⟩ := Option.bind_eq_some_iff.1 h
  obtain ⟨⟨pn, a6, e6⟩, h6, h⟩ := Option.bind_eq_some_iff.1 h
  obtain ⟨⟨ps, a7, e7⟩, h7, h⟩ := Option.bind_eq_some_iff.1 h
  obtain ⟨⟨qn, a8, e8⟩, h8, h⟩ := Option.bind_eq_some_iff.1 h
  obtain ⟨⟨is_, a9, e9⟩, h9, h⟩ := Option.bind_eq_some_iff.1 h
  have F1 := Aside0.mk h1; have F3 := Aside0.mk h3; have F4 := Aside0.mk h4; have F6 := Aside0.mk h6; have F7 := Aside0.mk h7; have F8 := Aside0.mk h8; have F9 := Aside0.mk h9
  clear h1 h3 h4 h6 h7 h8 h9 hs
  obtain ⟨n1, b1, f1, r1, hv, h2, en1⟩ := one_num h2
  have N1 := Aside0.mk hv
  clear hv
  obtain ⟨n2, b2, f2, r2, hv, h2, en2⟩ := one_num h2
  have N2 := Aside0.mk hv
  clear hv
  obtain ⟨n3, b3, f3, r3, hv, h2, en3⟩ := one_num h2
  have N3 := Aside0.mk hv
  clear hv
  obtain ⟨n4, b4, f4, r4, hv, h2, en4⟩ := one_num h2
  have N4 := Aside0.mk hv
  clear hv
  obtain ⟨n5, b5, f5, r5, hv, h2, en5⟩ := one_num h2
  have N5 := Aside0.mk hv
  clear hv
  obtain ⟨n6, b6, f6, r6, hv, h2, en6⟩ := one_num h2
  have N6 := Aside0.mk hv
  clear hv
  rw [numsG] at h2
  simp only [Option.some.injEq, Prod.mk.injEq] at h2
  obtain ⟨hr, ha2, he2⟩ := h2
  obtain ⟨t1, c1_, g1_, s1_, hv, h5, et1⟩ := one_text h5
  have T1 := Aside0.mk hv
  clear hv
  obtain ⟨t2, c2_, g2_, s2_, hv, h5, et2⟩ := one_text h5
  have T2 := Aside0.mk hv
  clear hv
  obtain ⟨t3, c3_, g3_, s3_, hv, h5, et3⟩ := one_text h5
  have T3 := Aside0.mk hv
  clear hv
  rw [textsG] at h5
  simp only [Option.some.injEq, Prod.mk.injEq] at h5
  obtain ⟨hs_, ha5, he5⟩ := h5
  have hns : ns = [n1, n2, n3, n4, n5, n6] := by
    have e1_ := en1; have e2_ := en2; have e3_ := en3; have e4_ := en4; have e5_ := en5; have e6_ := en6
    dsimp only at e1_ e2_ e3_ e4_ e5_ e6_
    rw [e1_, e2_, e3_, e4_, e5_, e6_, ← hr]
  have hts : ts = [t1, t2, t3] := by
    have e1_ := et1; have e2_ := et2; have e3_ := et3
    dsimp only at e1_ e2_ e3_
    rw [e1_, e2_, e3_, ← hs_]
  replace ha2 : b6 = a2 := ha2
  replace he2 : f6 = e2 := he2
  replace ha5 : c3_ = a5 := ha5
  replace he5 : g3_ = e5 := he5
  replace h : (if endE (s.size : Int) a9 e9 = 0 then (mkL kd ns co ye ts ps is_, 0) else (z27, endE (s.size : Int) a9 e9)) = r := Option.some.inj h
  rw [hns, hts] at h
  replace h : (if endE (s.size : Int) a9 e9 = 0 then ((⟨kd, n1, n2, n3, n4, n5, n6, t1, t2, ps, is_, co, ye == 1, t3⟩ : S27), (0 : Int)) else (z27, endE (s.size : Int) a9 e9)) = r := h
  have F0 := Aside0.mk h
  clear h en1 en2 en3 en4 en5 en6 et1 et2 et3 hr hs_ hns hts h2 h5
  subst ha2 he2 ha5 he5

  go_enter Try.func9, Try.ntmps9
  go_upto_region 5 with (first
      | ((with_reducible refine gate_dst (N := 2) rfl ?_); refine box_event ?hg (N := 2) ?hd (cs := #[.int .i64 0, .int .i64 0, .int .i64 0, .int .i64 0, .int .i64 0, .int .i64 0, .int .i64 0, .string (⟨#[]⟩ : ByteArray), .string (⟨#[]⟩ : ByteArray), .slice none 0 0, .slice none 0 0, .int .i64 0, .bool false, .string (⟨#[]⟩ : ByteArray)]) (t := 27) ?hr ?_; (case hd => rfl); (case hg => rfl); (case hr => first | (go_simp; done) | (go_simp; rfl)); intro g2 hg_ w1 hbox_ hb_; have L2 := Aside0.mk (show w.heap.size ≤ g2 by omega); have BX2 := Aside0.mk hbox_; have HB1 := Aside0.mk hb_; clear hb_ hbox_ hg_)
      | ((with_reducible refine gate_dst (N := 16) rfl ?_); refine bytes_event ?hg (N := 16) ?hd 9 43 5 (.tmp 15) rfl s rfl Try.underlying9 Try.underlying43 Try.underlying5 HS.out ?_; (case hd => rfl); (case hg => rfl); intro w2 A c hb_ hC_ hc_; have HC2 := Aside0.mk hC_; have HCC := Aside0.mk hc_; have HB2 := Aside0.mk hb_; have BX22 := Aside0.mk (blk_below BX2.out hb_); clear hb_ hC_ hc_)
      | ((with_reducible refine gate_dst (N := 18) rfl ?_); refine box_event ?hg (N := 18) ?hd (cs := #[.slice A (bytesOf s).length c, .int .i64 0, .int .i64 0]) (t := 61) ?hr ?_; (case hd => rfl); (case hg => rfl); (case hr => first | (go_simp; done) | (go_simp; rfl)); intro gr hg_ w3 hbox_ hb_; have HR3 := Aside0.mk (Rdr.mk (t := 61) (w0 := w2) hb_ (by omega) hbox_ HC2.out HCC.out); clear hb_ hbox_ hg_)
      | ((with_reducible refine gate_dst (N := 5) rfl ?_); refine box_event ?hg (N := 5) ?hd (cs := #[.int .i64 0, .int .i64 0, .int .i64 0, .int .i64 0, .int .i64 0, .int .i64 0, .int .i64 0, .string (⟨#[]⟩ : ByteArray), .string (⟨#[]⟩ : ByteArray), .slice none 0 0, .slice none 0 0, .int .i64 0, .bool false, .string (⟨#[]⟩ : ByteArray)]) (t := 27) ?hr ?_; (case hd => rfl); (case hg => rfl); (case hr => first | (go_simp; done) | (go_simp; rfl)); intro g5 hg_ w4 hbox_ hb_; have S4 := Aside0.mk (Su.mk (HR3.out.later hb_) hbox_ (by have := HR3.out.below.size; omega)); have yb0 := blk_frozen S4.out.b5 0; have zb0 : w4.cell? ⟨g5, 0, none⟩ = some (.int .i64 0) := (blk_cell S4.out.b5 0).trans rfl; have yb1 := blk_frozen S4.out.b5 1; have zb1 : w4.cell? ⟨g5, 1, none⟩ = some (.int .i64 0) := (blk_cell S4.out.b5 1).trans rfl; have yb2 := blk_frozen S4.out.b5 2; have zb2 : w4.cell? ⟨g5, 2, none⟩ = some (.int .i64 0) := (blk_cell S4.out.b5 2).trans rfl; have yb3 := blk_frozen S4.out.b5 3; have zb3 : w4.cell? ⟨g5, 3, none⟩ = some (.int .i64 0) := (blk_cell S4.out.b5 3).trans rfl; have yb4 := blk_frozen S4.out.b5 4; have zb4 : w4.cell? ⟨g5, 4, none⟩ = some (.int .i64 0) := (blk_cell S4.out.b5 4).trans rfl; have yb5 := blk_frozen S4.out.b5 5; have zb5 : w4.cell? ⟨g5, 5, none⟩ = some (.int .i64 0) := (blk_cell S4.out.b5 5).trans rfl; have yb6 := blk_frozen S4.out.b5 6; have zb6 : w4.cell? ⟨g5, 6, none⟩ = some (.int .i64 0) := (blk_cell S4.out.b5 6).trans rfl; have yb7 := blk_frozen S4.out.b5 7; have zb7 : w4.cell? ⟨g5, 7, none⟩ = some (.string (⟨#[]⟩ : ByteArray)) := (blk_cell S4.out.b5 7).trans rfl; have yb8 := blk_frozen S4.out.b5 8; have zb8 : w4.cell? ⟨g5, 8, none⟩ = some (.string (⟨#[]⟩ : ByteArray)) := (blk_cell S4.out.b5 8).trans rfl; have yb9 := blk_frozen S4.out.b5 9; have zb9 : w4.cell? ⟨g5, 9, none⟩ = some (.slice none 0 0) := (blk_cell S4.out.b5 9).trans rfl; have yb10 := blk_frozen S4.out.b5 10; have zb10 : w4.cell? ⟨g5, 10, none⟩ = some (.slice none 0 0) := (blk_cell S4.out.b5 10).trans rfl; have yb11 := blk_frozen S4.out.b5 11; have zb11 : w4.cell? ⟨g5, 11, none⟩ = some (.int .i64 0) := (blk_cell S4.out.b5 11).trans rfl; have yb12 := blk_frozen S4.out.b5 12; have zb12 : w4.cell? ⟨g5, 12, none⟩ = some (.bool false) := (blk_cell S4.out.b5 12).trans rfl; have yb13 := blk_frozen S4.out.b5 13; have zb13 : w4.cell? ⟨g5, 13, none⟩ = some (.string (⟨#[]⟩ : ByteArray)) := (blk_cell S4.out.b5 13).trans rfl; clear hb_ hbox_ hg_))
  have S5 := Aside0.mk ((Su.put (L' := #[.int .i64 0, .int .i64 0, .int .i64 0, .int .i64 0, .int .i64 0, .int .i64 0, .int .i64 0, .string (⟨#[]⟩ : ByteArray), .string (⟨#[]⟩ : ByteArray), .slice none 0 0, .slice none 0 0, .int .i64 0, .bool false, .string (⟨#[]⟩ : ByteArray)]) (Su.put (L' := #[.int .i64 0, .int .i64 0, .int .i64 0, .int .i64 0, .int .i64 0, .int .i64 0, .int .i64 0, .string (⟨#[]⟩ : ByteArray), .string (⟨#[]⟩ : ByteArray), .slice none 0 0, .slice none 0 0, .int .i64 0, .bool false, .string (⟨#[]⟩ : ByteArray)]) (Su.put (L' := #[.int .i64 0, .int .i64 0, .int .i64 0, .int .i64 0, .int .i64 0, .int .i64 0, .int .i64 0, .string (⟨#[]⟩ : ByteArray), .string (⟨#[]⟩ : ByteArray), .slice none 0 0, .slice none 0 0, .int .i64 0, .bool false, .string (⟨#[]⟩ : ByteArray)]) (Su.put (L' := #[.int .i64 0, .int .i64 0, .int .i64 0, .int .i64 0, .int .i64 0, .int .i64 0, .int .i64 0, .string (⟨#[]⟩ : ByteArray), .string (⟨#[]⟩ : ByteArray), .slice none 0 0, .slice none 0 0, .int .i64 0, .bool false, .string (⟨#[]⟩ : ByteArray)]) (Su.put (L' := #[.int .i64 0, .int .i64 0, .int .i64 0, .int .i64 0, .int .i64 0, .int .i64 0, .int .i64 0, .string (⟨#[]⟩ : ByteArray), .string (⟨#[]⟩ : ByteArray), .slice none 0 0, .slice none 0 0, .int .i64 0, .bool false, .string (⟨#[]⟩ : ByteArray)]) (Su.put (L' := #[.int .i64 0, .int .i64 0, .int .i64 0, .int .i64 0, .int .i64 0, .int .i64 0, .int .i64 0, .string (⟨#[]⟩ : ByteArray), .string (⟨#[]⟩ : ByteArray), .slice none 0 0, .slice none 0 0, .int .i64 0, .bool false, .string (⟨#[]⟩ : ByteArray)]) (Su.put (L' := #[.int .i64 0, .int .i64 0, .int .i64 0, .int .i64 0, .int .i64 0, .int .i64 0, .int .i64 0, .string (⟨#[]⟩ : ByteArray), .string (⟨#[]⟩ : ByteArray), .slice none 0 0, .slice none 0 0, .int .i64 0, .bool false, .string (⟨#[]⟩ : ByteArray)]) (Su.put (L' := #[.int .i64 0, .int .i64 0, .int .i64 0, .int .i64 0, .int .i64 0, .int .i64 0, .int .i64 0, .string (⟨#[]⟩ : ByteArray), .string (⟨#[]⟩ : ByteArray), .slice none 0 0, .slice none 0 0, .int .i64 0, .bool false, .string (⟨#[]⟩ : ByteArray)]) (Su.put (L' := #[.int .i64 0, .int .i64 0, .int .i64 0, .int .i64 0, .int .i64 0, .int .i64 0, .int .i64 0, .string (⟨#[]⟩ : ByteArray), .string (⟨#[]⟩ : ByteArray), .slice none 0 0, .slice none 0 0, .int .i64 0, .bool false, .string (⟨#[]⟩ : ByteArray)]) (Su.put (L' := #[.int .i64 0, .int .i64 0, .int .i64 0, .int .i64 0, .int .i64 0, .int .i64 0, .int .i64 0, .string (⟨#[]⟩ : ByteArray), .string (⟨#[]⟩ : ByteArray), .slice none 0 0, .slice none 0 0, .int .i64 0, .bool false, .string (⟨#[]⟩ : ByteArray)]) (Su.put (L' := #[.int .i64 0, .int .i64 0, .int .i64 0, .int .i64 0, .int .i64 0, .int .i64 0, .int .i64 0, .string (⟨#[]⟩ : ByteArray), .string (⟨#[]⟩ : ByteArray), .slice none 0 0, .slice none 0 0, .int .i64 0, .bool false, .string (⟨#[]⟩ : ByteArray)]) (Su.put (L' := #[.int .i64 0, .int .i64 0, .int .i64 0, .int .i64 0, .int .i64 0, .int .i64 0, .int .i64 0, .string (⟨#[]⟩ : ByteArray), .string (⟨#[]⟩ : ByteArray), .slice none 0 0, .slice none 0 0, .int .i64 0, .bool false, .string (⟨#[]⟩ : ByteArray)]) (Su.put (L' := #[.int .i64 0, .int .i64 0, .int .i64 0, .int .i64 0, .int .i64 0, .int .i64 0, .int .i64 0, .string (⟨#[]⟩ : ByteArray), .string (⟨#[]⟩ : ByteArray), .slice none 0 0, .slice none 0 0, .int .i64 0, .bool false, .string (⟨#[]⟩ : ByteArray)]) (Su.put (L' := #[.int .i64 0, .int .i64 0, .int .i64 0, .int .i64 0, .int .i64 0, .int .i64 0, .int .i64 0, .string (⟨#[]⟩ : ByteArray), .string (⟨#[]⟩ : ByteArray), .slice none 0 0, .slice none 0 0, .int .i64 0, .bool false, .string (⟨#[]⟩ : ByteArray)]) S4.out 0 (.int .i64 0) rfl) 1 (.int .i64 0) rfl) 2 (.int .i64 0) rfl) 3 (.int .i64 0) rfl) 4 (.int .i64 0) rfl) 5 (.int .i64 0) rfl) 6 (.int .i64 0) rfl) 7 (.string (⟨#[]⟩ : ByteArray)) rfl) 8 (.string (⟨#[]⟩ : ByteArray)) rfl) 9 (.slice none 0 0) rfl) 10 (.slice none 0 0) rfl) 11 (.int .i64 0) rfl) 12 (.bool false) rfl) 13 (.string (⟨#[]⟩ : ByteArray)) rfl))
  obtain ⟨w5, hw_⟩ : ∃ u, ((((((((((((((w4.setCell ⟨g5, 0, none⟩ (.int .i64 0)).setCell ⟨g5, 1, none⟩ (.int .i64 0)).setCell ⟨g5, 2, none⟩ (.int .i64 0)).setCell ⟨g5, 3, none⟩ (.int .i64 0)).setCell ⟨g5, 4, none⟩ (.int .i64 0)).setCell ⟨g5, 5, none⟩ (.int .i64 0)).setCell ⟨g5, 6, none⟩ (.int .i64 0)).setCell ⟨g5, 7, none⟩ (.string (⟨#[]⟩ : ByteArray))).setCell ⟨g5, 8, none⟩ (.string (⟨#[]⟩ : ByteArray))).setCell ⟨g5, 9, none⟩ (.slice none 0 0)).setCell ⟨g5, 10, none⟩ (.slice none 0 0)).setCell ⟨g5, 11, none⟩ (.int .i64 0)).setCell ⟨g5, 12, none⟩ (.bool false)).setCell ⟨g5, 13, none⟩ (.string (⟨#[]⟩ : ByteArray))) = u := ⟨_, rfl⟩
  rw [hw_] at S5 ⊢
  clear hw_
  clear yb0 zb0 yb1 zb1 yb2 zb2 yb3 zb3 yb4 zb4 yb5 zb5 yb6 zb6 yb7 zb7 yb8 zb8 yb9 zb9 yb10 zb10 yb11 zb11 yb12 zb12 yb13 zb13
  go_upto_region 6 with (first
      | ((with_reducible refine gate_callee (f := 25) rfl ?_); refine goesL_ (some 21) rfl rfl Try.func25 (by kernel_rfl) rfl #[.pointer (some ⟨gr, 0, none⟩), .int .i64 255, .int .i64 3] rfl (by (try simp only [List.map_toArray, List.map_cons, List.map_nil]); first | done | rfl) ?_; (refine (num_r S5.out.rd k 255 3 _ _ _ F1.out).mono ?_); rintro en w5a ⟨rfl, hh_, ht_⟩; refine ⟨_, rfl, ?_⟩; have S5a := Aside0.mk (S5.out.turned hh_ ht_); have y0 := blk_frozen S5a.out.b5 0; have z0 : w5a.cell? ⟨g5, 0, none⟩ = some (.int .i64 0) := (blk_cell S5a.out.b5 0).trans rfl; clear hh_ ht_))
  have S6 := Aside0.mk (S5a.out.put 0 (.int .i64 kd) (L' := #[.int .i64 kd, .int .i64 0, .int .i64 0, .int .i64 0, .int .i64 0, .int .i64 0, .int .i64 0, .string (⟨#[]⟩ : ByteArray), .string (⟨#[]⟩ : ByteArray), .slice none 0 0, .slice none 0 0, .int .i64 0, .bool false, .string (⟨#[]⟩ : ByteArray)]) rfl)
  obtain ⟨w6, hw_⟩ : ∃ u, w5a.setCell ⟨g5, 0, none⟩ (.int .i64 kd) = u := ⟨_, rfl⟩
  rw [hw_] at S6 ⊢
  clear hw_ z0 y0 S5 S5a
  go_upto_region 7 with (first
      | ((with_reducible refine gate_callee (f := 25) rfl ?_); refine goesL_ (some 24) rfl rfl Try.func25 (by kernel_rfl) rfl #[.pointer (some ⟨gr, 0, none⟩), .int .i64 1099511627776, .int .i64 3] rfl (by (try simp only [List.map_toArray, List.map_cons, List.map_nil]); first | done | rfl) ?_; (refine (num_r S6.out.rd k 1099511627776 3 _ _ _ N1.out).mono ?_); rintro en w6a ⟨rfl, hh_, ht_⟩; refine ⟨_, rfl, ?_⟩; have S6a := Aside0.mk (S6.out.turned hh_ ht_); have y0 := blk_frozen S6a.out.b5 1; have z0 : w6a.cell? ⟨g5, 1, none⟩ = some (.int .i64 0) := (blk_cell S6a.out.b5 1).trans rfl; clear hh_ ht_))
  have S7 := Aside0.mk (S6a.out.put 1 (.int .i64 n1) (L' := #[.int .i64 kd, .int .i64 n1, .int .i64 0, .int .i64 0, .int .i64 0, .int .i64 0, .int .i64 0, .string (⟨#[]⟩ : ByteArray), .string (⟨#[]⟩ : ByteArray), .slice none 0 0, .slice none 0 0, .int .i64 0, .bool false, .string (⟨#[]⟩ : ByteArray)]) rfl)
  obtain ⟨w7, hw_⟩ : ∃ u, w6a.setCell ⟨g5, 1, none⟩ (.int .i64 n1) = u := ⟨_, rfl⟩
  rw [hw_] at S7 ⊢
  clear hw_ z0 y0 S6 S6a
  go_upto_region 8 with (first
      | ((with_reducible refine gate_callee (f := 25) rfl ?_); refine goesL_ (some 27) rfl rfl Try.func25 (by kernel_rfl) rfl #[.pointer (some ⟨gr, 0, none⟩), .int .i64 1099511627776, .int .i64 3] rfl (by (try simp only [List.map_toArray, List.map_cons, List.map_nil]); first | done | rfl) ?_; (refine (num_r S7.out.rd k 1099511627776 3 _ _ _ N2.out).mono ?_); rintro en w7a ⟨rfl, hh_, ht_⟩; refine ⟨_, rfl, ?_⟩; have S7a := Aside0.mk (S7.out.turned hh_ ht_); have y0 := blk_frozen S7a.out.b5 2; have z0 : w7a.cell? ⟨g5, 2, none⟩ = some (.int .i64 0) := (blk_cell S7a.out.b5 2).trans rfl; clear hh_ ht_))
  have S8 := Aside0.mk (S7a.out.put 2 (.int .i64 n2) (L' := #[.int .i64 kd, .int .i64 n1, .int .i64 n2, .int .i64 0, .int .i64 0, .int .i64 0, .int .i64 0, .string (⟨#[]⟩ : ByteArray), .string (⟨#[]⟩ : ByteArray), .slice none 0 0, .slice none 0 0, .int .i64 0, .bool false, .string (⟨#[]⟩ : ByteArray)]) rfl)
  obtain ⟨w8, hw_⟩ : ∃ u, w7a.setCell ⟨g5, 2, none⟩ (.int .i64 n2) = u := ⟨_, rfl⟩
  rw [hw_] at S8 ⊢
  clear hw_ z0 y0 S7 S7a
  go_upto_region 9 with (first
      | ((with_reducible refine gate_callee (f := 25) rfl ?_); refine goesL_ (some 30) rfl rfl Try.func25 (by kernel_rfl) rfl #[.pointer (some ⟨gr, 0, none⟩), .int .i64 1099511627776, .int .i64 3] rfl (by (try simp only [List.map_toArray, List.map_cons, List.map_nil]); first | done | rfl) ?_; (refine (num_r S8.out.rd k 1099511627776 3 _ _ _ N3.out).mono ?_); rintro en w8a ⟨rfl, hh_, ht_⟩; refine ⟨_, rfl, ?_⟩; have S8a := Aside0.mk (S8.out.turned hh_ ht_); have y0 := blk_frozen S8a.out.b5 3; have z0 : w8a.cell? ⟨g5, 3, none⟩ = some (.int .i64 0) := (blk_cell S8a.out.b5 3).trans rfl; clear hh_ ht_))
  have S9 := Aside0.mk (S8a.out.put 3 (.int .i64 n3) (L' := #[.int .i64 kd, .int .i64 n1, .int .i64 n2, .int .i64 n3, .int .i64 0, .int .i64 0, .int .i64 0, .string (⟨#[]⟩ : ByteArray), .string (⟨#[]⟩ : ByteArray), .slice none 0 0, .slice none 0 0, .int .i64 0, .bool false, .string (⟨#[]⟩ : ByteArray)]) rfl)
  obtain ⟨w9, hw_⟩ : ∃ u, w8a.setCell ⟨g5, 3, none⟩ (.int .i64 n3) = u := ⟨_, rfl⟩
  rw [hw_] at S9 ⊢
  clear hw_ z0 y0 S8 S8a
  go_upto_region 10 with (first
      | ((with_reducible refine gate_callee (f := 25) rfl ?_); refine goesL_ (some 33) rfl rfl Try.func25 (by kernel_rfl) rfl #[.pointer (some ⟨gr, 0, none⟩), .int .i64 1099511627776, .int .i64 3] rfl (by (try simp only [List.map_toArray, List.map_cons, List.map_nil]); first | done | rfl) ?_; (refine (num_r S9.out.rd k 1099511627776 3 _ _ _ N4.out).mono ?_); rintro en w9a ⟨rfl, hh_, ht_⟩; refine ⟨_, rfl, ?_⟩; have S9a := Aside0.mk (S9.out.turned hh_ ht_); have y0 := blk_frozen S9a.out.b5 4; have z0 : w9a.cell? ⟨g5, 4, none⟩ = some (.int .i64 0) := (blk_cell S9a.out.b5 4).trans rfl; clear hh_ ht_))
  have S10 := Aside0.mk (S9a.out.put 4 (.int .i64 n4) (L' := #[.int .i64 kd, .int .i64 n1, .int .i64 n2, .int .i64 n3, .int .i64 n4, .int .i64 0, .int .i64 0, .string (⟨#[]⟩ : ByteArray), .string (⟨#[]⟩ : ByteArray), .slice none 0 0, .slice none 0 0, .int .i64 0, .bool false, .string (⟨#[]⟩ : ByteArray)]) rfl)
  obtain ⟨w10, hw_⟩ : ∃ u, w9a.setCell ⟨g5, 4, none⟩ (.int .i64 n4) = u := ⟨_, rfl⟩
  rw [hw_] at S10 ⊢
  clear hw_ z0 y0 S9 S9a
  go_upto_region 11 with (first
      | ((with_reducible refine gate_callee (f := 25) rfl ?_); refine goesL_ (some 36) rfl rfl Try.func25 (by kernel_rfl) rfl #[.pointer (some ⟨gr, 0, none⟩), .int .i64 1099511627776, .int .i64 3] rfl (by (try simp only [List.map_toArray, List.map_cons, List.map_nil]); first | done | rfl) ?_; (refine (num_r S10.out.rd k 1099511627776 3 _ _ _ N5.out).mono ?_); rintro en w10a ⟨rfl, hh_, ht_⟩; refine ⟨_, rfl, ?_⟩; have S10a := Aside0.mk (S10.out.turned hh_ ht_); have y0 := blk_frozen S10a.out.b5 5; have z0 : w10a.cell? ⟨g5, 5, none⟩ = some (.int .i64 0) := (blk_cell S10a.out.b5 5).trans rfl; clear hh_ ht_))
  have S11 := Aside0.mk (S10a.out.put 5 (.int .i64 n5) (L' := #[.int .i64 kd, .int .i64 n1, .int .i64 n2, .int .i64 n3, .int .i64 n4, .int .i64 n5, .int .i64 0, .string (⟨#[]⟩ : ByteArray), .string (⟨#[]⟩ : ByteArray), .slice none 0 0, .slice none 0 0, .int .i64 0, .bool false, .string (⟨#[]⟩ : ByteArray)]) rfl)
  obtain ⟨w11, hw_⟩ : ∃ u, w10a.setCell ⟨g5, 5, none⟩ (.int .i64 n5) = u := ⟨_, rfl⟩
  rw [hw_] at S11 ⊢
  clear hw_ z0 y0 S10 S10a
  go_upto_region 12 with (first
      | ((with_reducible refine gate_callee (f := 25) rfl ?_); refine goesL_ (some 39) rfl rfl Try.func25 (by kernel_rfl) rfl #[.pointer (some ⟨gr, 0, none⟩), .int .i64 1099511627776, .int .i64 3] rfl (by (try simp only [List.map_toArray, List.map_cons, List.map_nil]); first | done | rfl) ?_; (refine (num_r S11.out.rd k 1099511627776 3 _ _ _ N6.out).mono ?_); rintro en w11a ⟨rfl, hh_, ht_⟩; refine ⟨_, rfl, ?_⟩; have S11a := Aside0.mk (S11.out.turned hh_ ht_); have y0 := blk_frozen S11a.out.b5 6; have z0 : w11a.cell? ⟨g5, 6, none⟩ = some (.int .i64 0) := (blk_cell S11a.out.b5 6).trans rfl; clear hh_ ht_))
  have S12 := Aside0.mk (S11a.out.put 6 (.int .i64 n6) (L' := #[.int .i64 kd, .int .i64 n1, .int .i64 n2, .int .i64 n3, .int .i64 n4, .int .i64 n5, .int .i64 n6, .string (⟨#[]⟩ : ByteArray), .string (⟨#[]⟩ : ByteArray), .slice none 0 0, .slice none 0 0, .int .i64 0, .bool false, .string (⟨#[]⟩ : ByteArray)]) rfl)
  obtain ⟨w12, hw_⟩ : ∃ u, w11a.setCell ⟨g5, 6, none⟩ (.int .i64 n6) = u := ⟨_, rfl⟩
  rw [hw_] at S12 ⊢
  clear hw_ z0 y0 S11 S11a
  go_upto_region 13 with (first
      | ((with_reducible refine gate_callee (f := 25) rfl ?_); refine goesL_ (some 42) rfl rfl Try.func25 (by kernel_rfl) rfl #[.pointer (some ⟨gr, 0, none⟩), .int .i64 1099511627776, .int .i64 3] rfl (by (try simp only [List.map_toArray, List.map_cons, List.map_nil]); first | done | rfl) ?_; (refine (num_r S12.out.rd k 1099511627776 3 _ _ _ F3.out).mono ?_); rintro en w12a ⟨rfl, hh_, ht_⟩; refine ⟨_, rfl, ?_⟩; have S12a := Aside0.mk (S12.out.turned hh_ ht_); have y0 := blk_frozen S12a.out.b5 11; have z0 : w12a.cell? ⟨g5, 11, none⟩ = some (.int .i64 0) := (blk_cell S12a.out.b5 11).trans rfl; clear hh_ ht_))
  have S13 := Aside0.mk (S12a.out.put 11 (.int .i64 co) (L' := #[.int .i64 kd, .int .i64 n1, .int .i64 n2, .int .i64 n3, .int .i64 n4, .int .i64 n5, .int .i64 n6, .string (⟨#[]⟩ : ByteArray), .string (⟨#[]⟩ : ByteArray), .slice none 0 0, .slice none 0 0, .int .i64 co, .bool false, .string (⟨#[]⟩ : ByteArray)]) rfl)
  obtain ⟨w13, hw_⟩ : ∃ u, w12a.setCell ⟨g5, 11, none⟩ (.int .i64 co) = u := ⟨_, rfl⟩
  rw [hw_] at S13 ⊢
  clear hw_ z0 y0 S12 S12a
  go_upto_region 14 with (first
      | ((with_reducible refine gate_callee (f := 25) rfl ?_); refine goesL_ (some 45) rfl rfl Try.func25 (by kernel_rfl) rfl #[.pointer (some ⟨gr, 0, none⟩), .int .i64 1, .int .i64 3] rfl (by (try simp only [List.map_toArray, List.map_cons, List.map_nil]); first | done | rfl) ?_; (refine (num_r S13.out.rd k 1 3 _ _ _ F4.out).mono ?_); rintro en w13a ⟨rfl, hh_, ht_⟩; refine ⟨_, rfl, ?_⟩; have S13a := Aside0.mk (S13.out.turned hh_ ht_); have y0 := blk_frozen S13a.out.b5 12; have z0 : w13a.cell? ⟨g5, 12, none⟩ = some (.bool false) := (blk_cell S13a.out.b5 12).trans rfl; clear hh_ ht_))
  have S14 := Aside0.mk (S13a.out.put 12 (.bool (ye == 1)) (L' := #[.int .i64 kd, .int .i64 n1, .int .i64 n2, .int .i64 n3, .int .i64 n4, .int .i64 n5, .int .i64 n6, .string (⟨#[]⟩ : ByteArray), .string (⟨#[]⟩ : ByteArray), .slice none 0 0, .slice none 0 0, .int .i64 co, .bool (ye == 1), .string (⟨#[]⟩ : ByteArray)]) rfl)
  obtain ⟨w14, hw_⟩ : ∃ u, w13a.setCell ⟨g5, 12, none⟩ (.bool (ye == 1)) = u := ⟨_, rfl⟩
  rw [hw_] at S14 ⊢
  clear hw_ z0 y0 S13 S13a
  go_upto_region 15 with (first
      | ((with_reducible refine gate_callee (f := 26) rfl ?_); refine goesL_ (some 49) rfl rfl Try.func26 (by kernel_rfl) rfl #[.pointer (some ⟨gr, 0, none⟩)] rfl (by (try simp only [List.map_toArray, List.map_cons, List.map_nil]); first | done | rfl) ?_; (refine (text_r S14.out.rd k _ _ _ T1.out).mono ?_); rintro en w14a ⟨rfl, hh_, ht_⟩; refine ⟨_, rfl, ?_⟩; have S14a := Aside0.mk (S14.out.turned hh_ ht_); have y0 := blk_frozen S14a.out.b5 7; have z0 : w14a.cell? ⟨g5, 7, none⟩ = some (.string (⟨#[]⟩ : ByteArray)) := (blk_cell S14a.out.b5 7).trans rfl; clear hh_ ht_))
  have S15 := Aside0.mk (S14a.out.put 7 (.string t1) (L' := #[.int .i64 kd, .int .i64 n1, .int .i64 n2, .int .i64 n3, .int .i64 n4, .int .i64 n5, .int .i64 n6, .string t1, .string (⟨#[]⟩ : ByteArray), .slice none 0 0, .slice none 0 0, .int .i64 co, .bool (ye == 1), .string (⟨#[]⟩ : ByteArray)]) rfl)
  obtain ⟨w15, hw_⟩ : ∃ u, w14a.setCell ⟨g5, 7, none⟩ (.string t1) = u := ⟨_, rfl⟩
  rw [hw_] at S15 ⊢
  clear hw_ z0 y0 S14 S14a
  go_upto_region 16 with (first
      | ((with_reducible refine gate_callee (f := 26) rfl ?_); refine goesL_ (some 52) rfl rfl Try.func26 (by kernel_rfl) rfl #[.pointer (some ⟨gr, 0, none⟩)] rfl (by (try simp only [List.map_toArray, List.map_cons, List.map_nil]); first | done | rfl) ?_; (refine (text_r S15.out.rd k _ _ _ T2.out).mono ?_); rintro en w15a ⟨rfl, hh_, ht_⟩; refine ⟨_, rfl, ?_⟩; have S15a := Aside0.mk (S15.out.turned hh_ ht_); have y0 := blk_frozen S15a.out.b5 8; have z0 : w15a.cell? ⟨g5, 8, none⟩ = some (.string (⟨#[]⟩ : ByteArray)) := (blk_cell S15a.out.b5 8).trans rfl; clear hh_ ht_))
  have S16 := Aside0.mk (S15a.out.put 8 (.string t2) (L' := #[.int .i64 kd, .int .i64 n1, .int .i64 n2, .int .i64 n3, .int .i64 n4, .int .i64 n5, .int .i64 n6, .string t1, .string t2, .slice none 0 0, .slice none 0 0, .int .i64 co, .bool (ye == 1), .string (⟨#[]⟩ : ByteArray)]) rfl)
  obtain ⟨w16, hw_⟩ : ∃ u, w15a.setCell ⟨g5, 8, none⟩ (.string t2) = u := ⟨_, rfl⟩
  rw [hw_] at S16 ⊢
  clear hw_ z0 y0 S15 S15a
  go_upto_region 17 with (first
      | ((with_reducible refine gate_callee (f := 26) rfl ?_); refine goesL_ (some 55) rfl rfl Try.func26 (by kernel_rfl) rfl #[.pointer (some ⟨gr, 0, none⟩)] rfl (by (try simp only [List.map_toArray, List.map_cons, List.map_nil]); first | done | rfl) ?_; (refine (text_r S16.out.rd k _ _ _ T3.out).mono ?_); rintro en w16a ⟨rfl, hh_, ht_⟩; refine ⟨_, rfl, ?_⟩; have S16a := Aside0.mk (S16.out.turned hh_ ht_); have y0 := blk_frozen S16a.out.b5 13; have z0 : w16a.cell? ⟨g5, 13, none⟩ = some (.string (⟨#[]⟩ : ByteArray)) := (blk_cell S16a.out.b5 13).trans rfl; clear hh_ ht_))
  have S17 := Aside0.mk (S16a.out.put 13 (.string t3) (L' := #[.int .i64 kd, .int .i64 n1, .int .i64 n2, .int .i64 n3, .int .i64 n4, .int .i64 n5, .int .i64 n6, .string t1, .string t2, .slice none 0 0, .slice none 0 0, .int .i64 co, .bool (ye == 1), .string t3]) rfl)
  obtain ⟨w17, hw_⟩ : ∃ u, w16a.setCell ⟨g5, 13, none⟩ (.string t3) = u := ⟨_, rfl⟩
  rw [hw_] at S17 ⊢
  clear hw_ z0 y0 S16 S16a
  have HM6 := Aside0.mk (fun he : e6 = 0 => num_most F6.out (by decide) (by decide) he)
  go_upto_block 0 with (first
      | ((with_reducible refine gate_callee (f := 25) rfl ?_); refine goesL_ (some 58) rfl rfl Try.func25 (by kernel_rfl) rfl #[.pointer (some ⟨gr, 0, none⟩), .int .i64 256, .int .i64 4] rfl (by (try simp only [List.map_toArray, List.map_cons, List.map_nil]); first | done | rfl) ?_; (refine (num_r S17.out.rd k 256 4 _ _ _ F6.out).mono ?_); rintro en wn1 ⟨rfl, hh_, ht_⟩; refine ⟨_, rfl, ?_⟩; have SN1 := Aside0.mk (S17.out.turned hh_ ht_); clear hh_ ht_))
  go_cut [7, 8] from 59 to 81 (fun v7 v8 wc => ∃ AP cP, Aside0 (Su w2 wc gr g5 A c (bytesOf s) a7 e7 #[.int .i64 kd, .int .i64 n1, .int .i64 n2, .int .i64 n3, .int .i64 n4, .int .i64 n5, .int .i64 n6, .string t1, .string t2, (.slice AP ps.length cP), .slice none 0 0, .int .i64 co, .bool (ye == 1), .string t3]) ∧ Aside0 (Kd.R k39 39 wc w2.heap.size (fun _ => True) (.slice AP ps.length cP) ps))
  case first =>
    go_wp2
    go_loopg [7] pn.toNat (fun kq v7 wr => ∃ (i a e : Int) (out : List S39) (AP : Option Addr) (cP : Nat), v7 = .int .i64 i ∧ Aside0 (0 ≤ i ∧ (pn - i).toNat ≤ kq) ∧ Aside0 (Su w2 wr gr g5 A c (bytesOf s) a e #[.int .i64 kd, .int .i64 n1, .int .i64 n2, .int .i64 n3, .int .i64 n4, .int .i64 n5, .int .i64 n6, .string t1, .string t2, (.slice AP out.length cP), .slice none 0 0, .int .i64 co, .bool (ye == 1), .string t3]) ∧ Aside0 (Kd.R k39 39 wr w2.heap.size (fun _ => True) (.slice AP out.length cP) out) ∧ Aside0 (pairsG (refT k) (bytesOf s) (pn - i).toNat a e out = some (ps, a7, e7)) ∧ Aside0 ((e = 0 → pn ≤ 256) ∧ (out.length : Int) = i))
    case atStart => exact ⟨0, _, _, [], none, 0, rfl, ⟨Int.le_refl _, by rw [Int.sub_zero]; exact Nat.le_refl _⟩, SN1, ⟨Kd.R_nil _ _ _ _ _⟩, ⟨by rw [Int.sub_zero]; exact F7.out⟩, ⟨HM6.out, rfl⟩⟩
    case round =>
      obtain ⟨i, a, e, out, AP, cP, rfl, HI, SR, HO, HX, HLn⟩ := hrel
      have x2 : wr.cell? ⟨gr, 2, none⟩ = some (.int .i64 e) := (blk_cell SR.out.rd.box 2).trans rfl
      by_cases hi : i < pn
      · have p1 : decide (i < pn) = true := decide_eq_true hi
        by_cases he : e = 0
        · have p2 : (e == 0) = true := beq_iff_eq.2 he
          obtain ⟨m1, hm1⟩ : ∃ m1, (pn - i).toNat = m1 + 1 := ⟨(pn - i).toNat - 1, by omega⟩
          have hx := HX.out
          rw [hm1, pairsG, if_pos he] at hx
          obtain ⟨⟨key, d1, j1⟩, hk, hx⟩ := Option.bind_eq_some_iff.1 hx
          obtain ⟨⟨val, d2, j2⟩, hv, hx⟩ := Option.bind_eq_some_iff.1 hx
          have HK := Aside0.mk hk
          have HV := Aside0.mk hv
          have HX2 := Aside0.mk hx
          have HM1 := Aside0.mk hm1
          have HI2 := Aside0.mk (⟨HI.out.1, hi, HLn.out.1 he⟩ : 0 ≤ i ∧ i < pn ∧ pn ≤ 256)
          replace HLn := Aside0.mk (show pn ≤ 256 ∧ (out.length : Int) = i from ⟨HLn.out.1 he, HLn.out.2⟩)
          subst he
          clear hx hk hv hm1 HX
          go_upto_region 22 with (first
            | ((with_reducible refine gate_callee (f := 26) rfl ?_); refine goesL_ (some 72) rfl rfl Try.func26 (by kernel_rfl) rfl #[.pointer (some ⟨gr, 0, none⟩)] rfl (by (try simp only [List.map_toArray, List.map_cons, List.map_nil]); first | done | rfl) ?_; (refine (text_r SR.out.rd k _ _ _ HK.out).mono ?_); rintro en wa ⟨rfl, hh_, ht_⟩; refine ⟨_, rfl, ?_⟩; have SA := Aside0.mk (SR.out.turned hh_ ht_); have HOa := Aside0.mk (R_turn HO.out SR.out.rd.box (by decide) ht_); have y0 := blk_frozen SA.out.b5 9; have z0 : wa.cell? ⟨g5, 9, none⟩ = some ((.slice AP out.length cP)) := (blk_cell SA.out.b5 9).trans rfl; clear hh_ ht_))
          clear x2
          go_region_law (first
            | (refine goes_ (N := some 77) Try.func26 (by kernel_rfl) rfl #[.pointer (some ⟨gr, 0, none⟩)] (by rfl) rfl rfl (by (try simp only [List.map_toArray, List.map_cons, List.map_nil]); rfl) ?_; (refine (text_r (SA.out.later (below_drew (Below.refl _ _))).rd k _ _ _ HV.out).mono ?_); rintro en wb ⟨rfl, hh_, ht_⟩; refine ⟨_, rfl, ?_⟩; have SB := Aside0.mk ((SA.out.later (below_drew (Below.refl _ _))).turned hh_ ht_); have HOb := Aside0.mk (R_turn (Kd.R_drew HOa.out) (blk_drew SA.out.rd.box) (by decide) ht_); have zb := (blk_cell SB.out.b5 9).trans (show _ = some (.slice AP out.length cP) from rfl); have yb := blk_frozen SB.out.b5 9; have ne5 : g5 ≠ wb.heap.size := Nat.ne_of_lt (blk_lt SB.out.b5); have ne5s := Ne.symm ne5; have za : (wb.alloc (.cells #[.string key, .string val] 39)).cell? ⟨g5, 9, none⟩ = some (.slice AP out.length cP) := (blk_cell (blk_alloc SB.out.b5 _) 9).trans rfl; clear hh_ ht_)
            | (refine R_append_step2 k39 (w0 := wb) w2.heap.size (by rfl) (.tmp 74) (.tmp 79) 23 39 (.agg #[(.string ⟨#[]⟩), (.string ⟨#[]⟩)]) 32 rfl Try.underlying23 info39 rfl (by decide) (by omega) (.slice AP out.length cP) out (⟨key, val⟩ : S39) [.string key, .string val] (fun _ => True) (fun _ => False) rfl rfl ?aP (fun _ hk => hk.elim) ?aF ?aO ?aB ?aS ?aL ?_; (case aP => exact k39_mkM _ _ _ (⟨key, val⟩ : S39)); (case aB => exact Below.refl _ _); (case aF => exact (fun _ _ => trivial)); (case aO => exact HOb.out); (case aS => exact SB.out.rd.below.size); (case aL => have h1 := HLn.out.1; have h2 := HLn.out.2; omega); intro AQ cQ wc2 ho hb hg; have HOc := Aside0.mk ho; have SC := Aside0.mk (Su.grown SB.out hb hg (Kd.R_ne HOb.out SB.out.rd.box (by decide)) (Kd.R_ne HOb.out SB.out.b5 (by decide))); have yc := blk_frozen SC.out.b5 9; have zc := (blk_cell SC.out.b5 9).trans (show _ = some (.slice AP out.length cP) from rfl); clear ho hb hg))
          all_goals go_wp2
          all_goals go_roundg m1
          all_goals first
            | (have := HM1.out; have := HI.out.2; omega)
            | exact ⟨i + 1, _, _, out ++ [⟨key, val⟩], AQ, cQ, by first | rfl | (congr 1; exact Go.IntWalk.wrap64_in _ (by have := HI2.out; omega)), ⟨by have := HI2.out.1; omega, by have := HM1.out; omega⟩, ⟨SC.out.put 9 _ (by rw [List.length_append]; rfl)⟩, ⟨Kd.R_set HOc.out SC.out.b5 (by decide) 9 _⟩, ⟨by rw [show (pn - (i + 1)).toNat = m1 by have := HM1.out; omega]; exact HX2.out⟩, ⟨fun _ => HLn.out.1, by rw [List.length_append]; simp only [List.length_cons, List.length_nil]; have := HLn.out.2; omega⟩⟩
        · have p2 : (e == 0) = false := beq_eq_false_iff_ne.2 he
          have hx := HX.out
          obtain ⟨m1, hm1⟩ : ∃ m1, (pn - i).toNat = m1 + 1 := ⟨(pn - i).toNat - 1, by omega⟩
          rw [hm1, pairsG, if_neg he] at hx
          simp only [Option.some.injEq, Prod.mk.injEq] at hx
          obtain ⟨rfl, rfl, rfl⟩ := hx
          clear hm1 HX HLn he hi
          go_wp2
          go_meet
          exact ⟨_, _, SR, HO⟩
      · have p1 : decide (i < pn) = false := decide_eq_false hi
        have hx := HX.out
        rw [show (pn - i).toNat = 0 by omega, pairsG] at hx
        simp only [Option.some.injEq, Prod.mk.injEq] at hx
        obtain ⟨rfl, rfl, rfl⟩ := hx
        clear HX HLn hi
        go_wp2
        go_meet
        exact ⟨_, _, SR, HO⟩
  case rest =>
    obtain ⟨AP, cP, SP, HP⟩ := hcut
    have HM8 := Aside0.mk (fun he : e8 = 0 => num_most F8.out (by decide) (by decide) he)
    go_upto_block 2 with (first
      | ((with_reducible refine gate_callee (f := 25) rfl ?_); refine goesL_ (some 83) rfl rfl Try.func25 (by kernel_rfl) rfl #[.pointer (some ⟨gr, 0, none⟩), .int .i64 256, .int .i64 4] rfl (by (try simp only [List.map_toArray, List.map_cons, List.map_nil]); first | done | rfl) ?_; (refine (num_r SP.out.rd k 256 4 _ _ _ F8.out).mono ?_); rintro en wp1 ⟨rfl, hh_, ht_⟩; refine ⟨_, rfl, ?_⟩; have SP1 := Aside0.mk (SP.out.turned hh_ ht_); have HP1 := Aside0.mk (R_turn HP.out SP.out.rd.box (by decide) ht_); clear hh_ ht_))
    go_cut [9, 10] from 84 to 112 (fun v9 v10 wc => ∃ AI cI, Aside0 (Su w2 wc gr g5 A c (bytesOf s) a9 e9 #[.int .i64 kd, .int .i64 n1, .int .i64 n2, .int .i64 n3, .int .i64 n4, .int .i64 n5, .int .i64 n6, .string t1, .string t2, (.slice AP ps.length cP), (.slice AI is_.length cI), .int .i64 co, .bool (ye == 1), .string t3]) ∧ Aside0 (Kd.R k39 39 wc w2.heap.size (fun _ => True) (.slice AP ps.length cP) ps) ∧ Aside0 (Kd.R k41 41 wc w2.heap.size (fun _ => True) (.slice AI is_.length cI) is_))
    case first =>
      go_wp2
      go_loopg [9] qn.toNat (fun kq v9 wr => ∃ (i a e : Int) (out : List S41) (AI : Option Addr) (cI : Nat), v9 = .int .i64 i ∧ Aside0 (0 ≤ i ∧ (qn - i).toNat ≤ kq) ∧ Aside0 (Su w2 wr gr g5 A c (bytesOf s) a e #[.int .i64 kd, .int .i64 n1, .int .i64 n2, .int .i64 n3, .int .i64 n4, .int .i64 n5, .int .i64 n6, .string t1, .string t2, (.slice AP ps.length cP), (.slice AI out.length cI), .int .i64 co, .bool (ye == 1), .string t3]) ∧ Aside0 (Kd.R k39 39 wr w2.heap.size (fun _ => True) (.slice AP ps.length cP) ps) ∧ Aside0 (Kd.R k41 41 wr w2.heap.size (fun _ => True) (.slice AI out.length cI) out) ∧ Aside0 (intentsG (refN k) (refT k) (bytesOf s) (qn - i).toNat a e out = some (is_, a9, e9)) ∧ Aside0 ((e = 0 → qn ≤ 256) ∧ (out.length : Int) = i))
      case atStart => exact ⟨0, _, _, [], none, 0, rfl, ⟨Int.le_refl _, by rw [Int.sub_zero]; exact Nat.le_refl _⟩, SP1, HP1, ⟨Kd.R_nil _ _ _ _ _⟩, ⟨by rw [Int.sub_zero]; exact F9.out⟩, ⟨HM8.out, rfl⟩⟩
      case round =>
        obtain ⟨i, a, e, out, AI, cI, rfl, HI, SR, HPr, HO, HX, HLn⟩ := hrel
        have x2 : wr.cell? ⟨gr, 2, none⟩ = some (.int .i64 e) := (blk_cell SR.out.rd.box 2).trans rfl
        by_cases hi : i < qn
        · have p1 : decide (i < qn) = true := decide_eq_true hi
          by_cases he : e = 0
          · have p2 : (e == 0) = true := beq_iff_eq.2 he
            obtain ⟨m1, hm1⟩ : ∃ m1, (qn - i).toNat = m1 + 1 := ⟨(qn - i).toNat - 1, by omega⟩
            have hx := HX.out
            rw [hm1, intentsG, if_pos he] at hx
            obtain ⟨⟨ek, d1, j1⟩, hk, hx⟩ := Option.bind_eq_some_iff.1 hx
            obtain ⟨⟨ev, d2, j2⟩, hv, hx⟩ := Option.bind_eq_some_iff.1 hx
            obtain ⟨⟨eg, d3, j3⟩, hg, hx⟩ := Option.bind_eq_some_iff.1 hx
            have HK := Aside0.mk hk
            have HV := Aside0.mk hv
            have HG := Aside0.mk hg
            have HX2 := Aside0.mk hx
            have HM1 := Aside0.mk hm1
            have HI2 := Aside0.mk (⟨HI.out.1, hi, HLn.out.1 he⟩ : 0 ≤ i ∧ i < qn ∧ qn ≤ 256)
            replace HLn := Aside0.mk (show qn ≤ 256 ∧ (out.length : Int) = i from ⟨HLn.out.1 he, HLn.out.2⟩)
            have HO0 := Aside0.mk (Kd.R_mono (Kd.R_bound HO.out) (ok' := fun k_ => k_ < wr.heap.size) (fun _ hk => hk.2.2.1))
            subst he
            clear hx hk hv hg hm1 HX
            go_upto_region 28 with (first
              | ((with_reducible refine gate_dst (N := 10) rfl ?_); refine box_event ?hg (N := 10) ?hd (cs := #[.string (⟨#[]⟩ : ByteArray), .int .i64 0, .bool false]) (t := 41) ?hr ?_; (case hd => rfl); (case hg => rfl); (case hr => first | (go_simp; done) | (go_simp; rfl)); intro g10 hg_ wA hbox_ hb_; have L10 := Aside0.mk (show wr.heap.size ≤ g10 by omega); have BXa := Aside0.mk hbox_; have SAa := Aside0.mk (SR.out.later hb_); have HOa := Aside0.mk (Kd.R_below HO0.out hb_); have HPa := Aside0.mk (Kd.R_below HPr.out hb_); have yx0 := blk_frozen BXa.out 0; have zx0 : wA.cell? ⟨g10, 0, none⟩ = some (.string (⟨#[]⟩ : ByteArray)) := (blk_cell BXa.out 0).trans rfl; have yx1 := blk_frozen BXa.out 1; have zx1 : wA.cell? ⟨g10, 1, none⟩ = some (.int .i64 0) := (blk_cell BXa.out 1).trans rfl; have yx2 := blk_frozen BXa.out 2; have zx2 : wA.cell? ⟨g10, 2, none⟩ = some (.bool false) := (blk_cell BXa.out 2).trans rfl; clear hb_ hbox_ hg_))
            have LW := Aside0.mk (show w2.heap.size ≤ g10 by have h1 := L10.out; have h2 := SR.out.rd.below.size; omega)
            have NR := Aside0.mk (show gr ≠ g10 by have h1 := L10.out; have h2 := blk_lt SR.out.rd.box; omega)
            have N5 := Aside0.mk (show g5 ≠ g10 by have h1 := L10.out; have h2 := blk_lt SR.out.b5; omega)
            clear x2 yx0 yx1 yx2 zx0 zx1 zx2
            have SBb := Aside0.mk (SAa.out.far (p := ⟨g10, 0, none⟩) LW.out NR.out N5.out (.string (⟨#[]⟩ : ByteArray)))
            have BXb := Aside0.mk (blk_put (cs' := #[.string (⟨#[]⟩ : ByteArray), .int .i64 0, .bool false]) BXa.out 0 (.string (⟨#[]⟩ : ByteArray)) rfl)
            have HOb := Aside0.mk (Kd.R_far (p := ⟨g10, 0, none⟩) HOa.out (fun _ hk => by have := L10.out; show _ ≠ g10; omega) (.string (⟨#[]⟩ : ByteArray)))
            have HPb := Aside0.mk (Kd.R_set HPa.out BXa.out (by decide) 0 (.string (⟨#[]⟩ : ByteArray)))
            have SAb := SBb
            clear SAa BXa HOa HPa SBb
            obtain ⟨wB, hw_⟩ : ∃ u_, wA.setCell ⟨g10, 0, none⟩ (.string (⟨#[]⟩ : ByteArray)) = u_ := ⟨_, rfl⟩
            rw [hw_] at SAb BXb HOb HPb ⊢
            clear hw_
            have SBc := Aside0.mk (SAb.out.far (p := ⟨g10, 1, none⟩) LW.out NR.out N5.out (.int .i64 0))
            have BXc := Aside0.mk (blk_put (cs' := #[.string (⟨#[]⟩ : ByteArray), .int .i64 0, .bool false]) BXb.out 1 (.int .i64 0) rfl)
            have HOc := Aside0.mk (Kd.R_far (p := ⟨g10, 1, none⟩) HOb.out (fun _ hk => by have := L10.out; show _ ≠ g10; omega) (.int .i64 0))
            have HPc := Aside0.mk (Kd.R_set HPb.out BXb.out (by decide) 1 (.int .i64 0))
            have SAc := SBc
            clear SAb BXb HOb HPb SBc
            obtain ⟨wC, hw_⟩ : ∃ u_, wB.setCell ⟨g10, 1, none⟩ (.int .i64 0) = u_ := ⟨_, rfl⟩
            rw [hw_] at SAc BXc HOc HPc ⊢
            clear hw_
            have SBd := Aside0.mk (SAc.out.far (p := ⟨g10, 2, none⟩) LW.out NR.out N5.out (.bool false))
            have BXd := Aside0.mk (blk_put (cs' := #[.string (⟨#[]⟩ : ByteArray), .int .i64 0, .bool false]) BXc.out 2 (.bool false) rfl)
            have HOd := Aside0.mk (Kd.R_far (p := ⟨g10, 2, none⟩) HOc.out (fun _ hk => by have := L10.out; show _ ≠ g10; omega) (.bool false))
            have HPd := Aside0.mk (Kd.R_set HPc.out BXc.out (by decide) 2 (.bool false))
            have SAd := SBd
            clear SAc BXc HOc HPc SBd
            obtain ⟨wD, hw_⟩ : ∃ u_, wC.setCell ⟨g10, 2, none⟩ (.bool false) = u_ := ⟨_, rfl⟩
            rw [hw_] at SAd BXd HOd HPd ⊢
            clear hw_
            go_upto_region 29 with (first
              | ((with_reducible refine gate_callee (f := 26) rfl ?_); refine goesL_ (some 98) rfl rfl Try.func26 (by kernel_rfl) rfl #[.pointer (some ⟨gr, 0, none⟩)] rfl (by (try simp only [List.map_toArray, List.map_cons, List.map_nil]); first | done | rfl) ?_; (refine (text_r SAd.out.rd k _ _ _ HK.out).mono ?_); rintro en wE ⟨rfl, hh_, ht_⟩; refine ⟨_, rfl, ?_⟩; have SAe := Aside0.mk (SAd.out.turned hh_ ht_); have HOe := Aside0.mk (R_turn HOd.out SAd.out.rd.box (by decide) ht_); have HPe := Aside0.mk (R_turn HPd.out SAd.out.rd.box (by decide) ht_); have BXe := Aside0.mk (ht_.blk BXd.out (Ne.symm NR.out)); have y0 := blk_frozen BXe.out 0; have z0 : wE.cell? ⟨g10, 0, none⟩ = some (.string (⟨#[]⟩ : ByteArray)) := (blk_cell BXe.out 0).trans rfl; clear hh_ ht_))
            have SBf := Aside0.mk (SAe.out.far (p := ⟨g10, 0, none⟩) LW.out NR.out N5.out (.string ek))
            have BXf := Aside0.mk (blk_put (cs' := #[.string ek, .int .i64 0, .bool false]) BXe.out 0 (.string ek) rfl)
            have HOf := Aside0.mk (Kd.R_far (p := ⟨g10, 0, none⟩) HOe.out (fun _ hk => by have := L10.out; show _ ≠ g10; omega) (.string ek))
            have HPf := Aside0.mk (Kd.R_set HPe.out BXe.out (by decide) 0 (.string ek))
            have SAf := SBf
            clear SAe BXe HOe HPe SBf
            obtain ⟨wF, hw_⟩ : ∃ u_, wE.setCell ⟨g10, 0, none⟩ (.string ek) = u_ := ⟨_, rfl⟩
            rw [hw_] at SAf BXf HOf HPf ⊢
            clear hw_
            clear z0 y0
            go_upto_region 30 with (first
              | ((with_reducible refine gate_callee (f := 25) rfl ?_); refine goesL_ (some 101) rfl rfl Try.func25 (by kernel_rfl) rfl #[.pointer (some ⟨gr, 0, none⟩), .int .i64 1099511627776, .int .i64 3] rfl (by (try simp only [List.map_toArray, List.map_cons, List.map_nil]); first | done | rfl) ?_; (refine (num_r SAf.out.rd k 1099511627776 3 _ _ _ HV.out).mono ?_); rintro en wG ⟨rfl, hh_, ht_⟩; refine ⟨_, rfl, ?_⟩; have SAg := Aside0.mk (SAf.out.turned hh_ ht_); have HOg := Aside0.mk (R_turn HOf.out SAf.out.rd.box (by decide) ht_); have HPg := Aside0.mk (R_turn HPf.out SAf.out.rd.box (by decide) ht_); have BXg := Aside0.mk (ht_.blk BXf.out (Ne.symm NR.out)); have y0 := blk_frozen BXg.out 1; have z0 : wG.cell? ⟨g10, 1, none⟩ = some (.int .i64 0) := (blk_cell BXg.out 1).trans rfl; clear hh_ ht_))
            have SBh := Aside0.mk (SAg.out.far (p := ⟨g10, 1, none⟩) LW.out NR.out N5.out (.int .i64 ev))
            have BXh := Aside0.mk (blk_put (cs' := #[.string ek, .int .i64 ev, .bool false]) BXg.out 1 (.int .i64 ev) rfl)
            have HOh := Aside0.mk (Kd.R_far (p := ⟨g10, 1, none⟩) HOg.out (fun _ hk => by have := L10.out; show _ ≠ g10; omega) (.int .i64 ev))
            have HPh := Aside0.mk (Kd.R_set HPg.out BXg.out (by decide) 1 (.int .i64 ev))
            have SAh := SBh
            clear SAg BXg HOg HPg SBh
            obtain ⟨wH, hw_⟩ : ∃ u_, wG.setCell ⟨g10, 1, none⟩ (.int .i64 ev) = u_ := ⟨_, rfl⟩
            rw [hw_] at SAh BXh HOh HPh ⊢
            clear hw_
            clear z0 y0
            go_upto_region 31 with (first
              | ((with_reducible refine gate_callee (f := 25) rfl ?_); refine goesL_ (some 104) rfl rfl Try.func25 (by kernel_rfl) rfl #[.pointer (some ⟨gr, 0, none⟩), .int .i64 1, .int .i64 3] rfl (by (try simp only [List.map_toArray, List.map_cons, List.map_nil]); first | done | rfl) ?_; (refine (num_r SAh.out.rd k 1 3 _ _ _ HG.out).mono ?_); rintro en wI ⟨rfl, hh_, ht_⟩; refine ⟨_, rfl, ?_⟩; have SAi := Aside0.mk (SAh.out.turned hh_ ht_); have HOi := Aside0.mk (R_turn HOh.out SAh.out.rd.box (by decide) ht_); have HPi := Aside0.mk (R_turn HPh.out SAh.out.rd.box (by decide) ht_); have BXi := Aside0.mk (ht_.blk BXh.out (Ne.symm NR.out)); have y0 := blk_frozen BXi.out 2; have z0 : wI.cell? ⟨g10, 2, none⟩ = some (.bool false) := (blk_cell BXi.out 2).trans rfl; clear hh_ ht_))
            have SBj := Aside0.mk (SAi.out.far (p := ⟨g10, 2, none⟩) LW.out NR.out N5.out (.bool (eg == 1)))
            have BXj := Aside0.mk (blk_put (cs' := #[.string ek, .int .i64 ev, .bool (eg == 1)]) BXi.out 2 (.bool (eg == 1)) rfl)
            have HOj := Aside0.mk (Kd.R_far (p := ⟨g10, 2, none⟩) HOi.out (fun _ hk => by have := L10.out; show _ ≠ g10; omega) (.bool (eg == 1)))
            have HPj := Aside0.mk (Kd.R_set HPi.out BXi.out (by decide) 2 (.bool (eg == 1)))
            have SAj := SBj
            clear SAi BXi HOi HPi SBj
            obtain ⟨wJ, hw_⟩ : ∃ u_, wI.setCell ⟨g10, 2, none⟩ (.bool (eg == 1)) = u_ := ⟨_, rfl⟩
            rw [hw_] at SAj BXj HOj HPj ⊢
            clear hw_
            clear z0 y0
            have HOk := Aside0.mk (Kd.R_mono (ok' := fun _ => True) HOj.out (fun _ _ => trivial))
            have m0 : wJ.cell? ⟨g10, 0, none⟩ = some (.string ek) := (blk_cell BXj.out 0).trans rfl
            have m1_ : wJ.cell? ⟨g10, 1, none⟩ = some (.int .i64 ev) := (blk_cell BXj.out 1).trans rfl
            have m2_ : wJ.cell? ⟨g10, 2, none⟩ = some (.bool (eg == 1)) := (blk_cell BXj.out 2).trans rfl
            have y0 := blk_frozen SAj.out.b5 10
            have z0 : wJ.cell? ⟨g5, 10, none⟩ = some (.slice AI out.length cI) := (blk_cell SAj.out.b5 10).trans rfl
            go_wp2_with (first
              | ((with_reducible refine gate_builtin (b := .append) (xs := #[.tmp 108, .tmp 110]) rfl ?_); at_builtin; refine Kd.R_append k41 (w0 := wJ) w2.heap.size rfl (.tmp 108) (.tmp 110) 24 41 (.agg #[(.string ⟨#[]⟩), (.int .i64 0), (.bool false)]) 32 rfl Try.underlying24 info41 rfl (by decide) (by omega) (.slice AI out.length cI) out (⟨ek, ev, eg == 1⟩ : S41) [.string ek, .int .i64 ev, .bool (eg == 1)] (fun _ => True) (fun _ => False) rfl rfl ?aP (fun _ hk => hk.elim) ?aF ?aO ?aB ?aS ?aL ?_; (case aP => exact k41_mkM _ _ _ (⟨ek, ev, eg == 1⟩ : S41)); (case aB => exact Below.refl _ _); (case aF => exact (fun _ _ => trivial)); (case aO => exact HOk.out); (case aS => exact SAj.out.rd.below.size); (case aL => have h1 := HLn.out.1; have h2 := HLn.out.2; omega); intro vq wK ho hb hg hat; obtain ⟨AJ, cJ, hv_⟩ := Kd.R_slice ho; subst hv_; have HOz := Aside0.mk ho; have SAz := Aside0.mk (Su.grown SAj.out hb hg (Kd.R_ne HOk.out SAj.out.rd.box (by decide)) (Kd.R_ne HOk.out SAj.out.b5 (by decide))); have HPz := Aside0.mk (Kd.R_over HPj.out HOk.out (by decide) hg); clear z0 y0; have y0 := blk_frozen SAz.out.b5 10; have z0 : wK.cell? ⟨g5, 10, none⟩ = some (.slice AI out.length cI) := (blk_cell SAz.out.b5 10).trans rfl; clear ho hb hg hat))
            go_roundg m1
            case measure => have := HM1.out; have := HI.out.2; omega
            case rel => exact ⟨i + 1, _, _, out ++ [⟨ek, ev, eg == 1⟩], AJ, cJ, by first | rfl | (congr 1; exact Go.IntWalk.wrap64_in _ (by have := HI2.out; omega)), ⟨by have := HI2.out.1; omega, by have := HM1.out; omega⟩, ⟨SAz.out.put 10 _ (by first | rfl | (rw [List.length_append]; rfl))⟩, ⟨Kd.R_set HPz.out SAz.out.b5 (by decide) 10 _⟩, ⟨Kd.R_set HOz.out SAz.out.b5 (by decide) 10 _⟩, ⟨by rw [show (qn - (i + 1)).toNat = m1 by have := HM1.out; omega]; exact HX2.out⟩, ⟨fun _ => HLn.out.1, by rw [List.length_append]; simp only [List.length_cons, List.length_nil]; have := HLn.out.2; omega⟩⟩
          · have p2 : (e == 0) = false := beq_eq_false_iff_ne.2 he
            have hx := HX.out
            obtain ⟨m1, hm1⟩ : ∃ m1, (qn - i).toNat = m1 + 1 := ⟨(qn - i).toNat - 1, by omega⟩
            rw [hm1, intentsG, if_neg he] at hx
            simp only [Option.some.injEq, Prod.mk.injEq] at hx
            obtain ⟨rfl, rfl, rfl⟩ := hx
            clear hm1 HX HLn he hi
            go_wp2
            go_meet
            exact ⟨_, _, SR, HPr, HO⟩
        · have p1 : decide (i < qn) = false := decide_eq_false hi
          have hx := HX.out
          rw [show (qn - i).toNat = 0 by omega, intentsG] at hx
          simp only [Option.some.injEq, Prod.mk.injEq] at hx
          obtain ⟨rfl, rfl, rfl⟩ := hx
          clear HX HLn hi
          go_wp2
          go_meet
          exact ⟨_, _, SR, HPr, HO⟩
    case rest =>
      obtain ⟨AI, cI, S20, HP20, HI20⟩ := hcut
      obtain ⟨w20, hw20⟩ : ∃ u, u = wc := ⟨_, rfl⟩
      subst hw20
      have x1 : w20.cell? ⟨gr, 1, none⟩ = some (.int .i64 a9) := (blk_cell S20.out.rd.box 1).trans rfl
      have x2 : w20.cell? ⟨gr, 2, none⟩ = some (.int .i64 e9) := (blk_cell S20.out.rd.box 2).trans rfl
      have xf := blk_frozen S20.out.rd.box 2
      have BX20 := Aside0.mk (blk_below BX22.out S20.out.rd.below)
      have f0 := F0.out
      clear F0
      by_cases he : e9 = 0
      · by_cases ha : a9 = (s.size : Int)
        · have hE : endE (s.size : Int) a9 e9 = 0 := by unfold endE; rw [if_neg (fun h => h.2 ha)]; exact he
          rw [if_pos hE] at f0
          subst f0
          have p1 : (e9 == 0) = true := beq_iff_eq.2 he
          have p2 : (a9 != (s.size : Int)) = false := bne_eq_false_iff_eq.2 ha
          have p3 : (e9 != 0) = false := bne_eq_false_iff_eq.2 he
          clear hE he ha
          go_upto_region 36 with (fail)
          have yb0 := blk_frozen BX20.out 0
          have zb0 : w20.cell? ⟨g2, 0, none⟩ = some (.int .i64 0) := (blk_cell BX20.out 0).trans rfl
          have yb1 := blk_frozen BX20.out 1
          have zb1 : w20.cell? ⟨g2, 1, none⟩ = some (.int .i64 0) := (blk_cell BX20.out 1).trans rfl
          have yb2 := blk_frozen BX20.out 2
          have zb2 : w20.cell? ⟨g2, 2, none⟩ = some (.int .i64 0) := (blk_cell BX20.out 2).trans rfl
          have yb3 := blk_frozen BX20.out 3
          have zb3 : w20.cell? ⟨g2, 3, none⟩ = some (.int .i64 0) := (blk_cell BX20.out 3).trans rfl
          have yb4 := blk_frozen BX20.out 4
          have zb4 : w20.cell? ⟨g2, 4, none⟩ = some (.int .i64 0) := (blk_cell BX20.out 4).trans rfl
          have yb5 := blk_frozen BX20.out 5
          have zb5 : w20.cell? ⟨g2, 5, none⟩ = some (.int .i64 0) := (blk_cell BX20.out 5).trans rfl
          have yb6 := blk_frozen BX20.out 6
          have zb6 : w20.cell? ⟨g2, 6, none⟩ = some (.int .i64 0) := (blk_cell BX20.out 6).trans rfl
          have yb7 := blk_frozen BX20.out 7
          have zb7 : w20.cell? ⟨g2, 7, none⟩ = some (.string (⟨#[]⟩ : ByteArray)) := (blk_cell BX20.out 7).trans rfl
          have yb8 := blk_frozen BX20.out 8
          have zb8 : w20.cell? ⟨g2, 8, none⟩ = some (.string (⟨#[]⟩ : ByteArray)) := (blk_cell BX20.out 8).trans rfl
          have yb9 := blk_frozen BX20.out 9
          have zb9 : w20.cell? ⟨g2, 9, none⟩ = some (.slice none 0 0) := (blk_cell BX20.out 9).trans rfl
          have yb10 := blk_frozen BX20.out 10
          have zb10 : w20.cell? ⟨g2, 10, none⟩ = some (.slice none 0 0) := (blk_cell BX20.out 10).trans rfl
          have yb11 := blk_frozen BX20.out 11
          have zb11 : w20.cell? ⟨g2, 11, none⟩ = some (.int .i64 0) := (blk_cell BX20.out 11).trans rfl
          have yb12 := blk_frozen BX20.out 12
          have zb12 : w20.cell? ⟨g2, 12, none⟩ = some (.bool false) := (blk_cell BX20.out 12).trans rfl
          have yb13 := blk_frozen BX20.out 13
          have zb13 : w20.cell? ⟨g2, 13, none⟩ = some (.string (⟨#[]⟩ : ByteArray)) := (blk_cell BX20.out 13).trans rfl
          have l0 : w20.cell? ⟨g5, 0, none⟩ = some (.int .i64 kd) := (blk_cell S20.out.b5 0).trans rfl
          have l1 : w20.cell? ⟨g5, 1, none⟩ = some (.int .i64 n1) := (blk_cell S20.out.b5 1).trans rfl
          have l2 : w20.cell? ⟨g5, 2, none⟩ = some (.int .i64 n2) := (blk_cell S20.out.b5 2).trans rfl
          have l3 : w20.cell? ⟨g5, 3, none⟩ = some (.int .i64 n3) := (blk_cell S20.out.b5 3).trans rfl
          have l4 : w20.cell? ⟨g5, 4, none⟩ = some (.int .i64 n4) := (blk_cell S20.out.b5 4).trans rfl
          have l5 : w20.cell? ⟨g5, 5, none⟩ = some (.int .i64 n5) := (blk_cell S20.out.b5 5).trans rfl
          have l6 : w20.cell? ⟨g5, 6, none⟩ = some (.int .i64 n6) := (blk_cell S20.out.b5 6).trans rfl
          have l7 : w20.cell? ⟨g5, 7, none⟩ = some (.string t1) := (blk_cell S20.out.b5 7).trans rfl
          have l8 : w20.cell? ⟨g5, 8, none⟩ = some (.string t2) := (blk_cell S20.out.b5 8).trans rfl
          have l9 : w20.cell? ⟨g5, 9, none⟩ = some (.slice AP ps.length cP) := (blk_cell S20.out.b5 9).trans rfl
          have l10 : w20.cell? ⟨g5, 10, none⟩ = some (.slice AI is_.length cI) := (blk_cell S20.out.b5 10).trans rfl
          have l11 : w20.cell? ⟨g5, 11, none⟩ = some (.int .i64 co) := (blk_cell S20.out.b5 11).trans rfl
          have l12 : w20.cell? ⟨g5, 12, none⟩ = some (.bool (ye == 1)) := (blk_cell S20.out.b5 12).trans rfl
          have l13 : w20.cell? ⟨g5, 13, none⟩ = some (.string t3) := (blk_cell S20.out.b5 13).trans rfl
          go_wp2
          have TT := Aside0.mk (Turned.set (Turned.set (Turned.set (Turned.set (Turned.set (Turned.set (Turned.set (Turned.set (Turned.set (Turned.set (Turned.set (Turned.set (Turned.set (Turned.set (Turned.refl g2 w20) (p := ⟨g2, 0, none⟩) (.inr rfl) (.int .i64 kd)) (p := ⟨g2, 1, none⟩) (.inr rfl) (.int .i64 n1)) (p := ⟨g2, 2, none⟩) (.inr rfl) (.int .i64 n2)) (p := ⟨g2, 3, none⟩) (.inr rfl) (.int .i64 n3)) (p := ⟨g2, 4, none⟩) (.inr rfl) (.int .i64 n4)) (p := ⟨g2, 5, none⟩) (.inr rfl) (.int .i64 n5)) (p := ⟨g2, 6, none⟩) (.inr rfl) (.int .i64 n6)) (p := ⟨g2, 7, none⟩) (.inr rfl) (.string t1)) (p := ⟨g2, 8, none⟩) (.inr rfl) (.string t2)) (p := ⟨g2, 9, none⟩) (.inr rfl) (.slice AP ps.length cP)) (p := ⟨g2, 10, none⟩) (.inr rfl) (.slice AI is_.length cI)) (p := ⟨g2, 11, none⟩) (.inr rfl) (.int .i64 co)) (p := ⟨g2, 12, none⟩) (.inr rfl) (.bool (ye == 1))) (p := ⟨g2, 13, none⟩) (.inr rfl) (.string t3))
          refine bodyPost_ret (results_ct rfl _ _ g2 27 #[.int .i64 kd, .int .i64 n1, .int .i64 n2, .int .i64 n3, .int .i64 n4, .int .i64 n5, .int .i64 n6, .string t1, .string t2, .slice AP ps.length cP, .slice AI is_.length cI, .int .i64 co, .bool (ye == 1), .string t3] (0, 0) _ rfl (blk_put (cs' := #[.int .i64 kd, .int .i64 n1, .int .i64 n2, .int .i64 n3, .int .i64 n4, .int .i64 n5, .int .i64 n6, .string t1, .string t2, .slice AP ps.length cP, .slice AI is_.length cI, .int .i64 co, .bool (ye == 1), .string t3]) (blk_put (cs' := #[.int .i64 kd, .int .i64 n1, .int .i64 n2, .int .i64 n3, .int .i64 n4, .int .i64 n5, .int .i64 n6, .string t1, .string t2, .slice AP ps.length cP, .slice AI is_.length cI, .int .i64 co, .bool (ye == 1), .string (⟨#[]⟩ : ByteArray)]) (blk_put (cs' := #[.int .i64 kd, .int .i64 n1, .int .i64 n2, .int .i64 n3, .int .i64 n4, .int .i64 n5, .int .i64 n6, .string t1, .string t2, .slice AP ps.length cP, .slice AI is_.length cI, .int .i64 co, .bool false, .string (⟨#[]⟩ : ByteArray)]) (blk_put (cs' := #[.int .i64 kd, .int .i64 n1, .int .i64 n2, .int .i64 n3, .int .i64 n4, .int .i64 n5, .int .i64 n6, .string t1, .string t2, .slice AP ps.length cP, .slice AI is_.length cI, .int .i64 0, .bool false, .string (⟨#[]⟩ : ByteArray)]) (blk_put (cs' := #[.int .i64 kd, .int .i64 n1, .int .i64 n2, .int .i64 n3, .int .i64 n4, .int .i64 n5, .int .i64 n6, .string t1, .string t2, .slice AP ps.length cP, .slice none 0 0, .int .i64 0, .bool false, .string (⟨#[]⟩ : ByteArray)]) (blk_put (cs' := #[.int .i64 kd, .int .i64 n1, .int .i64 n2, .int .i64 n3, .int .i64 n4, .int .i64 n5, .int .i64 n6, .string t1, .string t2, .slice none 0 0, .slice none 0 0, .int .i64 0, .bool false, .string (⟨#[]⟩ : ByteArray)]) (blk_put (cs' := #[.int .i64 kd, .int .i64 n1, .int .i64 n2, .int .i64 n3, .int .i64 n4, .int .i64 n5, .int .i64 n6, .string t1, .string (⟨#[]⟩ : ByteArray), .slice none 0 0, .slice none 0 0, .int .i64 0, .bool false, .string (⟨#[]⟩ : ByteArray)]) (blk_put (cs' := #[.int .i64 kd, .int .i64 n1, .int .i64 n2, .int .i64 n3, .int .i64 n4, .int .i64 n5, .int .i64 n6, .string (⟨#[]⟩ : ByteArray), .string (⟨#[]⟩ : ByteArray), .slice none 0 0, .slice none 0 0, .int .i64 0, .bool false, .string (⟨#[]⟩ : ByteArray)]) (blk_put (cs' := #[.int .i64 kd, .int .i64 n1, .int .i64 n2, .int .i64 n3, .int .i64 n4, .int .i64 n5, .int .i64 0, .string (⟨#[]⟩ : ByteArray), .string (⟨#[]⟩ : ByteArray), .slice none 0 0, .slice none 0 0, .int .i64 0, .bool false, .string (⟨#[]⟩ : ByteArray)]) (blk_put (cs' := #[.int .i64 kd, .int .i64 n1, .int .i64 n2, .int .i64 n3, .int .i64 n4, .int .i64 0, .int .i64 0, .string (⟨#[]⟩ : ByteArray), .string (⟨#[]⟩ : ByteArray), .slice none 0 0, .slice none 0 0, .int .i64 0, .bool false, .string (⟨#[]⟩ : ByteArray)]) (blk_put (cs' := #[.int .i64 kd, .int .i64 n1, .int .i64 n2, .int .i64 n3, .int .i64 0, .int .i64 0, .int .i64 0, .string (⟨#[]⟩ : ByteArray), .string (⟨#[]⟩ : ByteArray), .slice none 0 0, .slice none 0 0, .int .i64 0, .bool false, .string (⟨#[]⟩ : ByteArray)]) (blk_put (cs' := #[.int .i64 kd, .int .i64 n1, .int .i64 n2, .int .i64 0, .int .i64 0, .int .i64 0, .int .i64 0, .string (⟨#[]⟩ : ByteArray), .string (⟨#[]⟩ : ByteArray), .slice none 0 0, .slice none 0 0, .int .i64 0, .bool false, .string (⟨#[]⟩ : ByteArray)]) (blk_put (cs' := #[.int .i64 kd, .int .i64 n1, .int .i64 0, .int .i64 0, .int .i64 0, .int .i64 0, .int .i64 0, .string (⟨#[]⟩ : ByteArray), .string (⟨#[]⟩ : ByteArray), .slice none 0 0, .slice none 0 0, .int .i64 0, .bool false, .string (⟨#[]⟩ : ByteArray)]) (blk_put (cs' := #[.int .i64 kd, .int .i64 0, .int .i64 0, .int .i64 0, .int .i64 0, .int .i64 0, .int .i64 0, .string (⟨#[]⟩ : ByteArray), .string (⟨#[]⟩ : ByteArray), .slice none 0 0, .slice none 0 0, .int .i64 0, .bool false, .string (⟨#[]⟩ : ByteArray)]) BX20.out 0 (.int .i64 kd) rfl) 1 (.int .i64 n1) rfl) 2 (.int .i64 n2) rfl) 3 (.int .i64 n3) rfl) 4 (.int .i64 n4) rfl) 5 (.int .i64 n5) rfl) 6 (.int .i64 n6) rfl) 7 (.string t1) rfl) 8 (.string t2) rfl) 9 (.slice AP ps.length cP) rfl) 10 (.slice AI is_.length cI) rfl) 11 (.int .i64 co) rfl) 12 (.bool (ye == 1)) rfl) 13 (.string t3) rfl) Try.underlying27 rfl (by kernel_rfl)) rfl ?_
          have hb1 := HB1.out
          have hb2 := HB2.out
          exact ⟨_, _, rfl, Kd.R_lower (R_turn HP20.out BX20.out (by decide) TT.out) (by have h1 := HB1.out.size; have h2 := HB2.out.size; omega), Kd.R_lower (R_turn HI20.out BX20.out (by decide) TT.out) (by have h1 := HB1.out.size; have h2 := HB2.out.size; omega), Turned.below TT.out (below_step (below_step hb1 hb2) S20.out.rd.below) L2.out (by have h1 := hb1.size; have h2 := hb2.size; have h3 := S20.out.rd.below.size; omega)⟩
        · have hE : endE (s.size : Int) a9 e9 = 3 := by unfold endE; rw [if_pos ⟨he, ha⟩]
          rw [hE, if_neg (by decide)] at f0
          subst f0
          have p1 : (e9 == 0) = true := beq_iff_eq.2 he
          have p2 : (a9 != (s.size : Int)) = true := bne_iff_ne.2 ha
          clear hE he ha
          go_upto_region 34 with (fail)
          have S21 := Aside0.mk (S20.out.err 3)
          have BX21 := Aside0.mk (blk_far (p := ⟨gr, 2, none⟩) BX20.out (fun e_ => by have h1 := BX20.out; have h2 := S20.out.rd.box; rw [show g2 = gr from e_, h2] at h1; cases h1) (.int .i64 3))
          obtain ⟨w21, hw_⟩ : ∃ u, w20.setCell ⟨gr, 2, none⟩ (.int .i64 3) = u := ⟨_, rfl⟩
          rw [hw_] at S21 BX21 ⊢
          clear hw_ x1 x2 xf
          have x2 : w21.cell? ⟨gr, 2, none⟩ = some (.int .i64 3) := (blk_cell S21.out.rd.box 2).trans rfl
          go_upto_region 35 with (fail)
          have n2r := blk_ne BX21.out S21.out.rd.box (by decide)
          have n2rs := Ne.symm n2r
          have yb0 := blk_frozen BX21.out 0
          have zb0 : w21.cell? ⟨g2, 0, none⟩ = some (.int .i64 0) := (blk_cell BX21.out 0).trans rfl
          have yb1 := blk_frozen BX21.out 1
          have zb1 : w21.cell? ⟨g2, 1, none⟩ = some (.int .i64 0) := (blk_cell BX21.out 1).trans rfl
          have yb2 := blk_frozen BX21.out 2
          have zb2 : w21.cell? ⟨g2, 2, none⟩ = some (.int .i64 0) := (blk_cell BX21.out 2).trans rfl
          have yb3 := blk_frozen BX21.out 3
          have zb3 : w21.cell? ⟨g2, 3, none⟩ = some (.int .i64 0) := (blk_cell BX21.out 3).trans rfl
          have yb4 := blk_frozen BX21.out 4
          have zb4 : w21.cell? ⟨g2, 4, none⟩ = some (.int .i64 0) := (blk_cell BX21.out 4).trans rfl
          have yb5 := blk_frozen BX21.out 5
          have zb5 : w21.cell? ⟨g2, 5, none⟩ = some (.int .i64 0) := (blk_cell BX21.out 5).trans rfl
          have yb6 := blk_frozen BX21.out 6
          have zb6 : w21.cell? ⟨g2, 6, none⟩ = some (.int .i64 0) := (blk_cell BX21.out 6).trans rfl
          have yb7 := blk_frozen BX21.out 7
          have zb7 : w21.cell? ⟨g2, 7, none⟩ = some (.string (⟨#[]⟩ : ByteArray)) := (blk_cell BX21.out 7).trans rfl
          have yb8 := blk_frozen BX21.out 8
          have zb8 : w21.cell? ⟨g2, 8, none⟩ = some (.string (⟨#[]⟩ : ByteArray)) := (blk_cell BX21.out 8).trans rfl
          have yb9 := blk_frozen BX21.out 9
          have zb9 : w21.cell? ⟨g2, 9, none⟩ = some (.slice none 0 0) := (blk_cell BX21.out 9).trans rfl
          have yb10 := blk_frozen BX21.out 10
          have zb10 : w21.cell? ⟨g2, 10, none⟩ = some (.slice none 0 0) := (blk_cell BX21.out 10).trans rfl
          have yb11 := blk_frozen BX21.out 11
          have zb11 : w21.cell? ⟨g2, 11, none⟩ = some (.int .i64 0) := (blk_cell BX21.out 11).trans rfl
          have yb12 := blk_frozen BX21.out 12
          have zb12 : w21.cell? ⟨g2, 12, none⟩ = some (.bool false) := (blk_cell BX21.out 12).trans rfl
          have yb13 := blk_frozen BX21.out 13
          have zb13 : w21.cell? ⟨g2, 13, none⟩ = some (.string (⟨#[]⟩ : ByteArray)) := (blk_cell BX21.out 13).trans rfl
          go_region
          go_wp2
          refine bodyPost_ret (results_ct rfl _ _ g2 27 #[.int .i64 0, .int .i64 0, .int .i64 0, .int .i64 0, .int .i64 0, .int .i64 0, .int .i64 0, .string (⟨#[]⟩ : ByteArray), .string (⟨#[]⟩ : ByteArray), .slice none 0 0, .slice none 0 0, .int .i64 0, .bool false, .string (⟨#[]⟩ : ByteArray)] (0, 0) _ rfl (blk_drew (blk_put (cs' := #[.int .i64 0, .int .i64 0, .int .i64 0, .int .i64 0, .int .i64 0, .int .i64 0, .int .i64 0, .string (⟨#[]⟩ : ByteArray), .string (⟨#[]⟩ : ByteArray), .slice none 0 0, .slice none 0 0, .int .i64 0, .bool false, .string (⟨#[]⟩ : ByteArray)]) (blk_put (cs' := #[.int .i64 0, .int .i64 0, .int .i64 0, .int .i64 0, .int .i64 0, .int .i64 0, .int .i64 0, .string (⟨#[]⟩ : ByteArray), .string (⟨#[]⟩ : ByteArray), .slice none 0 0, .slice none 0 0, .int .i64 0, .bool false, .string (⟨#[]⟩ : ByteArray)]) (blk_put (cs' := #[.int .i64 0, .int .i64 0, .int .i64 0, .int .i64 0, .int .i64 0, .int .i64 0, .int .i64 0, .string (⟨#[]⟩ : ByteArray), .string (⟨#[]⟩ : ByteArray), .slice none 0 0, .slice none 0 0, .int .i64 0, .bool false, .string (⟨#[]⟩ : ByteArray)]) (blk_put (cs' := #[.int .i64 0, .int .i64 0, .int .i64 0, .int .i64 0, .int .i64 0, .int .i64 0, .int .i64 0, .string (⟨#[]⟩ : ByteArray), .string (⟨#[]⟩ : ByteArray), .slice none 0 0, .slice none 0 0, .int .i64 0, .bool false, .string (⟨#[]⟩ : ByteArray)]) (blk_put (cs' := #[.int .i64 0, .int .i64 0, .int .i64 0, .int .i64 0, .int .i64 0, .int .i64 0, .int .i64 0, .string (⟨#[]⟩ : ByteArray), .string (⟨#[]⟩ : ByteArray), .slice none 0 0, .slice none 0 0, .int .i64 0, .bool false, .string (⟨#[]⟩ : ByteArray)]) (blk_put (cs' := #[.int .i64 0, .int .i64 0, .int .i64 0, .int .i64 0, .int .i64 0, .int .i64 0, .int .i64 0, .string (⟨#[]⟩ : ByteArray), .string (⟨#[]⟩ : ByteArray), .slice none 0 0, .slice none 0 0, .int .i64 0, .bool false, .string (⟨#[]⟩ : ByteArray)]) (blk_put (cs' := #[.int .i64 0, .int .i64 0, .int .i64 0, .int .i64 0, .int .i64 0, .int .i64 0, .int .i64 0, .string (⟨#[]⟩ : ByteArray), .string (⟨#[]⟩ : ByteArray), .slice none 0 0, .slice none 0 0, .int .i64 0, .bool false, .string (⟨#[]⟩ : ByteArray)]) (blk_put (cs' := #[.int .i64 0, .int .i64 0, .int .i64 0, .int .i64 0, .int .i64 0, .int .i64 0, .int .i64 0, .string (⟨#[]⟩ : ByteArray), .string (⟨#[]⟩ : ByteArray), .slice none 0 0, .slice none 0 0, .int .i64 0, .bool false, .string (⟨#[]⟩ : ByteArray)]) (blk_put (cs' := #[.int .i64 0, .int .i64 0, .int .i64 0, .int .i64 0, .int .i64 0, .int .i64 0, .int .i64 0, .string (⟨#[]⟩ : ByteArray), .string (⟨#[]⟩ : ByteArray), .slice none 0 0, .slice none 0 0, .int .i64 0, .bool false, .string (⟨#[]⟩ : ByteArray)]) (blk_put (cs' := #[.int .i64 0, .int .i64 0, .int .i64 0, .int .i64 0, .int .i64 0, .int .i64 0, .int .i64 0, .string (⟨#[]⟩ : ByteArray), .string (⟨#[]⟩ : ByteArray), .slice none 0 0, .slice none 0 0, .int .i64 0, .bool false, .string (⟨#[]⟩ : ByteArray)]) (blk_put (cs' := #[.int .i64 0, .int .i64 0, .int .i64 0, .int .i64 0, .int .i64 0, .int .i64 0, .int .i64 0, .string (⟨#[]⟩ : ByteArray), .string (⟨#[]⟩ : ByteArray), .slice none 0 0, .slice none 0 0, .int .i64 0, .bool false, .string (⟨#[]⟩ : ByteArray)]) (blk_put (cs' := #[.int .i64 0, .int .i64 0, .int .i64 0, .int .i64 0, .int .i64 0, .int .i64 0, .int .i64 0, .string (⟨#[]⟩ : ByteArray), .string (⟨#[]⟩ : ByteArray), .slice none 0 0, .slice none 0 0, .int .i64 0, .bool false, .string (⟨#[]⟩ : ByteArray)]) (blk_put (cs' := #[.int .i64 0, .int .i64 0, .int .i64 0, .int .i64 0, .int .i64 0, .int .i64 0, .int .i64 0, .string (⟨#[]⟩ : ByteArray), .string (⟨#[]⟩ : ByteArray), .slice none 0 0, .slice none 0 0, .int .i64 0, .bool false, .string (⟨#[]⟩ : ByteArray)]) (blk_put (cs' := #[.int .i64 0, .int .i64 0, .int .i64 0, .int .i64 0, .int .i64 0, .int .i64 0, .int .i64 0, .string (⟨#[]⟩ : ByteArray), .string (⟨#[]⟩ : ByteArray), .slice none 0 0, .slice none 0 0, .int .i64 0, .bool false, .string (⟨#[]⟩ : ByteArray)]) BX21.out 0 (.int .i64 0) rfl) 1 (.int .i64 0) rfl) 2 (.int .i64 0) rfl) 3 (.int .i64 0) rfl) 4 (.int .i64 0) rfl) 5 (.int .i64 0) rfl) 6 (.int .i64 0) rfl) 7 (.string (⟨#[]⟩ : ByteArray)) rfl) 8 (.string (⟨#[]⟩ : ByteArray)) rfl) 9 (.slice none 0 0) rfl) 10 (.slice none 0 0) rfl) 11 (.int .i64 0) rfl) 12 (.bool false) rfl) 13 (.string (⟨#[]⟩ : ByteArray)) rfl)) Try.underlying27 rfl (by kernel_rfl)) rfl ?_
          have hb1 := HB1.out
          have hb2 := HB2.out
          exact ⟨_, _, rfl, Kd.R_nil _ _ _ _ _, Kd.R_nil _ _ _ _ _, below_drew (Turned.below (Turned.set (Turned.set (Turned.set (Turned.set (Turned.set (Turned.set (Turned.set (Turned.set (Turned.set (Turned.set (Turned.set (Turned.set (Turned.set (Turned.set (Turned.refl g2 w21) (p := ⟨g2, 0, none⟩) (.inr rfl) (.int .i64 0)) (p := ⟨g2, 1, none⟩) (.inr rfl) (.int .i64 0)) (p := ⟨g2, 2, none⟩) (.inr rfl) (.int .i64 0)) (p := ⟨g2, 3, none⟩) (.inr rfl) (.int .i64 0)) (p := ⟨g2, 4, none⟩) (.inr rfl) (.int .i64 0)) (p := ⟨g2, 5, none⟩) (.inr rfl) (.int .i64 0)) (p := ⟨g2, 6, none⟩) (.inr rfl) (.int .i64 0)) (p := ⟨g2, 7, none⟩) (.inr rfl) (.string (⟨#[]⟩ : ByteArray))) (p := ⟨g2, 8, none⟩) (.inr rfl) (.string (⟨#[]⟩ : ByteArray))) (p := ⟨g2, 9, none⟩) (.inr rfl) (.slice none 0 0)) (p := ⟨g2, 10, none⟩) (.inr rfl) (.slice none 0 0)) (p := ⟨g2, 11, none⟩) (.inr rfl) (.int .i64 0)) (p := ⟨g2, 12, none⟩) (.inr rfl) (.bool false)) (p := ⟨g2, 13, none⟩) (.inr rfl) (.string (⟨#[]⟩ : ByteArray))) (below_step (below_step hb1 hb2) S21.out.rd.below) L2.out (by have h1 := hb1.size; have h2 := hb2.size; have h3 := S21.out.rd.below.size; omega))⟩
      · have hE : endE (s.size : Int) a9 e9 = e9 := by unfold endE; rw [if_neg (fun h => he h.1)]
        rw [hE, if_neg he] at f0
        subst f0
        have p1 : (e9 == 0) = false := beq_eq_false_iff_ne.2 he
        have p3 : (e9 != 0) = true := bne_iff_ne.2 he
        clear hE he
        go_upto_region 35 with (fail)
        have n2r := blk_ne BX20.out S20.out.rd.box (by decide)
        have n2rs := Ne.symm n2r
        have yb0 := blk_frozen BX20.out 0
        have zb0 : w20.cell? ⟨g2, 0, none⟩ = some (.int .i64 0) := (blk_cell BX20.out 0).trans rfl
        have yb1 := blk_frozen BX20.out 1
        have zb1 : w20.cell? ⟨g2, 1, none⟩ = some (.int .i64 0) := (blk_cell BX20.out 1).trans rfl
        have yb2 := blk_frozen BX20.out 2
        have zb2 : w20.cell? ⟨g2, 2, none⟩ = some (.int .i64 0) := (blk_cell BX20.out 2).trans rfl
        have yb3 := blk_frozen BX20.out 3
        have zb3 : w20.cell? ⟨g2, 3, none⟩ = some (.int .i64 0) := (blk_cell BX20.out 3).trans rfl
        have yb4 := blk_frozen BX20.out 4
        have zb4 : w20.cell? ⟨g2, 4, none⟩ = some (.int .i64 0) := (blk_cell BX20.out 4).trans rfl
        have yb5 := blk_frozen BX20.out 5
        have zb5 : w20.cell? ⟨g2, 5, none⟩ = some (.int .i64 0) := (blk_cell BX20.out 5).trans rfl
        have yb6 := blk_frozen BX20.out 6
        have zb6 : w20.cell? ⟨g2, 6, none⟩ = some (.int .i64 0) := (blk_cell BX20.out 6).trans rfl
        have yb7 := blk_frozen BX20.out 7
        have zb7 : w20.cell? ⟨g2, 7, none⟩ = some (.string (⟨#[]⟩ : ByteArray)) := (blk_cell BX20.out 7).trans rfl
        have yb8 := blk_frozen BX20.out 8
        have zb8 : w20.cell? ⟨g2, 8, none⟩ = some (.string (⟨#[]⟩ : ByteArray)) := (blk_cell BX20.out 8).trans rfl
        have yb9 := blk_frozen BX20.out 9
        have zb9 : w20.cell? ⟨g2, 9, none⟩ = some (.slice none 0 0) := (blk_cell BX20.out 9).trans rfl
        have yb10 := blk_frozen BX20.out 10
        have zb10 : w20.cell? ⟨g2, 10, none⟩ = some (.slice none 0 0) := (blk_cell BX20.out 10).trans rfl
        have yb11 := blk_frozen BX20.out 11
        have zb11 : w20.cell? ⟨g2, 11, none⟩ = some (.int .i64 0) := (blk_cell BX20.out 11).trans rfl
        have yb12 := blk_frozen BX20.out 12
        have zb12 : w20.cell? ⟨g2, 12, none⟩ = some (.bool false) := (blk_cell BX20.out 12).trans rfl
        have yb13 := blk_frozen BX20.out 13
        have zb13 : w20.cell? ⟨g2, 13, none⟩ = some (.string (⟨#[]⟩ : ByteArray)) := (blk_cell BX20.out 13).trans rfl
        go_region
        go_wp2
        refine bodyPost_ret (results_ct rfl _ _ g2 27 #[.int .i64 0, .int .i64 0, .int .i64 0, .int .i64 0, .int .i64 0, .int .i64 0, .int .i64 0, .string (⟨#[]⟩ : ByteArray), .string (⟨#[]⟩ : ByteArray), .slice none 0 0, .slice none 0 0, .int .i64 0, .bool false, .string (⟨#[]⟩ : ByteArray)] (0, 0) _ rfl (blk_drew (blk_put (cs' := #[.int .i64 0, .int .i64 0, .int .i64 0, .int .i64 0, .int .i64 0, .int .i64 0, .int .i64 0, .string (⟨#[]⟩ : ByteArray), .string (⟨#[]⟩ : ByteArray), .slice none 0 0, .slice none 0 0, .int .i64 0, .bool false, .string (⟨#[]⟩ : ByteArray)]) (blk_put (cs' := #[.int .i64 0, .int .i64 0, .int .i64 0, .int .i64 0, .int .i64 0, .int .i64 0, .int .i64 0, .string (⟨#[]⟩ : ByteArray), .string (⟨#[]⟩ : ByteArray), .slice none 0 0, .slice none 0 0, .int .i64 0, .bool false, .string (⟨#[]⟩ : ByteArray)]) (blk_put (cs' := #[.int .i64 0, .int .i64 0, .int .i64 0, .int .i64 0, .int .i64 0, .int .i64 0, .int .i64 0, .string (⟨#[]⟩ : ByteArray), .string (⟨#[]⟩ : ByteArray), .slice none 0 0, .slice none 0 0, .int .i64 0, .bool false, .string (⟨#[]⟩ : ByteArray)]) (blk_put (cs' := #[.int .i64 0, .int .i64 0, .int .i64 0, .int .i64 0, .int .i64 0, .int .i64 0, .int .i64 0, .string (⟨#[]⟩ : ByteArray), .string (⟨#[]⟩ : ByteArray), .slice none 0 0, .slice none 0 0, .int .i64 0, .bool false, .string (⟨#[]⟩ : ByteArray)]) (blk_put (cs' := #[.int .i64 0, .int .i64 0, .int .i64 0, .int .i64 0, .int .i64 0, .int .i64 0, .int .i64 0, .string (⟨#[]⟩ : ByteArray), .string (⟨#[]⟩ : ByteArray), .slice none 0 0, .slice none 0 0, .int .i64 0, .bool false, .string (⟨#[]⟩ : ByteArray)]) (blk_put (cs' := #[.int .i64 0, .int .i64 0, .int .i64 0, .int .i64 0, .int .i64 0, .int .i64 0, .int .i64 0, .string (⟨#[]⟩ : ByteArray), .string (⟨#[]⟩ : ByteArray), .slice none 0 0, .slice none 0 0, .int .i64 0, .bool false, .string (⟨#[]⟩ : ByteArray)]) (blk_put (cs' := #[.int .i64 0, .int .i64 0, .int .i64 0, .int .i64 0, .int .i64 0, .int .i64 0, .int .i64 0, .string (⟨#[]⟩ : ByteArray), .string (⟨#[]⟩ : ByteArray), .slice none 0 0, .slice none 0 0, .int .i64 0, .bool false, .string (⟨#[]⟩ : ByteArray)]) (blk_put (cs' := #[.int .i64 0, .int .i64 0, .int .i64 0, .int .i64 0, .int .i64 0, .int .i64 0, .int .i64 0, .string (⟨#[]⟩ : ByteArray), .string (⟨#[]⟩ : ByteArray), .slice none 0 0, .slice none 0 0, .int .i64 0, .bool false, .string (⟨#[]⟩ : ByteArray)]) (blk_put (cs' := #[.int .i64 0, .int .i64 0, .int .i64 0, .int .i64 0, .int .i64 0, .int .i64 0, .int .i64 0, .string (⟨#[]⟩ : ByteArray), .string (⟨#[]⟩ : ByteArray), .slice none 0 0, .slice none 0 0, .int .i64 0, .bool false, .string (⟨#[]⟩ : ByteArray)]) (blk_put (cs' := #[.int .i64 0, .int .i64 0, .int .i64 0, .int .i64 0, .int .i64 0, .int .i64 0, .int .i64 0, .string (⟨#[]⟩ : ByteArray), .string (⟨#[]⟩ : ByteArray), .slice none 0 0, .slice none 0 0, .int .i64 0, .bool false, .string (⟨#[]⟩ : ByteArray)]) (blk_put (cs' := #[.int .i64 0, .int .i64 0, .int .i64 0, .int .i64 0, .int .i64 0, .int .i64 0, .int .i64 0, .string (⟨#[]⟩ : ByteArray), .string (⟨#[]⟩ : ByteArray), .slice none 0 0, .slice none 0 0, .int .i64 0, .bool false, .string (⟨#[]⟩ : ByteArray)]) (blk_put (cs' := #[.int .i64 0, .int .i64 0, .int .i64 0, .int .i64 0, .int .i64 0, .int .i64 0, .int .i64 0, .string (⟨#[]⟩ : ByteArray), .string (⟨#[]⟩ : ByteArray), .slice none 0 0, .slice none 0 0, .int .i64 0, .bool false, .string (⟨#[]⟩ : ByteArray)]) (blk_put (cs' := #[.int .i64 0, .int .i64 0, .int .i64 0, .int .i64 0, .int .i64 0, .int .i64 0, .int .i64 0, .string (⟨#[]⟩ : ByteArray), .string (⟨#[]⟩ : ByteArray), .slice none 0 0, .slice none 0 0, .int .i64 0, .bool false, .string (⟨#[]⟩ : ByteArray)]) (blk_put (cs' := #[.int .i64 0, .int .i64 0, .int .i64 0, .int .i64 0, .int .i64 0, .int .i64 0, .int .i64 0, .string (⟨#[]⟩ : ByteArray), .string (⟨#[]⟩ : ByteArray), .slice none 0 0, .slice none 0 0, .int .i64 0, .bool false, .string (⟨#[]⟩ : ByteArray)]) BX20.out 0 (.int .i64 0) rfl) 1 (.int .i64 0) rfl) 2 (.int .i64 0) rfl) 3 (.int .i64 0) rfl) 4 (.int .i64 0) rfl) 5 (.int .i64 0) rfl) 6 (.int .i64 0) rfl) 7 (.string (⟨#[]⟩ : ByteArray)) rfl) 8 (.string (⟨#[]⟩ : ByteArray)) rfl) 9 (.slice none 0 0) rfl) 10 (.slice none 0 0) rfl) 11 (.int .i64 0) rfl) 12 (.bool false) rfl) 13 (.string (⟨#[]⟩ : ByteArray)) rfl)) Try.underlying27 rfl (by kernel_rfl)) rfl ?_
        have hb1 := HB1.out
        have hb2 := HB2.out
        exact ⟨_, _, rfl, Kd.R_nil _ _ _ _ _, Kd.R_nil _ _ _ _ _, below_drew (Turned.below (Turned.set (Turned.set (Turned.set (Turned.set (Turned.set (Turned.set (Turned.set (Turned.set (Turned.set (Turned.set (Turned.set (Turned.set (Turned.set (Turned.set (Turned.refl g2 w20) (p := ⟨g2, 0, none⟩) (.inr rfl) (.int .i64 0)) (p := ⟨g2, 1, none⟩) (.inr rfl) (.int .i64 0)) (p := ⟨g2, 2, none⟩) (.inr rfl) (.int .i64 0)) (p := ⟨g2, 3, none⟩) (.inr rfl) (.int .i64 0)) (p := ⟨g2, 4, none⟩) (.inr rfl) (.int .i64 0)) (p := ⟨g2, 5, none⟩) (.inr rfl) (.int .i64 0)) (p := ⟨g2, 6, none⟩) (.inr rfl) (.int .i64 0)) (p := ⟨g2, 7, none⟩) (.inr rfl) (.string (⟨#[]⟩ : ByteArray))) (p := ⟨g2, 8, none⟩) (.inr rfl) (.string (⟨#[]⟩ : ByteArray))) (p := ⟨g2, 9, none⟩) (.inr rfl) (.slice none 0 0)) (p := ⟨g2, 10, none⟩) (.inr rfl) (.slice none 0 0)) (p := ⟨g2, 11, none⟩) (.inr rfl) (.int .i64 0)) (p := ⟨g2, 12, none⟩) (.inr rfl) (.bool false)) (p := ⟨g2, 13, none⟩) (.inr rfl) (.string (⟨#[]⟩ : ByteArray))) (below_step (below_step hb1 hb2) S20.out.rd.below) L2.out (by have h1 := hb1.size; have h2 := hb2.size; have h3 := S20.out.rd.below.size; omega))⟩
end Go.Proofs.Ythghacojbhjeaaa.Lg
