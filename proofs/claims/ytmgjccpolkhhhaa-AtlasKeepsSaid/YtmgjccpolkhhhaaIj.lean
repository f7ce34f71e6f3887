/- DERIVED. What atlas.next does with any two closures that keep to their contracts. Conditions: those that each lemma names. DERIVED. What the closures of Split, Merge and Move do. Conditions: those that each lemma names. DERIVED. What Split, Merge and Move do, over what next does. Conditions: those that each lemma names. DERIVED. Split, Merge and Move: what they come to, and that they do. Conditions: those that each theorem names. -/
import Derived.Test.YtmgjccpolkhhhaaIk
import Derived.Test.YtmgjccpolkhhhaaPAllx4
import Derived.Test.YtmgjccpolkhhhaaPAllx5
namespace Go.Proofs.Ytmgjccpolkhhhaa.If
open Go.Shelf Go.RowKit Go.Lib Go.Proofs.Ytmgjccpolkhhhaa.PAll Go.Proofs.YtmgjccpolkhhhaaW.PrintWords Go.Proofs.YtmgjccpolkhhhaaW.PrintLast Go.Proofs.Ytmgjccpolkhhhaa.Hl Go.Proofs.Ytmgjccpolkhhhaa.Ic
set_option linter.unusedSimpArgs false
set_option linter.unusedVariables false
/-- All is as it was but block g; nothing was said. -/
structure Turned (g : Nat) (w w' : World) : Prop where
  os : w'.os = w.os
  tape : w'.tape = w.tape
  output : w'.output = w.output
  size : w.heap.size ≤ w'.heap.size
  block : ∀ k, k < w.heap.size → k ≠ g → w'.heap[k]? = w.heap[k]?
theorem Turned.below {g B : Nat} {w0 w w' : World} (h : Turned g w w') (hb : Below B w0 w) (hg : B ≤ g) (hB : B ≤ w.heap.size) : Below B w0 w' :=
  hb.trans ⟨h.os, h.tape, h.output, h.size, fun k hk => h.block k (by omega) (by omega)⟩
theorem Turned.blk {g g' : Nat} {w w' : World} {o : Obj} (h : Turned g w w') (hb : w.heap[g']? = some o) (hne : g' ≠ g) : w'.heap[g']? = some o := (h.block g' (blk_lt hb) hne).trans hb
theorem Turned.refl (g : Nat) (w : World) : Turned g w w := ⟨rfl, rfl, rfl, Nat.le_refl _, fun _ _ _ => rfl⟩
theorem Turned.trans {g : Nat} {w w1 w2 : World} (h : Turned g w w1) (k : Turned g w1 w2) : Turned g w w2 :=
  ⟨k.os.trans h.os, k.tape.trans h.tape, k.output.trans h.output, Nat.le_trans h.size k.size, fun i hi hne => (k.block i (Nat.lt_of_lt_of_le hi h.size) hne).trans (h.block i hi hne)⟩
theorem Turned.of_below {g : Nat} {w w1 : World} (h : Below w.heap.size w w1) : Turned g w w1 := ⟨h.os, h.tape, h.output, h.size, fun i hi _ => h.block i hi⟩
theorem Turned.set {g : Nat} {w w1 : World} (h : Turned g w w1) {p : Addr} (hp : w.heap.size ≤ p.block ∨ p.block = g) (v : Value) : Turned g w (w1.setCell p v) :=
  ⟨h.os, h.tape, h.output, by have := h.size; simpa [World.setCell] using this, fun i hi hne => (Below.heap_setCell _ _ _ _ (by rcases hp with hp | hp <;> omega)).trans (h.block i hi hne)⟩
set_option maxHeartbeats 4000000 in
set_option maxRecDepth 100000 in
theorem next_any (w0 w : World) (hw : Below w0.heap.size w0 w) (ep : Int) (A : Option Addr) (c : Nat) (ps : List S46) (hC : Kd.C k46 w0 A ps.length ps) (hc : ps.length ≤ c) (kc : Nat) (hl : ps.length ≤ 8) (hcheck : atlas_Check.f kc ep ps = some 0) (he0 : 1 ≤ ep) (he : ep ≤ 1099511627775)
    (f1 f2 : FuncId) (fn1 fn2 : Func) (hf1 : Try.prog.funcs[f1]? = some fn1) (hn1 : (fn1.name == "runtime.NumGoroutine") = false) (hb1 : fn1.body.isSome = true) (hf2 : Try.prog.funcs[f2]? = some fn2) (hn2 : (fn2.name == "runtime.NumGoroutine") = false) (hb2 : fn2.body.isSome = true) (cap1 cap2 : Array Value) (gi : Nat) (hgi : w0.heap.size ≤ gi) (hgl : gi < w.heap.size) (J : World → Prop)
    (hmay : ∀ w', Below w.heap.size w w' → Calls Try.prog f1 (#[.agg #[.int .i64 ep, .slice A ps.length c]] ++ cap1) w' fun e w'' => e = .returned (.bool true) ∧ Turned gi w' w'' ∧ J w'')
    (hJ : ∀ u u', J u → Below u.heap.size u u' → J u')
    (qs : List S46)
    (hturn : ∀ u base v, J u → Below w0.heap.size w0 u → w0.heap.size ≤ base → base ≤ u.heap.size → Kd.R k46 46 u base (fun _ => True) v ps → Calls Try.prog f2 (#[v] ++ cap2) u fun e u' => ∃ v', e = .returned v' ∧ Kd.R k46 46 u' base (fun _ => True) v' qs ∧ Below base u u') :
    Calls Try.prog 34 #[.agg #[.int .i64 ep, .slice A ps.length c], .func (.func f1) #[] cap1, .func (.func f2) #[] cap2] w fun e w' => ∃ v', e = .returned (.tuple #[.agg #[.int .i64 (ep + 1), v'], .int .i64 0]) ∧ Kd.R k46 46 w' w.heap.size (fun _ => True) v' qs ∧ Turned gi w w' := by
  have hu24 := Try.underlying24
  have HC := Aside0.mk hC
  have HB := Aside0.mk hw
  have HM := Aside0.mk hmay
  have HT := Aside0.mk hturn
  have HJ := Aside0.mk hJ
  have HK := Aside0.mk hcheck
  have HCL := Aside0.mk (show slices_Clone_api_Part_api_Part.f ps = some ps by unfold slices_Clone_api_Part_api_Part.f; simp; omega)
  have mixed : Try.prog.follows Departure.mixedOrders = true := by kernel_rfl
  have hw1 : IntKind.i64.wrap (ep + 1) = ep + 1 := by rw [IntKind.wrap_i64]; omega
  clear hC hw hmay hturn hJ hcheck
  go_enter Try.func34, Try.ntmps34
  go_wp2_with (first | ((with_reducible refine gate_dst (N := 3) rfl ?_); refine box_event ?hg (N := 3) ?hd (cs := #[.int .i64 ep, .slice A ps.length c]) (t := 24) ?hr ?_; (case hd => rfl); (case hg => rfl); (case hr => first | (go_simp; done) | (go_simp; rfl)); intro g3 hg w1 hbox hb; have L3 := Aside0.mk (show w.heap.size ≤ g3 by omega); have BX3 := Aside0.mk hbox; have HB1 := Aside0.mk hb; clear hb hbox hg) | ((with_reducible refine gate_dst (N := 6) rfl ?_); refine box_event ?hg (N := 6) ?hd (cs := #[.int .i64 0, .slice none 0 0]) (t := 24) ?hr ?_; (case hd => rfl); (case hg => rfl); (case hr => first | (go_simp; done) | (go_simp; rfl)); intro g6 hg w2 hbox hb; have L6 := Aside0.mk (show w1.heap.size ≤ g6 by omega); have BX6 := Aside0.mk hbox; have HB2 := Aside0.mk hb; have BX3b := Aside0.mk (blk_below BX3.out hb); clear hb hbox hg; have hc3_0 : w2.cell? ⟨g3, 0, none⟩ = some (.int .i64 ep) := (blk_cell BX3b.out 0).trans rfl; have hc3_1 : w2.cell? ⟨g3, 1, none⟩ = some (.slice A ps.length c) := (blk_cell BX3b.out 1).trans rfl) | ((with_reducible refine gate_callee (f := 17) rfl ?_); refine goesL_ (some 10) rfl rfl Try.func17 (by kernel_rfl) rfl #[.agg #[.int .i64 ep, .slice A ps.length c]] rfl (by (try simp only [List.map_toArray, List.map_cons, List.map_nil]); first | done | rfl) ?_; (with_reducible refine (atlas_Check.calls kc ep _ _ ps 0 _ ?side1 ?side2 HK.out).mono ?_); (case side1 => exact Kd.C_below HC.out (below_step (below_step HB.out HB1.out) HB2.out)); (case side2 => exact hc); rintro e w3 ⟨rfl, hb⟩; refine ⟨_, rfl, ?_⟩; have HB3 := Aside0.mk hb; have BX3c := Aside0.mk (blk_below BX3b.out hb); have BX6c := Aside0.mk (blk_below BX6.out hb); clear hc3_0 hc3_1 hb; have hc3_0 : w3.cell? ⟨g3, 0, none⟩ = some (.int .i64 ep) := (blk_cell BX3c.out 0).trans rfl; have hc3_1 : w3.cell? ⟨g3, 1, none⟩ = some (.slice A ps.length c) := (blk_cell BX3c.out 1).trans rfl) | ((with_reducible refine gate_dst (N := 19) rfl ?_); refine goesLC (some 19) rfl rfl hf1 hn1 hb1 #[.agg #[.int .i64 ep, .slice A ps.length c]] cap1 rfl (by (try simp only [List.map_toArray, List.map_cons, List.map_nil]); first | done | rfl) rfl ?_; (with_reducible refine (HM.out _ ?side3).mono ?_); (case side3 => exact below_step (below_step HB1.out HB2.out) HB3.out); rintro e w4 ⟨rfl, ht, hj⟩; refine ⟨_, rfl, ?_⟩; have HT4 := Aside0.mk ht; have HB4 := Aside0.mk (ht.below (below_step (below_step (below_step HB.out HB1.out) HB2.out) HB3.out) hgi (by have := HB.out.size; have := HB1.out.size; have := HB2.out.size; have := HB3.out.size; omega)); have HJ4 := Aside0.mk hj; have BX3d := Aside0.mk (ht.blk BX3c.out (by have := L3.out; omega)); have BX6d := Aside0.mk (ht.blk BX6c.out (by have := L3.out; have := L6.out; have := HB1.out.size; omega)); clear hc3_0 hc3_1 ht hj; have hc3_0 : w4.cell? ⟨g3, 0, none⟩ = some (.int .i64 ep) := (blk_cell BX3d.out 0).trans rfl; have hc3_1 : w4.cell? ⟨g3, 1, none⟩ = some (.slice A ps.length c) := (blk_cell BX3d.out 1).trans rfl))
  go_region_law_o (first | (refine goes_ Try.func55 (by kernel_rfl) rfl #[.slice A ps.length c] (by rfl) rfl rfl (by (try simp only [List.map_toArray, List.map_cons, List.map_nil]); first | done | rfl) ?_; (with_reducible refine (slices_Clone_api_Part_api_Part.calls _ _ ps ps _ ?side1 ?side2 HCL.out).mono ?_); (case side1 => exact Kd.C_drew (Kd.C_below HC.out HB4.out)); (case side2 => exact hc); rintro e w5 ⟨v5, rfl, hR, hB⟩; refine ⟨_, rfl, ?_⟩; have HR5 := Aside0.mk hR; have HB5 := Aside0.mk hB; have BX3e := Aside0.mk (blk_below (blk_drew BX3d.out) hB); have BX6e := Aside0.mk (blk_below (blk_drew BX6d.out) hB); clear hR hB; have hc3_5 : w5.cell? ⟨g3, 0, none⟩ = some (.int .i64 ep) := (blk_cell BX3e.out 0).trans rfl) | (refine goesC hf2 hn2 hb2 #[v5] cap2 (by rfl) rfl rfl (by (try simp only [List.map_toArray, List.map_cons, List.map_nil]); first | done | rfl) rfl ?_; (with_reducible refine (HT.out _ w4.drew.heap.size _ ?s1 ?s2 ?s3 ?s4 HR5.out).mono ?_); (case s1 => exact HJ.out _ _ HJ4.out (below_step (below_drew (Below.refl _ _)) HB5.out)); (case s2 => exact below_step (below_drew HB4.out) HB5.out); (case s3 => exact HB4.out.size); (case s4 => exact HB5.out.size); rintro e w6 ⟨v6, rfl, hR, hB⟩; obtain ⟨A6, c6, e6⟩ := Kd.R_slice hR; subst e6; refine ⟨_, rfl, ?_⟩; have HR6 := Aside0.mk hR; have HB6 := Aside0.mk hB; have BX3f := Aside0.mk ((hB.block g3 (blk_lt (blk_drew BX3d.out))).trans BX3e.out); have BX6f := Aside0.mk ((hB.block g6 (blk_lt (blk_drew BX6d.out))).trans BX6e.out); clear hR hB; have hc3_6 : w6.cell? ⟨g3, 0, none⟩ = some (.int .i64 ep) := (blk_cell BX3f.out 0).trans rfl; have hc6_0 : w6.cell? ⟨g6, 0, none⟩ = some (.int .i64 0) := (blk_cell BX6f.out 0).trans rfl; have hc6_1 : w6.cell? ⟨g6, 1, none⟩ = some (.slice none 0 0) := (blk_cell BX6f.out 1).trans rfl; have hf6_0 := blk_frozen BX6f.out 0; have hf6_1 := blk_frozen BX6f.out 1))
  all_goals (try go_wp2)
  all_goals
    refine bodyPost_ret (results_ct rfl _ _ g6 24 #[.int .i64 (ep + 1), .slice A6 qs.length c6] (0, 0) _ rfl (by refine blk_put (cs := #[.int .i64 (ep + 1), .slice none 0 0]) ?_ 1 _ rfl; refine blk_put (cs := #[.int .i64 0, .slice none 0 0]) ?_ 0 _ rfl; exact BX6f.out) Try.underlying24 rfl (by kernel_rfl)) rfl ?_
    have hlw : w.heap.size ≤ w4.drew.heap.size := by have := HB1.out.size; have := HB2.out.size; have := HB3.out.size; have := HT4.out.size; show _ ≤ w4.heap.size; omega
    have hl6 : w.heap.size ≤ g6 := by have := L6.out; have := HB1.out.size; omega
    refine ⟨_, rfl, ?_, ?_⟩
    · refine Kd.R_lower ?_ hlw
      exact Kd.R_mono (Kd.R_far (p := ⟨g6, 1, none⟩) (Kd.R_far (p := ⟨g6, 0, none⟩) (Kd.R_types HR6.out BX6f.out (by decide)) (fun _ hk => hk.2) _) (fun _ hk => hk.2) _) (fun _ hk => trivial)
    · have h1 : Turned gi w w4.drew := ((Turned.of_below (below_step (below_step HB1.out HB2.out) HB3.out)).trans HT4.out).trans (Turned.of_below (below_drew (Below.refl _ _)))
      have h2 : Turned gi w4.drew w6 := Turned.of_below (HB5.out.trans HB6.out)
      exact ((h1.trans h2).set (.inl hl6) _).set (.inl hl6) _
set_option maxHeartbeats 4000000 in
set_option maxRecDepth 100000 in
theorem next_e (w0 w : World) (hw : Below w0.heap.size w0 w) (ep : Int) (A : Option Addr) (c : Nat) (ps : List S46) (hC : Kd.C k46 w0 A ps.length ps) (hc : ps.length ≤ c) (kc : Nat) (ec : Int) (hcheck : atlas_Check.f kc ep ps = some ec) (he : ec ≠ 0)
    (f1 f2 : FuncId) (fn1 : Func) (hf1 : Try.prog.funcs[f1]? = some fn1) (hn1 : (fn1.name == "runtime.NumGoroutine") = false) (hb1 : fn1.body.isSome = true) (cap1 cap2 : Array Value) (gi : Nat) (hgi : w0.heap.size ≤ gi) (hgl : gi < w.heap.size) (J : World → Prop) :
    Calls Try.prog 34 #[.agg #[.int .i64 ep, .slice A ps.length c], .func (.func f1) #[] cap1, .func (.func f2) #[] cap2] w fun e w' => ∃ v', e = .returned (.tuple #[.agg #[.int .i64 0, v'], .int .i64 ec]) ∧ Kd.R k46 46 w' w.heap.size (fun _ => True) v' ([] : List S46) ∧ Turned gi w w' := by
  have hu24 := Try.underlying24
  have HC := Aside0.mk hC
  have HB := Aside0.mk hw
  have HK := Aside0.mk hcheck
  have q1 : (ec == 0) = false := beq_eq_false_iff_ne.2 he
  have q2 : (ec != 0) = true := bne_iff_ne.2 he
  clear hC hw hcheck
  go_enter Try.func34, Try.ntmps34
  go_wp2_with (first | ((with_reducible refine gate_dst (N := 3) rfl ?_); refine box_event ?hg (N := 3) ?hd (cs := #[.int .i64 ep, .slice A ps.length c]) (t := 24) ?hr ?_; (case hd => rfl); (case hg => rfl); (case hr => first | (go_simp; done) | (go_simp; rfl)); intro g3 hg w1 hbox hb; have L3 := Aside0.mk (show w.heap.size ≤ g3 by omega); have BX3 := Aside0.mk hbox; have HB1 := Aside0.mk hb; clear hb hbox hg) | ((with_reducible refine gate_dst (N := 6) rfl ?_); refine box_event ?hg (N := 6) ?hd (cs := #[.int .i64 0, .slice none 0 0]) (t := 24) ?hr ?_; (case hd => rfl); (case hg => rfl); (case hr => first | (go_simp; done) | (go_simp; rfl)); intro g6 hg w2 hbox hb; have L6 := Aside0.mk (show w1.heap.size ≤ g6 by omega); have BX6 := Aside0.mk hbox; have HB2 := Aside0.mk hb; have BX3b := Aside0.mk (blk_below BX3.out hb); clear hb hbox hg; have hc3_0 : w2.cell? ⟨g3, 0, none⟩ = some (.int .i64 ep) := (blk_cell BX3b.out 0).trans rfl; have hc3_1 : w2.cell? ⟨g3, 1, none⟩ = some (.slice A ps.length c) := (blk_cell BX3b.out 1).trans rfl) | ((with_reducible refine gate_callee (f := 17) rfl ?_); refine goesL_ (some 10) rfl rfl Try.func17 (by kernel_rfl) rfl #[.agg #[.int .i64 ep, .slice A ps.length c]] rfl (by (try simp only [List.map_toArray, List.map_cons, List.map_nil]); first | done | rfl) ?_; (with_reducible refine (atlas_Check.calls kc ep _ _ ps ec _ ?side1 ?side2 HK.out).mono ?_); (case side1 => exact Kd.C_below HC.out (below_step (below_step HB.out HB1.out) HB2.out)); (case side2 => exact hc); rintro e w3 ⟨rfl, hb⟩; refine ⟨_, rfl, ?_⟩; have HB3 := Aside0.mk hb; have BX3c := Aside0.mk (blk_below BX3b.out hb); have BX6c := Aside0.mk (blk_below BX6.out hb); clear hc3_0 hc3_1 hb; have hc6_0 : w3.cell? ⟨g6, 0, none⟩ = some (.int .i64 0) := (blk_cell BX6c.out 0).trans rfl; have hc6_1 : w3.cell? ⟨g6, 1, none⟩ = some (.slice none 0 0) := (blk_cell BX6c.out 1).trans rfl; have hf6_0 := blk_frozen BX6c.out 0; have hf6_1 := blk_frozen BX6c.out 1; have hc3_0 : w3.cell? ⟨g3, 0, none⟩ = some (.int .i64 ep) := (blk_cell BX3c.out 0).trans rfl; have hc3_1 : w3.cell? ⟨g3, 1, none⟩ = some (.slice A ps.length c) := (blk_cell BX3c.out 1).trans rfl))
  refine bodyPost_ret (results_ct rfl _ _ g6 24 #[.int .i64 0, .slice none 0 0] (0, 0) _ rfl (by refine blk_put (cs := #[.int .i64 0, .slice none 0 0]) ?_ 1 _ rfl; refine blk_put (cs := #[.int .i64 0, .slice none 0 0]) ?_ 0 _ rfl; exact BX6c.out) Try.underlying24 rfl (by kernel_rfl)) rfl ?_
  have hl6 : w.heap.size ≤ g6 := by have := L6.out; have := HB1.out.size; omega
  have h1 : Turned gi w w3 := Turned.of_below (below_step (below_step HB1.out HB2.out) HB3.out)
  exact ⟨_, rfl, Kd.R_nil _ _ _ _ _, (h1.set (.inl hl6) _).set (.inl hl6) _⟩
set_option maxHeartbeats 4000000 in
set_option maxRecDepth 100000 in
theorem next_b (w0 w : World) (hw : Below w0.heap.size w0 w) (ep : Int) (A : Option Addr) (c : Nat) (ps : List S46) (hC : Kd.C k46 w0 A ps.length ps) (hc : ps.length ≤ c) (kc : Nat) (ec : Int) (hcheck : atlas_Check.f kc ep ps = some ec) (he : ec = 0)
    (f1 f2 : FuncId) (fn1 : Func) (hf1 : Try.prog.funcs[f1]? = some fn1) (hn1 : (fn1.name == "runtime.NumGoroutine") = false) (hb1 : fn1.body.isSome = true) (cap1 cap2 : Array Value) (gi : Nat) (hgi : w0.heap.size ≤ gi) (hgl : gi < w.heap.size) (J : World → Prop)
    (hmay : ∀ w', Below w.heap.size w w' → Calls Try.prog f1 (#[.agg #[.int .i64 ep, .slice A ps.length c]] ++ cap1) w' fun e w'' => e = .returned (.bool false) ∧ Turned gi w' w'' ∧ J w'') :
    Calls Try.prog 34 #[.agg #[.int .i64 ep, .slice A ps.length c], .func (.func f1) #[] cap1, .func (.func f2) #[] cap2] w fun e w' => ∃ v', e = .returned (.tuple #[.agg #[.int .i64 0, v'], .int .i64 14]) ∧ Kd.R k46 46 w' w.heap.size (fun _ => True) v' ([] : List S46) ∧ Turned gi w w' := by
  have hu24 := Try.underlying24
  have HC := Aside0.mk hC
  have HB := Aside0.mk hw
  subst he
  have HK := Aside0.mk hcheck
  have HM := Aside0.mk hmay
  clear hC hw hcheck hmay
  go_enter Try.func34, Try.ntmps34
  go_wp2_with (first | ((with_reducible refine gate_dst (N := 3) rfl ?_); refine box_event ?hg (N := 3) ?hd (cs := #[.int .i64 ep, .slice A ps.length c]) (t := 24) ?hr ?_; (case hd => rfl); (case hg => rfl); (case hr => first | (go_simp; done) | (go_simp; rfl)); intro g3 hg w1 hbox hb; have L3 := Aside0.mk (show w.heap.size ≤ g3 by omega); have BX3 := Aside0.mk hbox; have HB1 := Aside0.mk hb; clear hb hbox hg) | ((with_reducible refine gate_dst (N := 6) rfl ?_); refine box_event ?hg (N := 6) ?hd (cs := #[.int .i64 0, .slice none 0 0]) (t := 24) ?hr ?_; (case hd => rfl); (case hg => rfl); (case hr => first | (go_simp; done) | (go_simp; rfl)); intro g6 hg w2 hbox hb; have L6 := Aside0.mk (show w1.heap.size ≤ g6 by omega); have BX6 := Aside0.mk hbox; have HB2 := Aside0.mk hb; have BX3b := Aside0.mk (blk_below BX3.out hb); clear hb hbox hg; have hc3_0 : w2.cell? ⟨g3, 0, none⟩ = some (.int .i64 ep) := (blk_cell BX3b.out 0).trans rfl; have hc3_1 : w2.cell? ⟨g3, 1, none⟩ = some (.slice A ps.length c) := (blk_cell BX3b.out 1).trans rfl) | ((with_reducible refine gate_callee (f := 17) rfl ?_); refine goesL_ (some 10) rfl rfl Try.func17 (by kernel_rfl) rfl #[.agg #[.int .i64 ep, .slice A ps.length c]] rfl (by (try simp only [List.map_toArray, List.map_cons, List.map_nil]); first | done | rfl) ?_; (with_reducible refine (atlas_Check.calls kc ep _ _ ps 0 _ ?side1 ?side2 HK.out).mono ?_); (case side1 => exact Kd.C_below HC.out (below_step (below_step HB.out HB1.out) HB2.out)); (case side2 => exact hc); rintro e w3 ⟨rfl, hb⟩; refine ⟨_, rfl, ?_⟩; have HB3 := Aside0.mk hb; have BX3c := Aside0.mk (blk_below BX3b.out hb); have BX6c := Aside0.mk (blk_below BX6.out hb); clear hc3_0 hc3_1 hb; have hc3_0 : w3.cell? ⟨g3, 0, none⟩ = some (.int .i64 ep) := (blk_cell BX3c.out 0).trans rfl; have hc3_1 : w3.cell? ⟨g3, 1, none⟩ = some (.slice A ps.length c) := (blk_cell BX3c.out 1).trans rfl) | ((with_reducible refine gate_dst (N := 19) rfl ?_); refine goesLC (some 19) rfl rfl hf1 hn1 hb1 #[.agg #[.int .i64 ep, .slice A ps.length c]] cap1 rfl (by (try simp only [List.map_toArray, List.map_cons, List.map_nil]); first | done | rfl) rfl ?_; (with_reducible refine (HM.out _ ?side3).mono ?_); (case side3 => exact below_step (below_step HB1.out HB2.out) HB3.out); rintro e w4 ⟨rfl, ht, hj⟩; refine ⟨_, rfl, ?_⟩; have HT4 := Aside0.mk ht; have HB4 := Aside0.mk (ht.below (below_step (below_step (below_step HB.out HB1.out) HB2.out) HB3.out) hgi (by have := HB.out.size; have := HB1.out.size; have := HB2.out.size; have := HB3.out.size; omega)); have HJ4 := Aside0.mk hj; have BX3d := Aside0.mk (ht.blk BX3c.out (by have := L3.out; omega)); have BX6d := Aside0.mk (ht.blk BX6c.out (by have := L3.out; have := L6.out; have := HB1.out.size; omega)); clear hc3_0 hc3_1 ht hj; have hc6_0 : w4.cell? ⟨g6, 0, none⟩ = some (.int .i64 0) := (blk_cell BX6d.out 0).trans rfl; have hc6_1 : w4.cell? ⟨g6, 1, none⟩ = some (.slice none 0 0) := (blk_cell BX6d.out 1).trans rfl; have hf6_0 := blk_frozen BX6d.out 0; have hf6_1 := blk_frozen BX6d.out 1; have hc3_0 : w4.cell? ⟨g3, 0, none⟩ = some (.int .i64 ep) := (blk_cell BX3d.out 0).trans rfl; have hc3_1 : w4.cell? ⟨g3, 1, none⟩ = some (.slice A ps.length c) := (blk_cell BX3d.out 1).trans rfl))
  refine bodyPost_ret (results_ct rfl _ _ g6 24 #[.int .i64 0, .slice none 0 0] (0, 0) _ rfl (by refine blk_put (cs := #[.int .i64 0, .slice none 0 0]) ?_ 1 _ rfl; refine blk_put (cs := #[.int .i64 0, .slice none 0 0]) ?_ 0 _ rfl; exact BX6d.out) Try.underlying24 rfl (by kernel_rfl)) rfl ?_
  have hl6 : w.heap.size ≤ g6 := by have := L6.out; have := HB1.out.size; omega
  have h1 : Turned gi w w4 := (Turned.of_below (below_step (below_step HB1.out HB2.out) HB3.out)).trans HT4.out
  exact ⟨_, rfl, Kd.R_nil _ _ _ _ _, (h1.set (.inl hl6) _).set (.inl hl6) _⟩
set_option maxHeartbeats 4000000 in
set_option maxRecDepth 100000 in
theorem next_m (w0 w : World) (hw : Below w0.heap.size w0 w) (ep : Int) (A : Option Addr) (c : Nat) (ps : List S46) (hC : Kd.C k46 w0 A ps.length ps) (hc : ps.length ≤ c) (kc : Nat) (ec : Int) (hcheck : atlas_Check.f kc ep ps = some ec) (he : ec = 0) (hm : ep = 1099511627776)
    (f1 f2 : FuncId) (fn1 : Func) (hf1 : Try.prog.funcs[f1]? = some fn1) (hn1 : (fn1.name == "runtime.NumGoroutine") = false) (hb1 : fn1.body.isSome = true) (cap1 cap2 : Array Value) (gi : Nat) (hgi : w0.heap.size ≤ gi) (hgl : gi < w.heap.size) (J : World → Prop)
    (hmay : ∀ w', Below w.heap.size w w' → Calls Try.prog f1 (#[.agg #[.int .i64 ep, .slice A ps.length c]] ++ cap1) w' fun e w'' => e = .returned (.bool true) ∧ Turned gi w' w'' ∧ J w'') :
    Calls Try.prog 34 #[.agg #[.int .i64 ep, .slice A ps.length c], .func (.func f1) #[] cap1, .func (.func f2) #[] cap2] w fun e w' => ∃ v', e = .returned (.tuple #[.agg #[.int .i64 0, v'], .int .i64 4]) ∧ Kd.R k46 46 w' w.heap.size (fun _ => True) v' ([] : List S46) ∧ Turned gi w w' := by
  have hu24 := Try.underlying24
  have HC := Aside0.mk hC
  have HB := Aside0.mk hw
  subst he
  have HK := Aside0.mk hcheck
  have HM := Aside0.mk hmay
  have q1 : (ep == 1099511627776) = true := beq_iff_eq.2 hm
  clear hC hw hcheck hmay hm
  go_enter Try.func34, Try.ntmps34
  go_wp2_with (first | ((with_reducible refine gate_dst (N := 3) rfl ?_); refine box_event ?hg (N := 3) ?hd (cs := #[.int .i64 ep, .slice A ps.length c]) (t := 24) ?hr ?_; (case hd => rfl); (case hg => rfl); (case hr => first | (go_simp; done) | (go_simp; rfl)); intro g3 hg w1 hbox hb; have L3 := Aside0.mk (show w.heap.size ≤ g3 by omega); have BX3 := Aside0.mk hbox; have HB1 := Aside0.mk hb; clear hb hbox hg) | ((with_reducible refine gate_dst (N := 6) rfl ?_); refine box_event ?hg (N := 6) ?hd (cs := #[.int .i64 0, .slice none 0 0]) (t := 24) ?hr ?_; (case hd => rfl); (case hg => rfl); (case hr => first | (go_simp; done) | (go_simp; rfl)); intro g6 hg w2 hbox hb; have L6 := Aside0.mk (show w1.heap.size ≤ g6 by omega); have BX6 := Aside0.mk hbox; have HB2 := Aside0.mk hb; have BX3b := Aside0.mk (blk_below BX3.out hb); clear hb hbox hg; have hc3_0 : w2.cell? ⟨g3, 0, none⟩ = some (.int .i64 ep) := (blk_cell BX3b.out 0).trans rfl; have hc3_1 : w2.cell? ⟨g3, 1, none⟩ = some (.slice A ps.length c) := (blk_cell BX3b.out 1).trans rfl) | ((with_reducible refine gate_callee (f := 17) rfl ?_); refine goesL_ (some 10) rfl rfl Try.func17 (by kernel_rfl) rfl #[.agg #[.int .i64 ep, .slice A ps.length c]] rfl (by (try simp only [List.map_toArray, List.map_cons, List.map_nil]); first | done | rfl) ?_; (with_reducible refine (atlas_Check.calls kc ep _ _ ps 0 _ ?side1 ?side2 HK.out).mono ?_); (case side1 => exact Kd.C_below HC.out (below_step (below_step HB.out HB1.out) HB2.out)); (case side2 => exact hc); rintro e w3 ⟨rfl, hb⟩; refine ⟨_, rfl, ?_⟩; have HB3 := Aside0.mk hb; have BX3c := Aside0.mk (blk_below BX3b.out hb); have BX6c := Aside0.mk (blk_below BX6.out hb); clear hc3_0 hc3_1 hb; have hc3_0 : w3.cell? ⟨g3, 0, none⟩ = some (.int .i64 ep) := (blk_cell BX3c.out 0).trans rfl; have hc3_1 : w3.cell? ⟨g3, 1, none⟩ = some (.slice A ps.length c) := (blk_cell BX3c.out 1).trans rfl) | ((with_reducible refine gate_dst (N := 19) rfl ?_); refine goesLC (some 19) rfl rfl hf1 hn1 hb1 #[.agg #[.int .i64 ep, .slice A ps.length c]] cap1 rfl (by (try simp only [List.map_toArray, List.map_cons, List.map_nil]); first | done | rfl) rfl ?_; (with_reducible refine (HM.out _ ?side3).mono ?_); (case side3 => exact below_step (below_step HB1.out HB2.out) HB3.out); rintro e w4 ⟨rfl, ht, hj⟩; refine ⟨_, rfl, ?_⟩; have HT4 := Aside0.mk ht; have HB4 := Aside0.mk (ht.below (below_step (below_step (below_step HB.out HB1.out) HB2.out) HB3.out) hgi (by have := HB.out.size; have := HB1.out.size; have := HB2.out.size; have := HB3.out.size; omega)); have HJ4 := Aside0.mk hj; have BX3d := Aside0.mk (ht.blk BX3c.out (by have := L3.out; omega)); have BX6d := Aside0.mk (ht.blk BX6c.out (by have := L3.out; have := L6.out; have := HB1.out.size; omega)); clear hc3_0 hc3_1 ht hj; have hc6_0 : w4.cell? ⟨g6, 0, none⟩ = some (.int .i64 0) := (blk_cell BX6d.out 0).trans rfl; have hc6_1 : w4.cell? ⟨g6, 1, none⟩ = some (.slice none 0 0) := (blk_cell BX6d.out 1).trans rfl; have hf6_0 := blk_frozen BX6d.out 0; have hf6_1 := blk_frozen BX6d.out 1; have hc3_0 : w4.cell? ⟨g3, 0, none⟩ = some (.int .i64 ep) := (blk_cell BX3d.out 0).trans rfl; have hc3_1 : w4.cell? ⟨g3, 1, none⟩ = some (.slice A ps.length c) := (blk_cell BX3d.out 1).trans rfl))
  refine bodyPost_ret (results_ct rfl _ _ g6 24 #[.int .i64 0, .slice none 0 0] (0, 0) _ rfl (by refine blk_put (cs := #[.int .i64 0, .slice none 0 0]) ?_ 1 _ rfl; refine blk_put (cs := #[.int .i64 0, .slice none 0 0]) ?_ 0 _ rfl; exact BX6d.out) Try.underlying24 rfl (by kernel_rfl)) rfl ?_
  have hl6 : w.heap.size ≤ g6 := by have := L6.out; have := HB1.out.size; omega
  have h1 : Turned gi w w4 := (Turned.of_below (below_step (below_step HB1.out HB2.out) HB3.out)).trans HT4.out
  exact ⟨_, rfl, Kd.R_nil _ _ _ _ _, (h1.set (.inl hl6) _).set (.inl hl6) _⟩
end Go.Proofs.Ytmgjccpolkhhhaa.If
namespace Go.Proofs.Ytmgjccpolkhhhaa.Ig
open Go.Shelf Go.RowKit Go.Lib Go.Proofs.Ytmgjccpolkhhhaa.PAll Go.Proofs.YtmgjccpolkhhhaaW.PrintWords Go.Proofs.YtmgjccpolkhhhaaW.PrintLast Go.Proofs.Ytmgjccpolkhhhaa.Hl Go.Proofs.Ytmgjccpolkhhhaa.Ic Go.Proofs.Ytmgjccpolkhhhaa.In Go.Proofs.Ytmgjccpolkhhhaa.Is Go.Proofs.Ytmgjccpolkhhhaa.Id Go.Proofs.Ytmgjccpolkhhhaa.If
set_option linter.unusedSimpArgs false
set_option linter.unusedVariables false
theorem turned_of {g : Nat} {w w1 w2 : World} (hb : Below w.heap.size w w1) (h2 : Below w1.heap.size w1 w2) (v : Value) : Turned g w (w2.setCell ⟨g, 0, none⟩ v) := by
  have h := below_step hb h2
  exact ⟨h.os, h.tape, h.output, by have := h.size; simpa [World.setCell] using this, fun k hk hne => (Below.heap_setCell _ _ _ _ hne).trans (h.block k hk)⟩
theorem turned_drewN {g : Nat} {w w2 : World} (h : Turned g w w2) (n : Nat) : Turned g w (w2.drewN n) := ⟨h.os, h.tape, h.output, h.size, h.block⟩
def mayS (a : ByteArray) (is : Bool) (n : Nat) : Bool := decide (¬ a.toList = []) && decide ((a.size : Int) ≤ 100) && !is && decide ((n : Int) < 8)
set_option maxHeartbeats 4000000 in
set_option maxRecDepth 100000 in
theorem may_split (w : World) (ep : Int) (A : Option Addr) (c : Nat) (ps : List S46) (hC : Kd.C k46 w A ps.length ps) (hc : ps.length ≤ c) (k : Nat) (a : ByteArray) (i : Int) (is : Bool) (hseek : atlas_seek.f k ep ps a = some (i, is)) (ga gi : Nat) (ha : w.heap[ga]? = some (.cells #[.string a] 9 (0, 0))) (hi : w.heap[gi]? = some (.cells #[.int .i64 0] 3 (0, 0))) :
    Calls Try.prog 35 #[.agg #[.int .i64 ep, .slice A ps.length c], .pointer (some ⟨ga, 0, none⟩), .pointer (some ⟨gi, 0, none⟩)] w fun e w' => e = .returned (.bool (mayS a is ps.length)) ∧ Turned gi w w' ∧ w'.heap[gi]? = some (.cells #[.int .i64 i] 3 (0, 0)) := by
  have hu24 := Try.underlying24
  have HC := Aside0.mk hC
  have HA := Aside0.mk ha
  have HI := Aside0.mk hi
  have HS := Aside0.mk hseek
  have hne : ga ≠ gi := blk_ne ha hi (by decide)
  clear hC ha hi hseek
  go_enter Try.func35, Try.ntmps35
  go_wp2_with (first | ((with_reducible refine gate_dst (N := 3) rfl ?_); refine box_event ?hg (N := 3) ?hd (cs := #[.int .i64 ep, .slice A ps.length c]) (t := 24) ?hr ?_; (case hd => rfl); (case hg => rfl); (case hr => first | (go_simp; done) | (go_simp; rfl)); intro g3 hg w1 hbox hb; have L3 := Aside0.mk (show w.heap.size ≤ g3 by omega); have BX3 := Aside0.mk hbox; have HB1 := Aside0.mk hb; have HA1 := Aside0.mk (blk_below HA.out hb); have HI1 := Aside0.mk (blk_below HI.out hb); clear hb hbox hg; have hc3_0 : w1.cell? ⟨g3, 0, none⟩ = some (.int .i64 ep) := (blk_cell BX3.out 0).trans rfl; have hc3_1 : w1.cell? ⟨g3, 1, none⟩ = some (.slice A ps.length c) := (blk_cell BX3.out 1).trans rfl; have hca : w1.cell? ⟨ga, 0, none⟩ = some (.string a) := (blk_cell HA1.out 0).trans rfl) | ((with_reducible refine gate_callee (f := 29) rfl ?_); refine goesL_ (some 9) rfl rfl Try.func29 (by kernel_rfl) rfl #[.agg #[.int .i64 ep, .slice A ps.length c], .string a] rfl (by (try simp only [List.map_toArray, List.map_cons, List.map_nil]); first | done | rfl) ?_; (with_reducible refine (atlas_seek.calls k ep _ _ ps a i is _ ?side1 ?side2 HS.out).mono ?_); (case side1 => exact Kd.C_below HC.out HB1.out); (case side2 => exact hc); rintro e w3 ⟨rfl, hb⟩; refine ⟨_, rfl, ?_⟩; have HB3 := Aside0.mk hb; have BX3c := Aside0.mk (blk_below BX3.out hb); have HA3 := Aside0.mk (blk_below HA1.out hb); have HI3 := Aside0.mk (blk_below HI1.out hb); clear hc3_0 hc3_1 hca hb; have hc3_0 : w3.cell? ⟨g3, 0, none⟩ = some (.int .i64 ep) := (blk_cell BX3c.out 0).trans rfl; have hc3_1 : w3.cell? ⟨g3, 1, none⟩ = some (.slice A ps.length c) := (blk_cell BX3c.out 1).trans rfl; have hca : w3.cell? ⟨ga, 0, none⟩ = some (.string a) := (blk_cell HA3.out 0).trans rfl; have hci : w3.cell? ⟨gi, 0, none⟩ = some (.int .i64 0) := (blk_cell HI3.out 0).trans rfl; have hfi := blk_frozen HI3.out 0; have hg3 : g3 ≠ gi := by have := L3.out; have := blk_lt HI.out; omega))
  all_goals go_ret
  all_goals refine ⟨?_, turned_of HB1.out HB3.out _, blk_put HI3.out 0 _ rfl⟩
  all_goals (congr 2; first | (simp [mayS, *]; done) | (simp [mayS, *]; intros; omega) | (rename_i hz; simp only [mayS, hz]; simp))
def mayM (ps : List S46) (is : Bool) (i : Int) : Bool := is && decide (0 < i) && decide ((rd_T46 ps i).f1 = (rd_T46 ps (i - 1)).f1)
set_option maxHeartbeats 4000000 in
set_option maxRecDepth 100000 in
theorem may_merge (w0 w : World) (hw : Below w0.heap.size w0 w) (ep : Int) (A : Option Addr) (c : Nat) (ps : List S46) (hC : Kd.C k46 w0 A ps.length ps) (hc : ps.length ≤ c) (k : Nat) (a : ByteArray) (i : Int) (is : Bool) (hseek : atlas_seek.f k ep ps a = some (i, is)) (ga gi : Nat) (ha : w.heap[ga]? = some (.cells #[.string a] 9 (0, 0))) (hi : w.heap[gi]? = some (.cells #[.int .i64 0] 3 (0, 0))) (hgi : w0.heap.size ≤ gi) (hin : is = true → 0 < i → i < ps.length) (hl : ps.length ≤ 8) :
    Calls Try.prog 38 #[.agg #[.int .i64 ep, .slice A ps.length c], .pointer (some ⟨ga, 0, none⟩), .pointer (some ⟨gi, 0, none⟩)] w fun e w' => e = .returned (.bool (mayM ps is i)) ∧ Turned gi w w' ∧ w'.heap[gi]? = some (.cells #[.int .i64 i] 3 (0, 0)) := by
  have hu24 := Try.underlying24
  have hu46 := Try.underlying46
  have HC := Aside0.mk hC
  have HA := Aside0.mk ha
  have HI := Aside0.mk hi
  have HS := Aside0.mk hseek
  have HW := Aside0.mk hw
  have mixed : Try.prog.follows Departure.mixedOrders = true := by kernel_rfl
  have hne : ga ≠ gi := blk_ne ha hi (by decide)
  by_cases hd : is = true ∧ 0 < i
  · obtain ⟨his, hi0⟩ := hd
    have hi1 := hin his hi0
    obtain ⟨ad, e, hx0, hx1⟩ := at_T46 hC i (by omega) hi1
    obtain ⟨ad', e', hy0, hy1⟩ := at_T46 hC (i - 1) (by omega) (by omega)
    obtain rfl : ad = ad' := by rw [e] at e'; exact Option.some.inj e'
    subst his
    have HE := Aside0.mk e
    have HX := Aside0.mk (⟨hx1, hy1⟩ : _ ∧ _)
    have q1 : decide (0 < i) = true := decide_eq_true hi0
    have q2 : (0 ≤ i) = True := eq_true (by omega)
    have q3 : (i < (ps.length : Int)) = True := eq_true hi1
    have q4 : (1 ≤ i) = True := eq_true (by omega)
    have q5 : (i - 1 < (ps.length : Int)) = True := eq_true (by omega)
    have q6 : (0 ≤ i - 1) = True := eq_true (by omega)
    obtain ⟨q7, q8⟩ : wrap64 (i - 1) = i - 1 ∧ IntKind.i64.wrap (i - 1) = i - 1 := ⟨Go.IntWalk.wrap64_in _ (by omega), by rw [IntKind.wrap_i64]; omega⟩
    clear hC ha hi hseek hw hx0 hx1 hy0 hy1 hin e' e hi0 hi1
    go_enter Try.func38, Try.ntmps38
    go_upto_region 3 with (first | ((with_reducible refine gate_dst (N := 3) rfl ?_); refine box_event ?hg (N := 3) ?hd (cs := #[.int .i64 ep, .slice A ps.length c]) (t := 24) ?hr ?_; (case hd => rfl); (case hg => rfl); (case hr => first | (go_simp; done) | (go_simp; rfl)); intro g3 hg w1 hbox hb; have L3 := Aside0.mk (show w.heap.size ≤ g3 by omega); have BX3 := Aside0.mk hbox; have HB1 := Aside0.mk hb; have HA1 := Aside0.mk (blk_below HA.out hb); have HI1 := Aside0.mk (blk_below HI.out hb); clear hb hbox hg; have hc3_0 : w1.cell? ⟨g3, 0, none⟩ = some (.int .i64 ep) := (blk_cell BX3.out 0).trans rfl; have hc3_1 : w1.cell? ⟨g3, 1, none⟩ = some (.slice A ps.length c) := (blk_cell BX3.out 1).trans rfl; have hca : w1.cell? ⟨ga, 0, none⟩ = some (.string a) := (blk_cell HA1.out 0).trans rfl) | ((with_reducible refine gate_callee (f := 29) rfl ?_); refine goesL_ (some 9) rfl rfl Try.func29 (by kernel_rfl) rfl #[.agg #[.int .i64 ep, .slice A ps.length c], .string a] rfl (by (try simp only [List.map_toArray, List.map_cons, List.map_nil]); first | done | rfl) ?_; (with_reducible refine (atlas_seek.calls k ep _ _ ps a i true _ ?side1 ?side2 HS.out).mono ?_); (case side1 => exact Kd.C_below HC.out (below_step HW.out HB1.out)); (case side2 => exact hc); rintro e w3 ⟨rfl, hb⟩; refine ⟨_, rfl, ?_⟩; have HB3 := Aside0.mk hb; have BX3c := Aside0.mk (blk_below BX3.out hb); have HA3 := Aside0.mk (blk_below HA1.out hb); have HI3 := Aside0.mk (blk_below HI1.out hb); clear hc3_0 hc3_1 hca hb; have hc3_0 : w3.cell? ⟨g3, 0, none⟩ = some (.int .i64 ep) := (blk_cell BX3c.out 0).trans rfl; have hc3_1 : w3.cell? ⟨g3, 1, none⟩ = some (.slice A ps.length c) := (blk_cell BX3c.out 1).trans rfl; have hca : w3.cell? ⟨ga, 0, none⟩ = some (.string a) := (blk_cell HA3.out 0).trans rfl; have hci : w3.cell? ⟨gi, 0, none⟩ = some (.int .i64 0) := (blk_cell HI3.out 0).trans rfl; have hfi := blk_frozen HI3.out 0; have hg3 : g3 ≠ gi := by have := L3.out; have := blk_lt HI.out; omega))
    have e := HE.out
    clear HE
    subst e
    have HBB := Aside0.mk ((below_step (below_step HW.out HB1.out) HB3.out).setCell (p := ⟨gi, 0, none⟩) hgi (.int .i64 i))
    have hz1 := (HBB.out.cell (World.block_lt_of_cell? w0 _ HX.out.1)).trans HX.out.1
    have hz2 := (HBB.out.cell (World.block_lt_of_cell? w0 _ HX.out.2)).trans HX.out.2
    rw [show (i - 1).toNat = i.toNat - 1 by omega] at hz2
    have hzi : (w3.setCell ⟨gi, 0, none⟩ (.int .i64 i)).cell? ⟨gi, 0, none⟩ = some (.int .i64 i) := World.cell?_setCell_same _ _ _ hci
    go_quiet (fail)
    go_wp2
    go_ret
    refine ⟨?_, turned_drewN (turned_of HB1.out HB3.out _) _, blk_drewN (blk_put HI3.out 0 _ rfl) _⟩
    congr 2
    first | (simp [mayM, *]; done) | (unfold mayM; rw [q1]; simp; rfl)
  · have hd' : is = false ∨ (is = true ∧ ¬ 0 < i) := by cases is <;> simp_all
    have q0 : mayM ps is i = false := by rcases hd' with h | ⟨h1, h2⟩ <;> simp [mayM, *]
    have HM := Aside0.mk q0
    clear q0 hd hin
    rcases hd' with his | ⟨his, hi0⟩
    · subst his
      clear hC ha hi hseek hw
      go_enter Try.func38, Try.ntmps38
      go_upto_region 3 with (first | ((with_reducible refine gate_dst (N := 3) rfl ?_); refine box_event ?hg (N := 3) ?hd (cs := #[.int .i64 ep, .slice A ps.length c]) (t := 24) ?hr ?_; (case hd => rfl); (case hg => rfl); (case hr => first | (go_simp; done) | (go_simp; rfl)); intro g3 hg w1 hbox hb; have L3 := Aside0.mk (show w.heap.size ≤ g3 by omega); have BX3 := Aside0.mk hbox; have HB1 := Aside0.mk hb; have HA1 := Aside0.mk (blk_below HA.out hb); have HI1 := Aside0.mk (blk_below HI.out hb); clear hb hbox hg; have hc3_0 : w1.cell? ⟨g3, 0, none⟩ = some (.int .i64 ep) := (blk_cell BX3.out 0).trans rfl; have hc3_1 : w1.cell? ⟨g3, 1, none⟩ = some (.slice A ps.length c) := (blk_cell BX3.out 1).trans rfl; have hca : w1.cell? ⟨ga, 0, none⟩ = some (.string a) := (blk_cell HA1.out 0).trans rfl) | ((with_reducible refine gate_callee (f := 29) rfl ?_); refine goesL_ (some 9) rfl rfl Try.func29 (by kernel_rfl) rfl #[.agg #[.int .i64 ep, .slice A ps.length c], .string a] rfl (by (try simp only [List.map_toArray, List.map_cons, List.map_nil]); first | done | rfl) ?_; (with_reducible refine (atlas_seek.calls k ep _ _ ps a i false _ ?side1 ?side2 HS.out).mono ?_); (case side1 => exact Kd.C_below HC.out (below_step HW.out HB1.out)); (case side2 => exact hc); rintro e w3 ⟨rfl, hb⟩; refine ⟨_, rfl, ?_⟩; have HB3 := Aside0.mk hb; have BX3c := Aside0.mk (blk_below BX3.out hb); have HA3 := Aside0.mk (blk_below HA1.out hb); have HI3 := Aside0.mk (blk_below HI1.out hb); clear hc3_0 hc3_1 hca hb; have hc3_0 : w3.cell? ⟨g3, 0, none⟩ = some (.int .i64 ep) := (blk_cell BX3c.out 0).trans rfl; have hc3_1 : w3.cell? ⟨g3, 1, none⟩ = some (.slice A ps.length c) := (blk_cell BX3c.out 1).trans rfl; have hca : w3.cell? ⟨ga, 0, none⟩ = some (.string a) := (blk_cell HA3.out 0).trans rfl; have hci : w3.cell? ⟨gi, 0, none⟩ = some (.int .i64 0) := (blk_cell HI3.out 0).trans rfl; have hfi := blk_frozen HI3.out 0; have hg3 : g3 ≠ gi := by have := L3.out; have := blk_lt HI.out; omega))
      have hzi : (w3.setCell ⟨gi, 0, none⟩ (.int .i64 i)).cell? ⟨gi, 0, none⟩ = some (.int .i64 i) := World.cell?_setCell_same _ _ _ hci
      go_quiet (fail)
      go_wp2
      go_ret
      exact ⟨by rw [HM.out]; rfl, turned_drewN (turned_of HB1.out HB3.out _) _, blk_drewN (blk_put HI3.out 0 _ rfl) _⟩
    · subst his
      have q1 : decide (0 < i) = false := decide_eq_false hi0
      clear hC ha hi hseek hw hi0
      go_enter Try.func38, Try.ntmps38
      go_upto_region 3 with (first | ((with_reducible refine gate_dst (N := 3) rfl ?_); refine box_event ?hg (N := 3) ?hd (cs := #[.int .i64 ep, .slice A ps.length c]) (t := 24) ?hr ?_; (case hd => rfl); (case hg => rfl); (case hr => first | (go_simp; done) | (go_simp; rfl)); intro g3 hg w1 hbox hb; have L3 := Aside0.mk (show w.heap.size ≤ g3 by omega); have BX3 := Aside0.mk hbox; have HB1 := Aside0.mk hb; have HA1 := Aside0.mk (blk_below HA.out hb); have HI1 := Aside0.mk (blk_below HI.out hb); clear hb hbox hg; have hc3_0 : w1.cell? ⟨g3, 0, none⟩ = some (.int .i64 ep) := (blk_cell BX3.out 0).trans rfl; have hc3_1 : w1.cell? ⟨g3, 1, none⟩ = some (.slice A ps.length c) := (blk_cell BX3.out 1).trans rfl; have hca : w1.cell? ⟨ga, 0, none⟩ = some (.string a) := (blk_cell HA1.out 0).trans rfl) | ((with_reducible refine gate_callee (f := 29) rfl ?_); refine goesL_ (some 9) rfl rfl Try.func29 (by kernel_rfl) rfl #[.agg #[.int .i64 ep, .slice A ps.length c], .string a] rfl (by (try simp only [List.map_toArray, List.map_cons, List.map_nil]); first | done | rfl) ?_; (with_reducible refine (atlas_seek.calls k ep _ _ ps a i true _ ?side1 ?side2 HS.out).mono ?_); (case side1 => exact Kd.C_below HC.out (below_step HW.out HB1.out)); (case side2 => exact hc); rintro e w3 ⟨rfl, hb⟩; refine ⟨_, rfl, ?_⟩; have HB3 := Aside0.mk hb; have BX3c := Aside0.mk (blk_below BX3.out hb); have HA3 := Aside0.mk (blk_below HA1.out hb); have HI3 := Aside0.mk (blk_below HI1.out hb); clear hc3_0 hc3_1 hca hb; have hc3_0 : w3.cell? ⟨g3, 0, none⟩ = some (.int .i64 ep) := (blk_cell BX3c.out 0).trans rfl; have hc3_1 : w3.cell? ⟨g3, 1, none⟩ = some (.slice A ps.length c) := (blk_cell BX3c.out 1).trans rfl; have hca : w3.cell? ⟨ga, 0, none⟩ = some (.string a) := (blk_cell HA3.out 0).trans rfl; have hci : w3.cell? ⟨gi, 0, none⟩ = some (.int .i64 0) := (blk_cell HI3.out 0).trans rfl; have hfi := blk_frozen HI3.out 0; have hg3 : g3 ≠ gi := by have := L3.out; have := blk_lt HI.out; omega))
      have hzi : (w3.setCell ⟨gi, 0, none⟩ (.int .i64 i)).cell? ⟨gi, 0, none⟩ = some (.int .i64 i) := World.cell?_setCell_same _ _ _ hci
      go_quiet (fail)
      go_wp2
      go_ret
      exact ⟨by rw [HM.out]; rfl, turned_drewN (turned_of HB1.out HB3.out _) _, blk_drewN (blk_put HI3.out 0 _ rfl) _⟩
set_option maxHeartbeats 4000000 in
set_option maxRecDepth 100000 in
theorem merge2 (w : World) (base : Nat) (v : Value) (xs : List S46) (hS : Kd.R k46 46 w base (fun _ => True) v xs) (gi i : Nat) (hi : w.heap[gi]? = some (.cells #[.int .i64 (i : Int)] 3 (0, 0))) (hin : i < xs.length) (hl : xs.length ≤ 8) :
    Calls Try.prog 39 #[v, .pointer (some ⟨gi, 0, none⟩)] w fun e w' => ∃ v', e = .returned v' ∧ Kd.R k46 46 w' base (fun _ => True) v' (xs.take i ++ xs.drop (i + 1)) ∧ Below base w w' := by
  have HI := Aside0.mk (delete_part w base v xs hS i hin (by omega))
  obtain ⟨A, c, rfl⟩ := Kd.R_slice hS
  have hci : w.cell? ⟨gi, 0, none⟩ = some (.int .i64 (i : Int)) := (blk_cell hi 0).trans rfl
  obtain ⟨q7, q8⟩ : wrap64 ((i : Int) + 1) = (i : Int) + 1 ∧ IntKind.i64.wrap ((i : Int) + 1) = (i : Int) + 1 := ⟨Go.IntWalk.wrap64_in _ (by omega), by rw [IntKind.wrap_i64]; omega⟩
  clear hS hin hl hi
  go_enter Try.func39, Try.ntmps39
  go_wp2_with (first | ((with_reducible refine gate_callee (f := 40) rfl ?_); refine goesL_ (some 8) rfl rfl Try.func40 (by kernel_rfl) rfl #[.slice A xs.length c, .int .i64 (i : Int), .int .i64 ((i : Int) + 1)] rfl (by (try simp only [List.map_toArray, List.map_cons, List.map_nil]); first | done | rfl) ?_; (with_reducible refine HI.out.mono ?_); rintro e w3 ⟨v', rfl, hR, hB⟩; refine ⟨_, rfl, ?_⟩; have HR := Aside0.mk hR; have HB := Aside0.mk hB; clear hR hB))
  go_ret
  exact ⟨_, rfl, HR.out, HB.out⟩
theorem rowP_set : ∀ (xs : List S46) (i : Nat) (n : Int), i < xs.length → (rowP xs).set (i * 2 + 1) (.int .i64 n) = rowP (xs.set i ⟨(rd_T46 xs i).f0, n⟩)
  | [], i, n, h => by simp at h
  | x :: t, 0, n, h => by simp [rowP, cellsP, rd_T46]
  | x :: t, i + 1, n, h => by
    have ih := rowP_set t i n (by simpa using h)
    have e : rd_T46 (x :: t) ((i + 1 : Nat) : Int) = rd_T46 t (i : Int) := by
      unfold rd_T46
      rw [show ((i + 1 : Nat) : Int).toNat = i + 1 by omega, show ((i : Nat) : Int).toNat = i by omega]
      rfl
    rw [e, show (i + 1) * 2 + 1 = i * 2 + 1 + 1 + 1 by omega]
    simp only [rowP, List.flatMap_cons, cellsP, List.set_cons_succ, List.cons_append, List.nil_append] at *
    rw [ih]
theorem take_set_lt {α : Type} (l : List α) (i n : Nat) (v : α) (h : i < n) : (l.set i v).take n = (l.take n).set i v := by
  rw [List.take_set]
set_option maxHeartbeats 4000000 in
set_option maxRecDepth 100000 in
theorem move2 (w : World) (base : Nat) (v : Value) (xs : List S46) (hS : Kd.R k46 46 w base (fun _ => True) v xs) (gn gi i : Nat) (n : Int) (hn : w.heap[gn]? = some (.cells #[.int .i64 n] 3 (0, 0))) (hi : w.heap[gi]? = some (.cells #[.int .i64 (i : Int)] 3 (0, 0))) (hin : i < xs.length) (hl : xs.length ≤ 8) (hb : base ≤ w.heap.size) :
    Calls Try.prog 42 #[v, .pointer (some ⟨gn, 0, none⟩), .pointer (some ⟨gi, 0, none⟩)] w fun e w' => ∃ v', e = .returned v' ∧ Kd.R k46 46 w' base (fun _ => True) v' (xs.set i ⟨(rd_T46 xs i).f0, n⟩) ∧ Below base w w' := by
  rcases R_cells hS with ⟨_, h⟩ | ⟨g, c, cur, rfl, _, hg, hh, hc, hm, hs, ht⟩
  · subst h; simp at hin
  · have hx := row_cell hh 0 (rowP xs) (by rw [List.drop_zero, rowP_len]; exact ht) (i * 2 + 1) (.int .i64 (rd_T46 xs i).f1) (by
      rw [show rowP xs = rowP (xs.take i) ++ rowP (xs.drop i) by rw [← rowP_app, List.take_append_drop], List.getElem?_append_right (by rw [rowP_len, List.length_take]; omega), rowP_len, List.length_take, Nat.min_eq_left (by omega), show i * 2 + 1 - i * 2 = 1 by omega, List.drop_eq_getElem_cons hin]
      have e1 : rd_T46 xs (i : Int) = xs[i] := by simp [rd_T46, List.getD_eq_getElem?_getD, List.getElem?_eq_getElem hin]
      rw [e1]
      rfl)
    rw [add_plain] at hx
    have hcn : w.cell? ⟨gn, 0, none⟩ = some (.int .i64 n) := (blk_cell hn 0).trans rfl
    have hci : w.cell? ⟨gi, 0, none⟩ = some (.int .i64 (i : Int)) := (blk_cell hi 0).trans rfl
    have hf := blk_frozen hh (i * 2 + 1)
    have q2 : (0 ≤ (i : Int)) = True := eq_true (by omega)
    have q3 : ((i : Int) < (xs.length : Int)) = True := eq_true (by omega)
    have q4 : (i < xs.length) = True := eq_true (by omega)
    have hu46 := Try.underlying46
    have HR := Aside0.mk (⟨hg, hh, hc, hm, hs, ht, hin⟩ : base ≤ g ∧ w.heap[g]? = some (.cells cur 46 (0, 0)) ∧ xs.length ≤ c ∧ c ≤ maxLen ∧ cur.size = c * 2 ∧ cur.toList.take (xs.length * 2) = rowP xs ∧ i < xs.length)
    clear hS hg hh hc hm hs ht hin hn hi
    go_enter Try.func42, Try.ntmps42
    go_wp2
    go_ret
    obtain ⟨hg, hh, hc, hm, hs, ht, hin⟩ := HR.out
    refine ⟨_, rfl, ?_, (Below.refl _ _).setCell hg _⟩
    have hl' : (xs.set i ⟨(rd_T46 xs i).f0, n⟩).length = xs.length := List.length_set
    have := cells_R (w := w.setCell ⟨g, i * 2 + 1, none⟩ (.int .i64 n)) (base := base) (ok := fun _ => True) (xs := xs.set i ⟨(rd_T46 xs i).f0, n⟩) (c := c) trivial hg (blk_set hh (i * 2 + 1) (.int .i64 n)) (by rw [hl']; exact hc) hm (by simpa using hs) (by rw [hl', ← rowP_set xs i n hin, ← ht, Array.toList_setIfInBounds, take_set_lt _ _ _ _ (by omega)])
    rw [hl'] at this
    exact this
theorem ret_bool {a b : Bool} (h : a = b) : Ending.returned (.bool a) = .returned (.bool b) := by rw [h]
def nodeB (n : Int) : Bool := decide (n ≥ 1) && decide (n ≤ 4)
theorem node_same (n : Int) (w : World) : Calls Try.prog 30 #[.int .i64 n] w fun e w' => e = .returned (.bool (nodeB n)) ∧ w' = w := by
  go_enter Try.func30, Try.ntmps30
  go_wp2
  all_goals go_ret
  all_goals exact ⟨by congr 2; simp [nodeB, *]; try omega, rfl⟩
theorem node_at (n : Int) (b : Bool) (h : nodeB n = b) (w : World) : Calls Try.prog 30 #[.int .i64 n] w fun e w' => e = .returned (.bool b) ∧ w' = w := h ▸ node_same n w
def mayV (ps : List S46) (n i : Int) : Bool := nodeB n && decide (¬ (rd_T46 ps i).f1 = n)
set_option maxHeartbeats 4000000 in
set_option maxRecDepth 100000 in
theorem may_move (w0 w : World) (hw : Below w0.heap.size w0 w) (ep : Int) (A : Option Addr) (c : Nat) (ps : List S46) (hC : Kd.C k46 w0 A ps.length ps) (hc : ps.length ≤ c) (k : Nat) (a : ByteArray) (n i : Int) (hfind : atlas_Find.f k ep ps a = some (i, true)) (ga gi gn : Nat) (ha : w.heap[ga]? = some (.cells #[.string a] 9 (0, 0))) (hi : w.heap[gi]? = some (.cells #[.int .i64 0] 3 (0, 0))) (hn : w.heap[gn]? = some (.cells #[.int .i64 n] 3 (0, 0))) (hni : gn ≠ gi) (hgi : w0.heap.size ≤ gi) (hi0 : 0 ≤ i) (hi1 : i < ps.length) (hl : ps.length ≤ 8) :
    Calls Try.prog 41 #[.agg #[.int .i64 ep, .slice A ps.length c], .pointer (some ⟨ga, 0, none⟩), .pointer (some ⟨gi, 0, none⟩), .pointer (some ⟨gn, 0, none⟩)] w fun e w' => e = .returned (.bool (mayV ps n i)) ∧ Turned gi w w' ∧ w'.heap[gi]? = some (.cells #[.int .i64 i] 3 (0, 0)) := by
  have hu24 := Try.underlying24
  have hu46 := Try.underlying46
  have HC := Aside0.mk hC
  have HA := Aside0.mk ha
  have HI := Aside0.mk hi
  have HN := Aside0.mk hn
  have HS := Aside0.mk hfind
  have HW := Aside0.mk hw
  have mixed : Try.prog.follows Departure.mixedOrders = true := by kernel_rfl
  have hne : ga ≠ gi := blk_ne ha hi (by decide)
  obtain ⟨ad, e, hx0, hx1⟩ := at_T46 hC i (by omega) hi1
  have HE := Aside0.mk e
  have HX := Aside0.mk hx1
  have q2 : (0 ≤ i) = True := eq_true (by omega)
  have q3 : (i < (ps.length : Int)) = True := eq_true hi1
  clear hC ha hi hn hfind hw hx0 hx1 e hi0 hi1
  go_enter Try.func41, Try.ntmps41
  go_upto_region 2 with (first | ((with_reducible refine gate_dst (N := 4) rfl ?_); refine box_event ?hg (N := 4) ?hd (cs := #[.int .i64 ep, .slice A ps.length c]) (t := 24) ?hr ?_; (case hd => rfl); (case hg => rfl); (case hr => first | (go_simp; done) | (go_simp; rfl)); intro g3 hg w1 hbox hb; have L3 := Aside0.mk (show w.heap.size ≤ g3 by omega); have BX3 := Aside0.mk hbox; have HB1 := Aside0.mk hb; have HA1 := Aside0.mk (blk_below HA.out hb); have HI1 := Aside0.mk (blk_below HI.out hb); have HN1 := Aside0.mk (blk_below HN.out hb); clear hb hbox hg; have hc3_0 : w1.cell? ⟨g3, 0, none⟩ = some (.int .i64 ep) := (blk_cell BX3.out 0).trans rfl; have hc3_1 : w1.cell? ⟨g3, 1, none⟩ = some (.slice A ps.length c) := (blk_cell BX3.out 1).trans rfl; have hca : w1.cell? ⟨ga, 0, none⟩ = some (.string a) := (blk_cell HA1.out 0).trans rfl) | ((with_reducible refine gate_callee (f := 11) rfl ?_); refine goesL_ (some 9) rfl rfl Try.func11 (by kernel_rfl) rfl #[.agg #[.int .i64 ep, .slice A ps.length c], .string a] rfl (by (try simp only [List.map_toArray, List.map_cons, List.map_nil]); first | done | rfl) ?_; (with_reducible refine (atlas_Find.calls k ep _ _ ps a i true _ ?side1 ?side2 HS.out).mono ?_); (case side1 => exact Kd.C_below HC.out (below_step HW.out HB1.out)); (case side2 => exact hc); rintro e w3 ⟨rfl, hb⟩; refine ⟨_, rfl, ?_⟩; have HB3 := Aside0.mk hb; have BX3c := Aside0.mk (blk_below BX3.out hb); have HA3 := Aside0.mk (blk_below HA1.out hb); have HI3 := Aside0.mk (blk_below HI1.out hb); have HN3 := Aside0.mk (blk_below HN1.out hb); clear hc3_0 hc3_1 hca hb; have hc3_0 : w3.cell? ⟨g3, 0, none⟩ = some (.int .i64 ep) := (blk_cell BX3c.out 0).trans rfl; have hc3_1 : w3.cell? ⟨g3, 1, none⟩ = some (.slice A ps.length c) := (blk_cell BX3c.out 1).trans rfl; have hca : w3.cell? ⟨ga, 0, none⟩ = some (.string a) := (blk_cell HA3.out 0).trans rfl; have hci : w3.cell? ⟨gi, 0, none⟩ = some (.int .i64 0) := (blk_cell HI3.out 0).trans rfl; have hfi := blk_frozen HI3.out 0; have hg3 : g3 ≠ gi := by have := L3.out; have := blk_lt HI.out; omega))
  have e := HE.out
  clear HE
  subst e
  have HBB := Aside0.mk ((below_step (below_step HW.out HB1.out) HB3.out).setCell (p := ⟨gi, 0, none⟩) hgi (.int .i64 i))
  have hz1 := (HBB.out.cell (World.block_lt_of_cell? w0 _ HX.out)).trans HX.out
  have hzi : (w3.setCell ⟨gi, 0, none⟩ (.int .i64 i)).cell? ⟨gi, 0, none⟩ = some (.int .i64 i) := World.cell?_setCell_same _ _ _ hci
  have hcn : w3.cell? ⟨gn, 0, none⟩ = some (.int .i64 n) := (blk_cell HN3.out 0).trans rfl
  cases hb : nodeB n with
  | true =>
    go_quiet ((go_at_call 30; exact Calls.quiet_of_same (node_at n _ hb _)))
    go_wp2
    go_ret
    exact ⟨ret_bool (a := ((rd_T46 ps i).f1 != n)) (by unfold mayV; rw [hb, Bool.eq_iff_iff]; simp), turned_drewN (turned_of HB1.out HB3.out _) _, blk_drewN (blk_put HI3.out 0 _ rfl) _⟩
  | false =>
    go_quiet ((go_at_call 30; exact Calls.quiet_of_same (node_at n _ hb _)))
    go_wp2
    go_ret
    exact ⟨ret_bool (a := false) (by unfold mayV; rw [hb]; rfl), turned_drewN (turned_of HB1.out HB3.out _) _, blk_drewN (blk_put HI3.out 0 _ rfl) _⟩
end Go.Proofs.Ytmgjccpolkhhhaa.Ig
namespace Go.Proofs.Ytmgjccpolkhhhaa.Ih
open Go.Shelf Go.RowKit Go.Lib Go.Proofs.Ytmgjccpolkhhhaa.PAll Go.Proofs.YtmgjccpolkhhhaaW.PrintWords Go.Proofs.YtmgjccpolkhhhaaW.PrintLast Go.Proofs.Ytmgjccpolkhhhaa.Hl Go.Proofs.Ytmgjccpolkhhhaa.Ic Go.Proofs.Ytmgjccpolkhhhaa.In Go.Proofs.Ytmgjccpolkhhhaa.Is Go.Proofs.Ytmgjccpolkhhhaa.Id Go.Proofs.Ytmgjccpolkhhhaa.If Go.Proofs.Ytmgjccpolkhhhaa.Ig
set_option linter.unusedSimpArgs false
set_option linter.unusedVariables false
set_option maxHeartbeats 4000000 in
set_option maxRecDepth 100000 in
theorem split_walk (w : World) (ep : Int) (A : Option Addr) (c : Nat) (ps : List S46) (a : ByteArray) (r1 : Int) (r2 : List S46) (r3 : Int)
    (hnext : ∀ w4 ga gi, Below w.heap.size w w4 → w4.heap[ga]? = some (.cells #[.string a] 9 (0, 0)) → w4.heap[gi]? = some (.cells #[.int .i64 0] 3 (0, 0)) → w.heap.size ≤ gi → Calls Try.prog 34 #[.agg #[.int .i64 ep, .slice A ps.length c], .func (.func 35) #[] #[.pointer (some ⟨ga, 0, none⟩), .pointer (some ⟨gi, 0, none⟩)], .func (.func 36) #[] #[.pointer (some ⟨gi, 0, none⟩), .pointer (some ⟨ga, 0, none⟩)]] w4 fun e w' => ∃ v', e = .returned (.tuple #[.agg #[.int .i64 r1, v'], .int .i64 r3]) ∧ Kd.R k46 46 w' w4.heap.size (fun _ => True) v' r2 ∧ Turned gi w4 w') :
    Calls Try.prog 22 #[.agg #[.int .i64 ep, .slice A ps.length c], .string a] w fun e w' => ∃ v', e = .returned (.tuple #[.agg #[.int .i64 r1, v'], .int .i64 r3]) ∧ Kd.R k46 46 w' w.heap.size (fun _ => True) v' r2 ∧ Below w.heap.size w w' := by
  have hu24 := Try.underlying24
  have HN := Aside0.mk hnext
  clear hnext
  go_enter Try.func22, Try.ntmps22
  go_wp2_with (first | ((with_reducible refine gate_dst (N := 2) rfl ?_); refine box_event ?hg (N := 2) ?hd (cs := #[.int .i64 ep, .slice A ps.length c]) (t := 24) ?hr ?_; (case hd => rfl); (case hg => rfl); (case hr => first | (go_simp; done) | (go_simp; rfl)); intro g2 hg w1 hbox hb; have L2 := Aside0.mk (show w.heap.size ≤ g2 by omega); have B2 := Aside0.mk hbox; have HB1 := Aside0.mk hb; clear hb hbox hg) | ((with_reducible refine gate_dst (N := 3) rfl ?_); refine box_event ?hg (N := 3) ?hd (cs := #[.string a]) (t := 9) ?hr ?_; (case hd => rfl); (case hg => rfl); (case hr => first | (go_simp; done) | (go_simp; rfl)); intro g3 hg w2 hbox hb; have L3 := Aside0.mk (show w1.heap.size ≤ g3 by omega); have B3 := Aside0.mk hbox; have HB2 := Aside0.mk hb; have B2b := Aside0.mk (blk_below B2.out hb); clear hb hbox hg) | ((with_reducible refine gate_dst (N := 4) rfl ?_); refine box_event ?hg (N := 4) ?hd (cs := #[.int .i64 0, .slice none 0 0]) (t := 24) ?hr ?_; (case hd => rfl); (case hg => rfl); (case hr => first | (go_simp; done) | (go_simp; rfl)); intro g4 hg w3 hbox hb; have L4 := Aside0.mk (show w2.heap.size ≤ g4 by omega); have B4 := Aside0.mk hbox; have HB3 := Aside0.mk hb; have B2c := Aside0.mk (blk_below B2b.out hb); have B3c := Aside0.mk (blk_below B3.out hb); clear hb hbox hg) | ((with_reducible refine gate_dst (N := 6) rfl ?_); refine box_event ?hg (N := 6) ?hd (cs := #[.int .i64 0]) (t := 3) ?hr ?_; (case hd => rfl); (case hg => rfl); (case hr => first | (go_simp; done) | (go_simp; rfl)); intro g6 hg w4 hbox hb; have L6 := Aside0.mk (show w3.heap.size ≤ g6 by omega); have B6 := Aside0.mk hbox; have HB4 := Aside0.mk hb; have B2d := Aside0.mk (blk_below B2c.out hb); have B3d := Aside0.mk (blk_below B3c.out hb); have B4d := Aside0.mk (blk_below B4.out hb); clear hb hbox hg; have hc2_0 : w4.cell? ⟨g2, 0, none⟩ = some (.int .i64 ep) := (blk_cell B2d.out 0).trans rfl; have hc2_1 : w4.cell? ⟨g2, 1, none⟩ = some (.slice A ps.length c) := (blk_cell B2d.out 1).trans rfl; have hc6 : w4.cell? ⟨g6, 0, none⟩ = some (.int .i64 0) := (blk_cell B6.out 0).trans rfl; have hf6 := blk_frozen B6.out 0; have hg26 : g2 ≠ g6 := by have := L6.out; have := blk_lt B2c.out; omega) | ((with_reducible refine gate_callee (f := 34) rfl ?_); refine goesL_ (some 10) rfl rfl Try.func34 (by kernel_rfl) rfl #[.agg #[.int .i64 ep, .slice A ps.length c], .func (.func 35) #[] #[.pointer (some ⟨g3, 0, none⟩), .pointer (some ⟨g6, 0, none⟩)], .func (.func 36) #[] #[.pointer (some ⟨g6, 0, none⟩), .pointer (some ⟨g3, 0, none⟩)]] rfl (by (try simp only [List.map_toArray, List.map_cons, List.map_nil]); first | done | rfl) ?_; have HL := Aside0.mk (show w.heap.size ≤ g2 ∧ w.heap.size ≤ g3 ∧ w.heap.size ≤ g4 ∧ w.heap.size ≤ g6 ∧ g4 ≠ g6 ∧ g3 ≠ g6 by have := L2.out; have := L3.out; have := L4.out; have := L6.out; have := HB1.out.size; have := HB2.out.size; have := HB3.out.size; have := blk_lt B4.out; have := blk_lt B3c.out; omega); have HB5 := Aside0.mk ((below_step (below_step (below_step HB1.out HB2.out) HB3.out) HB4.out).setCell (p := ⟨g6, 0, none⟩) HL.out.2.2.2.1 (.int .i64 0)); have B4e := Aside0.mk (blk_far (p := ⟨g6, 0, none⟩) B4d.out HL.out.2.2.2.2.1 (.int .i64 0)); (with_reducible refine (HN.out _ g3 g6 HB5.out (blk_far B3d.out HL.out.2.2.2.2.2 _) (blk_put B6.out 0 _ rfl) HL.out.2.2.2.1).mono ?_); rintro e w5 ⟨v', rfl, hR, hT⟩; obtain ⟨A5, c5, e5⟩ := Kd.R_slice hR; subst e5; refine ⟨_, rfl, ?_⟩; have HR := Aside0.mk hR; have HT := Aside0.mk hT; have B4f := Aside0.mk (hT.blk B4e.out HL.out.2.2.2.2.1); clear hR hT; have hc4_0 : w5.cell? ⟨g4, 0, none⟩ = some (.int .i64 0) := (blk_cell B4f.out 0).trans rfl; have hc4_1 : w5.cell? ⟨g4, 1, none⟩ = some (.slice none 0 0) := (blk_cell B4f.out 1).trans rfl; have hf4_0 := blk_frozen B4f.out 0; have hf4_1 := blk_frozen B4f.out 1))
  refine bodyPost_ret (results_ct rfl _ _ g4 24 #[.int .i64 r1, .slice A5 r2.length c5] (0, 0) _ rfl (by refine blk_put (cs := #[.int .i64 r1, .slice none 0 0]) ?_ 1 _ rfl; refine blk_put (cs := #[.int .i64 0, .slice none 0 0]) ?_ 0 _ rfl; exact B4f.out) Try.underlying24 rfl (by kernel_rfl)) rfl ?_
  obtain ⟨l2, l3, l4, l6, n46, n36⟩ := HL.out
  refine ⟨_, rfl, ?_, ?_⟩
  · exact Kd.R_lower (Kd.R_mono (Kd.R_far (p := ⟨g4, 1, none⟩) (Kd.R_far (p := ⟨g4, 0, none⟩) (Kd.R_types HR.out B4f.out (by decide)) (fun _ hk => hk.2) _) (fun _ hk => hk.2) _) (fun _ hk => trivial)) HB5.out.size
  · exact ((HT.out.below HB5.out l6 HB5.out.size).setCell (p := ⟨g4, 0, none⟩) l4 _).setCell (p := ⟨g4, 1, none⟩) l4 _
set_option maxHeartbeats 4000000 in
set_option maxRecDepth 100000 in
theorem merge_walk (w : World) (ep : Int) (A : Option Addr) (c : Nat) (ps : List S46) (a : ByteArray) (r1 : Int) (r2 : List S46) (r3 : Int)
    (hnext : ∀ w4 ga gi, Below w.heap.size w w4 → w4.heap[ga]? = some (.cells #[.string a] 9 (0, 0)) → w4.heap[gi]? = some (.cells #[.int .i64 0] 3 (0, 0)) → w.heap.size ≤ gi → Calls Try.prog 34 #[.agg #[.int .i64 ep, .slice A ps.length c], .func (.func 38) #[] #[.pointer (some ⟨ga, 0, none⟩), .pointer (some ⟨gi, 0, none⟩)], .func (.func 39) #[] #[.pointer (some ⟨gi, 0, none⟩)]] w4 fun e w' => ∃ v', e = .returned (.tuple #[.agg #[.int .i64 r1, v'], .int .i64 r3]) ∧ Kd.R k46 46 w' w4.heap.size (fun _ => True) v' r2 ∧ Turned gi w4 w') :
    Calls Try.prog 23 #[.agg #[.int .i64 ep, .slice A ps.length c], .string a] w fun e w' => ∃ v', e = .returned (.tuple #[.agg #[.int .i64 r1, v'], .int .i64 r3]) ∧ Kd.R k46 46 w' w.heap.size (fun _ => True) v' r2 ∧ Below w.heap.size w w' := by
  have hu24 := Try.underlying24
  have HN := Aside0.mk hnext
  clear hnext
  go_enter Try.func23, Try.ntmps23
  go_wp2_with (first | ((with_reducible refine gate_dst (N := 2) rfl ?_); refine box_event ?hg (N := 2) ?hd (cs := #[.int .i64 ep, .slice A ps.length c]) (t := 24) ?hr ?_; (case hd => rfl); (case hg => rfl); (case hr => first | (go_simp; done) | (go_simp; rfl)); intro g2 hg w1 hbox hb; have L2 := Aside0.mk (show w.heap.size ≤ g2 by omega); have B2 := Aside0.mk hbox; have HB1 := Aside0.mk hb; clear hb hbox hg) | ((with_reducible refine gate_dst (N := 3) rfl ?_); refine box_event ?hg (N := 3) ?hd (cs := #[.string a]) (t := 9) ?hr ?_; (case hd => rfl); (case hg => rfl); (case hr => first | (go_simp; done) | (go_simp; rfl)); intro g3 hg w2 hbox hb; have L3 := Aside0.mk (show w1.heap.size ≤ g3 by omega); have B3 := Aside0.mk hbox; have HB2 := Aside0.mk hb; have B2b := Aside0.mk (blk_below B2.out hb); clear hb hbox hg) | ((with_reducible refine gate_dst (N := 4) rfl ?_); refine box_event ?hg (N := 4) ?hd (cs := #[.int .i64 0, .slice none 0 0]) (t := 24) ?hr ?_; (case hd => rfl); (case hg => rfl); (case hr => first | (go_simp; done) | (go_simp; rfl)); intro g4 hg w3 hbox hb; have L4 := Aside0.mk (show w2.heap.size ≤ g4 by omega); have B4 := Aside0.mk hbox; have HB3 := Aside0.mk hb; have B2c := Aside0.mk (blk_below B2b.out hb); have B3c := Aside0.mk (blk_below B3.out hb); clear hb hbox hg) | ((with_reducible refine gate_dst (N := 6) rfl ?_); refine box_event ?hg (N := 6) ?hd (cs := #[.int .i64 0]) (t := 3) ?hr ?_; (case hd => rfl); (case hg => rfl); (case hr => first | (go_simp; done) | (go_simp; rfl)); intro g6 hg w4 hbox hb; have L6 := Aside0.mk (show w3.heap.size ≤ g6 by omega); have B6 := Aside0.mk hbox; have HB4 := Aside0.mk hb; have B2d := Aside0.mk (blk_below B2c.out hb); have B3d := Aside0.mk (blk_below B3c.out hb); have B4d := Aside0.mk (blk_below B4.out hb); clear hb hbox hg; have hc2_0 : w4.cell? ⟨g2, 0, none⟩ = some (.int .i64 ep) := (blk_cell B2d.out 0).trans rfl; have hc2_1 : w4.cell? ⟨g2, 1, none⟩ = some (.slice A ps.length c) := (blk_cell B2d.out 1).trans rfl; have hc6 : w4.cell? ⟨g6, 0, none⟩ = some (.int .i64 0) := (blk_cell B6.out 0).trans rfl; have hf6 := blk_frozen B6.out 0; have hg26 : g2 ≠ g6 := by have := L6.out; have := blk_lt B2c.out; omega) | ((with_reducible refine gate_callee (f := 34) rfl ?_); refine goesL_ (some 10) rfl rfl Try.func34 (by kernel_rfl) rfl #[.agg #[.int .i64 ep, .slice A ps.length c], .func (.func 38) #[] #[.pointer (some ⟨g3, 0, none⟩), .pointer (some ⟨g6, 0, none⟩)], .func (.func 39) #[] #[.pointer (some ⟨g6, 0, none⟩)]] rfl (by (try simp only [List.map_toArray, List.map_cons, List.map_nil]); first | done | rfl) ?_; have HL := Aside0.mk (show w.heap.size ≤ g2 ∧ w.heap.size ≤ g3 ∧ w.heap.size ≤ g4 ∧ w.heap.size ≤ g6 ∧ g4 ≠ g6 ∧ g3 ≠ g6 by have := L2.out; have := L3.out; have := L4.out; have := L6.out; have := HB1.out.size; have := HB2.out.size; have := HB3.out.size; have := blk_lt B4.out; have := blk_lt B3c.out; omega); have HB5 := Aside0.mk ((below_step (below_step (below_step HB1.out HB2.out) HB3.out) HB4.out).setCell (p := ⟨g6, 0, none⟩) HL.out.2.2.2.1 (.int .i64 0)); have B4e := Aside0.mk (blk_far (p := ⟨g6, 0, none⟩) B4d.out HL.out.2.2.2.2.1 (.int .i64 0)); (with_reducible refine (HN.out _ g3 g6 HB5.out (blk_far B3d.out HL.out.2.2.2.2.2 _) (blk_put B6.out 0 _ rfl) HL.out.2.2.2.1).mono ?_); rintro e w5 ⟨v', rfl, hR, hT⟩; obtain ⟨A5, c5, e5⟩ := Kd.R_slice hR; subst e5; refine ⟨_, rfl, ?_⟩; have HR := Aside0.mk hR; have HT := Aside0.mk hT; have B4f := Aside0.mk (hT.blk B4e.out HL.out.2.2.2.2.1); clear hR hT; have hc4_0 : w5.cell? ⟨g4, 0, none⟩ = some (.int .i64 0) := (blk_cell B4f.out 0).trans rfl; have hc4_1 : w5.cell? ⟨g4, 1, none⟩ = some (.slice none 0 0) := (blk_cell B4f.out 1).trans rfl; have hf4_0 := blk_frozen B4f.out 0; have hf4_1 := blk_frozen B4f.out 1))
  refine bodyPost_ret (results_ct rfl _ _ g4 24 #[.int .i64 r1, .slice A5 r2.length c5] (0, 0) _ rfl (by refine blk_put (cs := #[.int .i64 r1, .slice none 0 0]) ?_ 1 _ rfl; refine blk_put (cs := #[.int .i64 0, .slice none 0 0]) ?_ 0 _ rfl; exact B4f.out) Try.underlying24 rfl (by kernel_rfl)) rfl ?_
  obtain ⟨l2, l3, l4, l6, n46, n36⟩ := HL.out
  refine ⟨_, rfl, ?_, ?_⟩
  · exact Kd.R_lower (Kd.R_mono (Kd.R_far (p := ⟨g4, 1, none⟩) (Kd.R_far (p := ⟨g4, 0, none⟩) (Kd.R_types HR.out B4f.out (by decide)) (fun _ hk => hk.2) _) (fun _ hk => hk.2) _) (fun _ hk => trivial)) HB5.out.size
  · exact ((HT.out.below HB5.out l6 HB5.out.size).setCell (p := ⟨g4, 0, none⟩) l4 _).setCell (p := ⟨g4, 1, none⟩) l4 _
set_option maxHeartbeats 4000000 in
set_option maxRecDepth 100000 in
theorem move_walk (w : World) (ep : Int) (A : Option Addr) (c : Nat) (ps : List S46) (a : ByteArray) (n : Int) (r1 : Int) (r2 : List S46) (r3 : Int)
    (hnext : ∀ w4 ga gi gn, Below w.heap.size w w4 → w4.heap[ga]? = some (.cells #[.string a] 9 (0, 0)) → w4.heap[gn]? = some (.cells #[.int .i64 n] 3 (0, 0)) → gn ≠ gi → w4.heap[gi]? = some (.cells #[.int .i64 0] 3 (0, 0)) → w.heap.size ≤ gi → Calls Try.prog 34 #[.agg #[.int .i64 ep, .slice A ps.length c], .func (.func 41) #[] #[.pointer (some ⟨ga, 0, none⟩), .pointer (some ⟨gi, 0, none⟩), .pointer (some ⟨gn, 0, none⟩)], .func (.func 42) #[] #[.pointer (some ⟨gn, 0, none⟩), .pointer (some ⟨gi, 0, none⟩)]] w4 fun e w' => ∃ v', e = .returned (.tuple #[.agg #[.int .i64 r1, v'], .int .i64 r3]) ∧ Kd.R k46 46 w' w4.heap.size (fun _ => True) v' r2 ∧ Turned gi w4 w') :
    Calls Try.prog 24 #[.agg #[.int .i64 ep, .slice A ps.length c], .string a, .int .i64 n] w fun e w' => ∃ v', e = .returned (.tuple #[.agg #[.int .i64 r1, v'], .int .i64 r3]) ∧ Kd.R k46 46 w' w.heap.size (fun _ => True) v' r2 ∧ Below w.heap.size w w' := by
  have hu24 := Try.underlying24
  have HN := Aside0.mk hnext
  clear hnext
  go_enter Try.func24, Try.ntmps24
  go_wp2_with (first | ((with_reducible refine gate_dst (N := 3) rfl ?_); refine box_event ?hg (N := 3) ?hd (cs := #[.int .i64 ep, .slice A ps.length c]) (t := 24) ?hr ?_; (case hd => rfl); (case hg => rfl); (case hr => first | (go_simp; done) | (go_simp; rfl)); intro g2 hg w1 hbox hb; have L2 := Aside0.mk (show w.heap.size ≤ g2 by omega); have B2 := Aside0.mk hbox; have HB1 := Aside0.mk hb; clear hb hbox hg) | ((with_reducible refine gate_dst (N := 4) rfl ?_); refine box_event ?hg (N := 4) ?hd (cs := #[.string a]) (t := 9) ?hr ?_; (case hd => rfl); (case hg => rfl); (case hr => first | (go_simp; done) | (go_simp; rfl)); intro g3 hg w2 hbox hb; have L3 := Aside0.mk (show w1.heap.size ≤ g3 by omega); have B3 := Aside0.mk hbox; have HB2 := Aside0.mk hb; have B2b := Aside0.mk (blk_below B2.out hb); clear hb hbox hg) | ((with_reducible refine gate_dst (N := 5) rfl ?_); refine box_event ?hg (N := 5) ?hd (cs := #[.int .i64 n]) (t := 3) ?hr ?_; (case hd => rfl); (case hg => rfl); (case hr => first | (go_simp; done) | (go_simp; rfl)); intro gn hg wn hbox hb; have Ln := Aside0.mk (show w2.heap.size ≤ gn by omega); have Bn := Aside0.mk hbox; have HBn := Aside0.mk hb; have B2n := Aside0.mk (blk_below B2b.out hb); have B3n := Aside0.mk (blk_below B3.out hb); clear hb hbox hg) | ((with_reducible refine gate_dst (N := 6) rfl ?_); refine box_event ?hg (N := 6) ?hd (cs := #[.int .i64 0, .slice none 0 0]) (t := 24) ?hr ?_; (case hd => rfl); (case hg => rfl); (case hr => first | (go_simp; done) | (go_simp; rfl)); intro g4 hg w3 hbox hb; have L4 := Aside0.mk (show wn.heap.size ≤ g4 by omega); have B4 := Aside0.mk hbox; have HB3 := Aside0.mk hb; have B2c := Aside0.mk (blk_below B2n.out hb); have B3c := Aside0.mk (blk_below B3n.out hb); have Bnc := Aside0.mk (blk_below Bn.out hb); clear hb hbox hg) | ((with_reducible refine gate_dst (N := 8) rfl ?_); refine box_event ?hg (N := 8) ?hd (cs := #[.int .i64 0]) (t := 3) ?hr ?_; (case hd => rfl); (case hg => rfl); (case hr => first | (go_simp; done) | (go_simp; rfl)); intro g6 hg w4 hbox hb; have L6 := Aside0.mk (show w3.heap.size ≤ g6 by omega); have B6 := Aside0.mk hbox; have HB4 := Aside0.mk hb; have B2d := Aside0.mk (blk_below B2c.out hb); have B3d := Aside0.mk (blk_below B3c.out hb); have B4d := Aside0.mk (blk_below B4.out hb); have Bnd := Aside0.mk (blk_below Bnc.out hb); clear hb hbox hg; have hc2_0 : w4.cell? ⟨g2, 0, none⟩ = some (.int .i64 ep) := (blk_cell B2d.out 0).trans rfl; have hc2_1 : w4.cell? ⟨g2, 1, none⟩ = some (.slice A ps.length c) := (blk_cell B2d.out 1).trans rfl; have hc6 : w4.cell? ⟨g6, 0, none⟩ = some (.int .i64 0) := (blk_cell B6.out 0).trans rfl; have hf6 := blk_frozen B6.out 0; have hg26 : g2 ≠ g6 := by have := L6.out; have := blk_lt B2c.out; omega) | ((with_reducible refine gate_callee (f := 34) rfl ?_); refine goesL_ (some 12) rfl rfl Try.func34 (by kernel_rfl) rfl #[.agg #[.int .i64 ep, .slice A ps.length c], .func (.func 41) #[] #[.pointer (some ⟨g3, 0, none⟩), .pointer (some ⟨g6, 0, none⟩), .pointer (some ⟨gn, 0, none⟩)], .func (.func 42) #[] #[.pointer (some ⟨gn, 0, none⟩), .pointer (some ⟨g6, 0, none⟩)]] rfl (by (try simp only [List.map_toArray, List.map_cons, List.map_nil]); first | done | rfl) ?_; have HL := Aside0.mk (show w.heap.size ≤ g2 ∧ w.heap.size ≤ g3 ∧ w.heap.size ≤ g4 ∧ w.heap.size ≤ g6 ∧ g4 ≠ g6 ∧ g3 ≠ g6 ∧ gn ≠ g6 by have := L2.out; have := L3.out; have := L4.out; have := L6.out; have := HB1.out.size; have := HB2.out.size; have := HB3.out.size; have := blk_lt B4.out; have := blk_lt B3c.out; have := blk_lt Bnc.out; have := HBn.out.size; omega); have HB5 := Aside0.mk ((below_step (below_step (below_step (below_step HB1.out HB2.out) HBn.out) HB3.out) HB4.out).setCell (p := ⟨g6, 0, none⟩) HL.out.2.2.2.1 (.int .i64 0)); have B4e := Aside0.mk (blk_far (p := ⟨g6, 0, none⟩) B4d.out HL.out.2.2.2.2.1 (.int .i64 0)); (with_reducible refine (HN.out _ g3 g6 gn HB5.out (blk_far B3d.out HL.out.2.2.2.2.2.1 _) (blk_far Bnd.out HL.out.2.2.2.2.2.2 _) HL.out.2.2.2.2.2.2 (blk_put B6.out 0 _ rfl) HL.out.2.2.2.1).mono ?_); rintro e w5 ⟨v', rfl, hR, hT⟩; obtain ⟨A5, c5, e5⟩ := Kd.R_slice hR; subst e5; refine ⟨_, rfl, ?_⟩; have HR := Aside0.mk hR; have HT := Aside0.mk hT; have B4f := Aside0.mk (hT.blk B4e.out HL.out.2.2.2.2.1); clear hR hT; have hc4_0 : w5.cell? ⟨g4, 0, none⟩ = some (.int .i64 0) := (blk_cell B4f.out 0).trans rfl; have hc4_1 : w5.cell? ⟨g4, 1, none⟩ = some (.slice none 0 0) := (blk_cell B4f.out 1).trans rfl; have hf4_0 := blk_frozen B4f.out 0; have hf4_1 := blk_frozen B4f.out 1))
  refine bodyPost_ret (results_ct rfl _ _ g4 24 #[.int .i64 r1, .slice A5 r2.length c5] (0, 0) _ rfl (by refine blk_put (cs := #[.int .i64 r1, .slice none 0 0]) ?_ 1 _ rfl; refine blk_put (cs := #[.int .i64 0, .slice none 0 0]) ?_ 0 _ rfl; exact B4f.out) Try.underlying24 rfl (by kernel_rfl)) rfl ?_
  obtain ⟨l2, l3, l4, l6, n46, n36, nn6⟩ := HL.out
  refine ⟨_, rfl, ?_, ?_⟩
  · exact Kd.R_lower (Kd.R_mono (Kd.R_far (p := ⟨g4, 1, none⟩) (Kd.R_far (p := ⟨g4, 0, none⟩) (Kd.R_types HR.out B4f.out (by decide)) (fun _ hk => hk.2) _) (fun _ hk => hk.2) _) (fun _ hk => trivial)) HB5.out.size
  · exact ((HT.out.below HB5.out l6 HB5.out.size).setCell (p := ⟨g4, 0, none⟩) l4 _).setCell (p := ⟨g4, 1, none⟩) l4 _
end Go.Proofs.Ytmgjccpolkhhhaa.Ih
namespace Go.Proofs.Ytmgjccpolkhhhaa.Ij
open Go.Shelf Go.RowKit Go.Lib Go.Proofs.Ytmgjccpolkhhhaa.PAll Go.Proofs.YtmgjccpolkhhhaaW.PrintWords Go.Proofs.YtmgjccpolkhhhaaW.PrintLast Go.Proofs.Ytmgjccpolkhhhaa.Hl Go.Proofs.Ytmgjccpolkhhhaa.Ic Go.Proofs.Ytmgjccpolkhhhaa.In Go.Proofs.Ytmgjccpolkhhhaa.Is Go.Proofs.Ytmgjccpolkhhhaa.Id Go.Proofs.Ytmgjccpolkhhhaa.Ie Go.Proofs.Ytmgjccpolkhhhaa.If Go.Proofs.Ytmgjccpolkhhhaa.Ig Go.Proofs.Ytmgjccpolkhhhaa.Ih
set_option linter.unusedSimpArgs false
set_option linter.unusedVariables false
def splitF (k : Nat) (ep : Int) (l : List S46) (a : ByteArray) : Option (Int × List S46 × Int) :=
  (atlas_Check.f k ep l).bind fun e => if e = 0 then (if l.length ≤ 8 then (atlas_seek.f k ep l a).bind fun s => if mayS a s.2 l.length = true then (if ep = 1099511627776 then some (0, [], 4) else if 1 ≤ ep ∧ ep ≤ 1099511627775 ∧ 1 ≤ s.1 ∧ s.1 ≤ l.length then some (ep + 1, l.take s.1.toNat ++ (⟨a, (rd_T46 l (s.1 - 1)).f1⟩ : S46) :: l.drop s.1.toNat, 0) else none) else some (0, [], 14) else none) else some (0, [], e)
theorem splitF_mono (a0 : Int) (a1 : List S46) (a2 : ByteArray) (k : Nat) : LeO (splitF k a0 a1 a2) (splitF (k + 1) a0 a1 a2) := by
  unfold splitF
  refine LeO.bind (atlas_Check.mono _ _ _) fun _ => LeO.ite (LeO.ite (LeO.bind (atlas_seek.mono _ _ _ _) fun _ => LeO.refl _) (LeO.refl _)) (LeO.refl _)
theorem split_calls (k : Nat) (ep : Int) (A : Option Addr) (c : Nat) (l : List S46) (a : ByteArray) (r1 : Int) (r2 : List S46) (r3 : Int) (w : World) (hC : Kd.C k46 w A l.length l) (hc : l.length ≤ c) (h : splitF k ep l a = some (r1, r2, r3)) :
    Calls Try.prog 22 #[.agg #[.int .i64 ep, .slice A l.length c], .string a] w fun e w' => ∃ v1_ : Value, e = .returned (.tuple #[.agg #[.int .i64 r1, v1_], .int .i64 r3]) ∧ Kd.R k46 46 w' w.heap.size (fun _ => True) v1_ r2 ∧ Below w.heap.size w w' := by
  unfold splitF at h
  obtain ⟨e, he, h⟩ := Option.bind_eq_some_iff.mp h
  refine split_walk w ep A c l a r1 r2 r3 (fun w4 ga gi hb ha hi hg => ?_)
  have hgl := blk_lt hi
  by_cases e0 : e = 0
  · rw [if_pos e0] at h
    subst e0
    by_cases hl : l.length ≤ 8
    · rw [if_pos hl] at h
      obtain ⟨⟨i, is⟩, hs, h⟩ := Option.bind_eq_some_iff.mp h
      have hm : ∀ b, mayS a is l.length = b → ∀ w', Below w4.heap.size w4 w' → Calls Try.prog 35 (#[.agg #[.int .i64 ep, .slice A l.length c]] ++ #[.pointer (some ⟨ga, 0, none⟩), .pointer (some ⟨gi, 0, none⟩)]) w' fun e w'' => e = .returned (.bool b) ∧ Turned gi w' w'' ∧ (w''.heap[gi]? = some (.cells #[.int .i64 i] 3 (0, 0)) ∧ w''.heap[ga]? = some (.cells #[.string a] 9 (0, 0))) := by
        intro b hbm w' hw'
        have hne : ga ≠ gi := blk_ne ha hi (by decide)
        refine (may_split w' ep A c l (Kd.C_below hC (below_step hb hw')) hc k a i is hs ga gi (blk_below ha hw') (blk_below hi hw')).mono ?_
        rintro e w'' ⟨rfl, hT, hJ⟩
        exact ⟨by rw [← hbm], hT, hJ, hT.blk (blk_below ha hw') hne⟩
      cases hb' : mayS a is l.length with
      | false =>
        rw [show mayS a (i, is).2 l.length = false from hb', if_neg (by decide)] at h
        cases h
        exact next_b w w4 hb ep A c l hC hc k 0 he rfl 35 36 _ Try.func35 rfl rfl _ _ gi hg hgl _ (hm _ hb')
      | true =>
        rw [show mayS a (i, is).2 l.length = true from hb', if_pos rfl] at h
        by_cases h4 : ep = 1099511627776
        · rw [if_pos h4] at h
          cases h
          exact next_m w w4 hb ep A c l hC hc k 0 he rfl h4 35 36 _ Try.func35 rfl rfl _ _ gi hg hgl _ (hm _ hb')
        · rw [if_neg h4] at h
          by_cases h5 : 1 ≤ ep ∧ ep ≤ 1099511627775 ∧ 1 ≤ i ∧ i ≤ l.length
          · rw [if_pos h5] at h
            cases h
            obtain ⟨i, rfl⟩ : ∃ n : Nat, i = n := ⟨i.toNat, by omega⟩
            refine next_any w w4 hb ep A c l hC hc k hl he h5.1 h5.2.1 35 36 _ _ Try.func35 rfl rfl Try.func36 rfl rfl _ _ gi hg hgl _ (hm _ hb') (fun u u' hj hu => ⟨blk_below hj.1 hu, blk_below hj.2 hu⟩) _ ?_
            intro u base v hj hu hbase hbu hR
            exact split2 u base v l _ l.length _ (Kd.R_slice hR).choose_spec.choose_spec rfl hR gi ga i a ((blk_cell hj.1 0).trans rfl) ((blk_cell hj.2 0).trans rfl) (by omega) (by omega) (by omega) hbu
          · rw [if_neg h5] at h; cases h
    · rw [if_neg hl] at h; cases h
  · rw [if_neg e0] at h
    cases h
    exact next_e w w4 hb ep A c l hC hc k _ he e0 35 36 _ Try.func35 rfl rfl _ _ gi hg hgl (fun _ => True)
def mergeF (k : Nat) (ep : Int) (l : List S46) (a : ByteArray) : Option (Int × List S46 × Int) :=
  (atlas_Check.f k ep l).bind fun e => if e = 0 then (if l.length ≤ 8 then (atlas_seek.f k ep l a).bind fun s => if s.2 = true → 0 < s.1 → s.1 < l.length then (if mayM l s.2 s.1 = true then (if ep = 1099511627776 then some (0, [], 4) else if 1 ≤ ep ∧ ep ≤ 1099511627775 ∧ 1 ≤ s.1 ∧ s.1 < l.length then some (ep + 1, l.take s.1.toNat ++ l.drop (s.1.toNat + 1), 0) else none) else some (0, [], 14)) else none else none) else some (0, [], e)
theorem mergeF_mono (a0 : Int) (a1 : List S46) (a2 : ByteArray) (k : Nat) : LeO (mergeF k a0 a1 a2) (mergeF (k + 1) a0 a1 a2) := by
  unfold mergeF
  refine LeO.bind (atlas_Check.mono _ _ _) fun _ => LeO.ite (LeO.ite (LeO.bind (atlas_seek.mono _ _ _ _) fun _ => LeO.refl _) (LeO.refl _)) (LeO.refl _)
theorem merge_calls (k : Nat) (ep : Int) (A : Option Addr) (c : Nat) (l : List S46) (a : ByteArray) (r1 : Int) (r2 : List S46) (r3 : Int) (w : World) (hC : Kd.C k46 w A l.length l) (hc : l.length ≤ c) (h : mergeF k ep l a = some (r1, r2, r3)) :
    Calls Try.prog 23 #[.agg #[.int .i64 ep, .slice A l.length c], .string a] w fun e w' => ∃ v1_ : Value, e = .returned (.tuple #[.agg #[.int .i64 r1, v1_], .int .i64 r3]) ∧ Kd.R k46 46 w' w.heap.size (fun _ => True) v1_ r2 ∧ Below w.heap.size w w' := by
  unfold mergeF at h
  obtain ⟨e, he, h⟩ := Option.bind_eq_some_iff.mp h
  refine merge_walk w ep A c l a r1 r2 r3 (fun w4 ga gi hb ha hi hg => ?_)
  have hgl := blk_lt hi
  by_cases e0 : e = 0
  · rw [if_pos e0] at h
    subst e0
    by_cases hl : l.length ≤ 8
    · rw [if_pos hl] at h
      obtain ⟨⟨i, is⟩, hs, h⟩ := Option.bind_eq_some_iff.mp h
      by_cases hin : is = true → 0 < i → i < l.length
      case neg => rw [if_neg (by simpa using hin)] at h; cases h
      rw [if_pos hin] at h
      have hm : ∀ b, mayM l is i = b → ∀ w', Below w4.heap.size w4 w' → Calls Try.prog 38 (#[.agg #[.int .i64 ep, .slice A l.length c]] ++ #[.pointer (some ⟨ga, 0, none⟩), .pointer (some ⟨gi, 0, none⟩)]) w' fun e w'' => e = .returned (.bool b) ∧ Turned gi w' w'' ∧ (w''.heap[gi]? = some (.cells #[.int .i64 i] 3 (0, 0)) ∧ w''.heap[ga]? = some (.cells #[.string a] 9 (0, 0))) := by
        intro b hbm w' hw'
        have hne : ga ≠ gi := blk_ne ha hi (by decide)
        refine (may_merge w w' (below_step hb hw') ep A c l hC hc k a i is hs ga gi (blk_below ha hw') (blk_below hi hw') hg hin hl).mono ?_
        rintro e w'' ⟨rfl, hT, hJ⟩
        exact ⟨by rw [← hbm], hT, hJ, hT.blk (blk_below ha hw') hne⟩
      cases hb' : mayM l is i with
      | false =>
        rw [show mayM l (i, is).2 (i, is).1 = false from hb', if_neg (by decide)] at h
        cases h
        exact next_b w w4 hb ep A c l hC hc k 0 he rfl 38 39 _ Try.func38 rfl rfl _ _ gi hg hgl _ (hm _ hb')
      | true =>
        rw [show mayM l (i, is).2 (i, is).1 = true from hb', if_pos rfl] at h
        by_cases h4 : ep = 1099511627776
        · rw [if_pos h4] at h
          cases h
          exact next_m w w4 hb ep A c l hC hc k 0 he rfl h4 38 39 _ Try.func38 rfl rfl _ _ gi hg hgl _ (hm _ hb')
        · rw [if_neg h4] at h
          by_cases h5 : 1 ≤ ep ∧ ep ≤ 1099511627775 ∧ 1 ≤ i ∧ i < l.length
          · rw [if_pos h5] at h
            cases h
            obtain ⟨i, rfl⟩ : ∃ n : Nat, i = n := ⟨i.toNat, by omega⟩
            refine next_any w w4 hb ep A c l hC hc k hl he h5.1 h5.2.1 38 39 _ _ Try.func38 rfl rfl Try.func39 rfl rfl _ _ gi hg hgl _ (hm _ hb') (fun u u' hj hu => ⟨blk_below hj.1 hu, blk_below hj.2 hu⟩) _ ?_
            intro u base v hj hu hbase hbu hR
            exact merge2 u base v l hR gi i hj.1 (by omega) hl
          · rw [if_neg h5] at h; cases h
    · rw [if_neg hl] at h; cases h
  · rw [if_neg e0] at h
    cases h
    exact next_e w w4 hb ep A c l hC hc k _ he e0 38 39 _ Try.func38 rfl rfl _ _ gi hg hgl (fun _ => True)
def moveF (k : Nat) (ep : Int) (l : List S46) (a : ByteArray) (n : Int) : Option (Int × List S46 × Int) :=
  (atlas_Check.f k ep l).bind fun e => if e = 0 then (if l.length ≤ 8 then (atlas_Find.f k ep l a).bind fun s => if s.2 = true ∧ 0 ≤ s.1 ∧ s.1 < l.length then (if mayV l n s.1 = true then (if ep = 1099511627776 then some (0, [], 4) else if 1 ≤ ep ∧ ep ≤ 1099511627775 then some (ep + 1, l.set s.1.toNat (⟨(rd_T46 l s.1).f0, n⟩ : S46), 0) else none) else some (0, [], 14)) else none else none) else some (0, [], e)
theorem moveF_mono (a0 : Int) (a1 : List S46) (a2 : ByteArray) (a3 : Int) (k : Nat) : LeO (moveF k a0 a1 a2 a3) (moveF (k + 1) a0 a1 a2 a3) := by
  unfold moveF
  refine LeO.bind (atlas_Check.mono _ _ _) fun _ => LeO.ite (LeO.ite (LeO.bind (atlas_Find.mono _ _ _ _) fun _ => LeO.refl _) (LeO.refl _)) (LeO.refl _)
theorem move_calls (k : Nat) (ep : Int) (A : Option Addr) (c : Nat) (l : List S46) (a : ByteArray) (n : Int) (r1 : Int) (r2 : List S46) (r3 : Int) (w : World) (hC : Kd.C k46 w A l.length l) (hc : l.length ≤ c) (h : moveF k ep l a n = some (r1, r2, r3)) :
    Calls Try.prog 24 #[.agg #[.int .i64 ep, .slice A l.length c], .string a, .int .i64 n] w fun e w' => ∃ v1_ : Value, e = .returned (.tuple #[.agg #[.int .i64 r1, v1_], .int .i64 r3]) ∧ Kd.R k46 46 w' w.heap.size (fun _ => True) v1_ r2 ∧ Below w.heap.size w w' := by
  unfold moveF at h
  obtain ⟨e, he, h⟩ := Option.bind_eq_some_iff.mp h
  refine move_walk w ep A c l a n r1 r2 r3 (fun w4 ga gi gn hb ha hn hni hi hg => ?_)
  have hgl := blk_lt hi
  by_cases e0 : e = 0
  · rw [if_pos e0] at h
    subst e0
    by_cases hl : l.length ≤ 8
    · rw [if_pos hl] at h
      obtain ⟨⟨i, is⟩, hs, h⟩ := Option.bind_eq_some_iff.mp h
      by_cases hin : is = true ∧ 0 ≤ i ∧ i < l.length
      case neg => rw [if_neg (by simpa using hin)] at h; cases h
      rw [if_pos hin] at h
      obtain ⟨rfl, hi0, hi1⟩ := hin
      have hm : ∀ b, mayV l n i = b → ∀ w', Below w4.heap.size w4 w' → Calls Try.prog 41 (#[.agg #[.int .i64 ep, .slice A l.length c]] ++ #[.pointer (some ⟨ga, 0, none⟩), .pointer (some ⟨gi, 0, none⟩), .pointer (some ⟨gn, 0, none⟩)]) w' fun e w'' => e = .returned (.bool b) ∧ Turned gi w' w'' ∧ (w''.heap[gi]? = some (.cells #[.int .i64 i] 3 (0, 0)) ∧ w''.heap[gn]? = some (.cells #[.int .i64 n] 3 (0, 0))) := by
        intro b hbm w' hw'
        have hne : ga ≠ gi := blk_ne ha hi (by decide)
        refine (may_move w w' (below_step hb hw') ep A c l hC hc k a n i hs ga gi gn (blk_below ha hw') (blk_below hi hw') (blk_below hn hw') hni hg hi0 hi1 hl).mono ?_
        rintro e w'' ⟨rfl, hT, hJ⟩
        exact ⟨by rw [← hbm], hT, hJ, hT.blk (blk_below hn hw') hni⟩
      cases hb' : mayV l n i with
      | false =>
        rw [show mayV l n (i, true).1 = false from hb', if_neg (by decide)] at h
        cases h
        exact next_b w w4 hb ep A c l hC hc k 0 he rfl 41 42 _ Try.func41 rfl rfl _ _ gi hg hgl _ (hm _ hb')
      | true =>
        rw [show mayV l n (i, true).1 = true from hb', if_pos rfl] at h
        by_cases h4 : ep = 1099511627776
        · rw [if_pos h4] at h
          cases h
          exact next_m w w4 hb ep A c l hC hc k 0 he rfl h4 41 42 _ Try.func41 rfl rfl _ _ gi hg hgl _ (hm _ hb')
        · rw [if_neg h4] at h
          by_cases h5 : 1 ≤ ep ∧ ep ≤ 1099511627775
          · rw [if_pos h5] at h
            cases h
            obtain ⟨i, rfl⟩ : ∃ n : Nat, i = n := ⟨i.toNat, by omega⟩
            refine next_any w w4 hb ep A c l hC hc k hl he h5.1 h5.2 41 42 _ _ Try.func41 rfl rfl Try.func42 rfl rfl _ _ gi hg hgl _ (hm _ hb') (fun u u' hj hu => ⟨blk_below hj.1 hu, blk_below hj.2 hu⟩) _ ?_
            intro u base v hj hu hbase hbu hR
            exact move2 u base v l hR gn gi i n hj.2 hj.1 (by omega) hl hbu
          · rw [if_neg h5] at h; cases h
    · rw [if_neg hl] at h; cases h
  · rw [if_neg e0] at h
    cases h
    exact next_e w w4 hb ep A c l hC hc k _ he e0 41 42 _ Try.func41 rfl rfl _ _ gi hg hgl (fun _ => True)
end Go.Proofs.Ytmgjccpolkhhhaa.Ij
