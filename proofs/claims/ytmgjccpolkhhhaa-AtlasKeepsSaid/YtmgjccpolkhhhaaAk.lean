/- DERIVED. act with a row of the call's own, and AtlasKeeps. Conditions: those that each theorem names. Written by mkak.py. -/
import Derived.Test.YtmgjccpolkhhhaaIj
import Derived.Deep.RegionHeld3
import Derived.Test.YtmgjccpolkhhhaaPAllx10
import Derived.Test.YtmgjccpolkhhhaaPAllx10
import Derived.Test.YtmgjccpolkhhhaaPAllx14
namespace Go.Proofs.Ytmgjccpolkhhhaa.Ak
open Go.Shelf Go.RowKit Go.Lib Go.Proofs.Ytmgjccpolkhhhaa.PAll Go.Proofs.YtmgjccpolkhhhaaW.PrintWords Go.Proofs.YtmgjccpolkhhhaaW.PrintLast Go.Proofs.Ytmgjccpolkhhhaa.Hl Go.Proofs.Ytmgjccpolkhhhaa.Ic Go.Proofs.Ytmgjccpolkhhhaa.In Go.Proofs.Ytmgjccpolkhhhaa.Is Go.Proofs.Ytmgjccpolkhhhaa.Id Go.Proofs.Ytmgjccpolkhhhaa.Ie Go.Proofs.Ytmgjccpolkhhhaa.If Go.Proofs.Ytmgjccpolkhhhaa.Ig Go.Proofs.Ytmgjccpolkhhhaa.Ih Go.Proofs.Ytmgjccpolkhhhaa.Ij
set_option linter.unusedSimpArgs false
set_option linter.unusedVariables false
set_option maxHeartbeats 4000000 in
set_option maxRecDepth 100000 in
theorem act_split (k : Nat) (ep : Int) (A : Option Addr) (c : Nat) (l : List S46) (a : ByteArray) (n : Int) (r1 : Int) (r2 : List S46) (r3 : Int) (w : World) (hC : Kd.C k46 w A l.length l) (hc : l.length ≤ c) (h : splitF k ep l a = some (r1, r2, r3)) :
    Calls Try.prog 20 #[.agg #[.int .i64 ep, .slice A l.length c], .agg #[.int .i64 1, .string a, .int .i64 n]] w fun e w' => ∃ v1_ : Value, e = .returned (.tuple #[.agg #[.int .i64 r1, v1_], .int .i64 r3]) ∧ Kd.R k46 46 w' w.heap.size (fun _ => True) v1_ r2 ∧ Below w.heap.size w w' := by
  have hu24 := Try.underlying24
  have hu40 := Try.underlying40
  have HC := Aside0.mk hC
  have HX := Aside0.mk h
  clear hC h
  go_enter Try.func20, Try.ntmps20
  go_wp2_with (first
   | ((with_reducible refine gate_dst (N := 2) rfl ?_); refine box_event ?hg (N := 2) ?hd (cs := #[.int .i64 ep, .slice A l.length c]) (t := 24) ?hr ?_; (case hd => rfl); (case hg => rfl); (case hr => first | (go_simp; done) | (go_simp; rfl)); intro g2 hg w1 hbox hb; have L2 := Aside0.mk (show w.heap.size ≤ g2 by omega); have B2 := Aside0.mk hbox; have Hw1 := Aside0.mk hb; clear hb hbox hg) | ((with_reducible refine gate_dst (N := 3) rfl ?_); refine box_event ?hg (N := 3) ?hd (cs := #[.int .i64 1, .string a, .int .i64 n]) (t := 40) ?hr ?_; (case hd => rfl); (case hg => rfl); (case hr => first | (go_simp; done) | (go_simp; rfl)); intro g3 hg w2 hbox hb; have L3 := Aside0.mk (show w1.heap.size ≤ g3 by omega); have B3 := Aside0.mk hbox; have Hw2 := Aside0.mk hb; have B2b := Aside0.mk (blk_below B2.out hb); clear hb hbox hg) | ((with_reducible refine gate_dst (N := 4) rfl ?_); refine box_event ?hg (N := 4) ?hd (cs := #[.int .i64 0, .slice none 0 0]) (t := 24) ?hr ?_; (case hd => rfl); (case hg => rfl); (case hr => first | (go_simp; done) | (go_simp; rfl)); intro g4 hg w3 hbox hb; have L4 := Aside0.mk (show w2.heap.size ≤ g4 by omega); have B4 := Aside0.mk hbox; have Hw3 := Aside0.mk hb; have B2c := Aside0.mk (blk_below B2b.out hb); have B3c := Aside0.mk (blk_below B3.out hb); clear hb hbox hg; have hc2_0 : w3.cell? ⟨g2, 0, none⟩ = some (.int .i64 ep) := (blk_cell B2c.out 0).trans rfl; have hc2_1 : w3.cell? ⟨g2, 1, none⟩ = some (.slice A l.length c) := (blk_cell B2c.out 1).trans rfl; have hc3_0 : w3.cell? ⟨g3, 0, none⟩ = some (.int .i64 1) := (blk_cell B3c.out 0).trans rfl; have hc3_1 : w3.cell? ⟨g3, 1, none⟩ = some (.string a) := (blk_cell B3c.out 1).trans rfl; have hc3_2 : w3.cell? ⟨g3, 2, none⟩ = some (.int .i64 n) := (blk_cell B3c.out 2).trans rfl) | ((with_reducible refine gate_callee (f := 22) rfl ?_); refine goesL_ (some 13) rfl rfl Try.func22 (by kernel_rfl) rfl #[.agg #[.int .i64 ep, .slice A l.length c], .string a] rfl (by (try simp only [List.map_toArray, List.map_cons, List.map_nil]); first | done | rfl) ?_; (with_reducible refine (split_calls k ep A c l a r1 r2 r3 w3 (Kd.C_below HC.out (below_step (below_step Hw1.out Hw2.out) Hw3.out)) hc HX.out).mono ?_); rintro e w5 ⟨v', rfl, hR, hT⟩; obtain ⟨A5, c5, e5⟩ := Kd.R_slice hR; subst e5; refine ⟨_, rfl, ?_⟩; have HR := Aside0.mk hR; have HT := Aside0.mk hT; have B4f := Aside0.mk (blk_below B4.out hT); clear hR hT; have hc4_0 : w5.cell? ⟨g4, 0, none⟩ = some (.int .i64 0) := (blk_cell B4f.out 0).trans rfl; have hc4_1 : w5.cell? ⟨g4, 1, none⟩ = some (.slice none 0 0) := (blk_cell B4f.out 1).trans rfl; have hf4_0 := blk_frozen B4f.out 0; have hf4_1 := blk_frozen B4f.out 1))
  refine bodyPost_ret (results_ct rfl _ _ g4 24 #[.int .i64 r1, .slice A5 r2.length c5] (0, 0) _ rfl (by refine blk_put (cs := #[.int .i64 r1, .slice none 0 0]) ?_ 1 _ rfl; refine blk_put (cs := #[.int .i64 0, .slice none 0 0]) ?_ 0 _ rfl; exact B4f.out) Try.underlying24 rfl (by kernel_rfl)) rfl ?_
  have l4 : w.heap.size ≤ g4 := by have := L4.out; have := Hw1.out.size; have := Hw2.out.size; omega
  have hb3 := below_step (below_step Hw1.out Hw2.out) Hw3.out
  refine ⟨_, rfl, ?_, ?_⟩
  · exact Kd.R_lower (Kd.R_mono (Kd.R_far (p := ⟨g4, 1, none⟩) (Kd.R_far (p := ⟨g4, 0, none⟩) (Kd.R_types HR.out B4f.out (by decide)) (fun _ hk => hk.2) _) (fun _ hk => hk.2) _) (fun _ hk => trivial)) hb3.size
  · exact ((below_step hb3 HT.out).setCell (p := ⟨g4, 0, none⟩) l4 _).setCell (p := ⟨g4, 1, none⟩) l4 _
set_option maxHeartbeats 4000000 in
set_option maxRecDepth 100000 in
theorem act_merge (k : Nat) (ep : Int) (A : Option Addr) (c : Nat) (l : List S46) (a : ByteArray) (n : Int) (r1 : Int) (r2 : List S46) (r3 : Int) (w : World) (hC : Kd.C k46 w A l.length l) (hc : l.length ≤ c) (h : mergeF k ep l a = some (r1, r2, r3)) :
    Calls Try.prog 20 #[.agg #[.int .i64 ep, .slice A l.length c], .agg #[.int .i64 2, .string a, .int .i64 n]] w fun e w' => ∃ v1_ : Value, e = .returned (.tuple #[.agg #[.int .i64 r1, v1_], .int .i64 r3]) ∧ Kd.R k46 46 w' w.heap.size (fun _ => True) v1_ r2 ∧ Below w.heap.size w w' := by
  have hu24 := Try.underlying24
  have hu40 := Try.underlying40
  have HC := Aside0.mk hC
  have HX := Aside0.mk h
  clear hC h
  go_enter Try.func20, Try.ntmps20
  go_wp2_with (first
   | ((with_reducible refine gate_dst (N := 2) rfl ?_); refine box_event ?hg (N := 2) ?hd (cs := #[.int .i64 ep, .slice A l.length c]) (t := 24) ?hr ?_; (case hd => rfl); (case hg => rfl); (case hr => first | (go_simp; done) | (go_simp; rfl)); intro g2 hg w1 hbox hb; have L2 := Aside0.mk (show w.heap.size ≤ g2 by omega); have B2 := Aside0.mk hbox; have Hw1 := Aside0.mk hb; clear hb hbox hg) | ((with_reducible refine gate_dst (N := 3) rfl ?_); refine box_event ?hg (N := 3) ?hd (cs := #[.int .i64 2, .string a, .int .i64 n]) (t := 40) ?hr ?_; (case hd => rfl); (case hg => rfl); (case hr => first | (go_simp; done) | (go_simp; rfl)); intro g3 hg w2 hbox hb; have L3 := Aside0.mk (show w1.heap.size ≤ g3 by omega); have B3 := Aside0.mk hbox; have Hw2 := Aside0.mk hb; have B2b := Aside0.mk (blk_below B2.out hb); clear hb hbox hg) | ((with_reducible refine gate_dst (N := 4) rfl ?_); refine box_event ?hg (N := 4) ?hd (cs := #[.int .i64 0, .slice none 0 0]) (t := 24) ?hr ?_; (case hd => rfl); (case hg => rfl); (case hr => first | (go_simp; done) | (go_simp; rfl)); intro g4 hg w3 hbox hb; have L4 := Aside0.mk (show w2.heap.size ≤ g4 by omega); have B4 := Aside0.mk hbox; have Hw3 := Aside0.mk hb; have B2c := Aside0.mk (blk_below B2b.out hb); have B3c := Aside0.mk (blk_below B3.out hb); clear hb hbox hg; have hc2_0 : w3.cell? ⟨g2, 0, none⟩ = some (.int .i64 ep) := (blk_cell B2c.out 0).trans rfl; have hc2_1 : w3.cell? ⟨g2, 1, none⟩ = some (.slice A l.length c) := (blk_cell B2c.out 1).trans rfl; have hc3_0 : w3.cell? ⟨g3, 0, none⟩ = some (.int .i64 2) := (blk_cell B3c.out 0).trans rfl; have hc3_1 : w3.cell? ⟨g3, 1, none⟩ = some (.string a) := (blk_cell B3c.out 1).trans rfl; have hc3_2 : w3.cell? ⟨g3, 2, none⟩ = some (.int .i64 n) := (blk_cell B3c.out 2).trans rfl) | ((with_reducible refine gate_callee (f := 23) rfl ?_); refine goesL_ (some 21) rfl rfl Try.func23 (by kernel_rfl) rfl #[.agg #[.int .i64 ep, .slice A l.length c], .string a] rfl (by (try simp only [List.map_toArray, List.map_cons, List.map_nil]); first | done | rfl) ?_; (with_reducible refine (merge_calls k ep A c l a r1 r2 r3 w3 (Kd.C_below HC.out (below_step (below_step Hw1.out Hw2.out) Hw3.out)) hc HX.out).mono ?_); rintro e w5 ⟨v', rfl, hR, hT⟩; obtain ⟨A5, c5, e5⟩ := Kd.R_slice hR; subst e5; refine ⟨_, rfl, ?_⟩; have HR := Aside0.mk hR; have HT := Aside0.mk hT; have B4f := Aside0.mk (blk_below B4.out hT); clear hR hT; have hc4_0 : w5.cell? ⟨g4, 0, none⟩ = some (.int .i64 0) := (blk_cell B4f.out 0).trans rfl; have hc4_1 : w5.cell? ⟨g4, 1, none⟩ = some (.slice none 0 0) := (blk_cell B4f.out 1).trans rfl; have hf4_0 := blk_frozen B4f.out 0; have hf4_1 := blk_frozen B4f.out 1))
  refine bodyPost_ret (results_ct rfl _ _ g4 24 #[.int .i64 r1, .slice A5 r2.length c5] (0, 0) _ rfl (by refine blk_put (cs := #[.int .i64 r1, .slice none 0 0]) ?_ 1 _ rfl; refine blk_put (cs := #[.int .i64 0, .slice none 0 0]) ?_ 0 _ rfl; exact B4f.out) Try.underlying24 rfl (by kernel_rfl)) rfl ?_
  have l4 : w.heap.size ≤ g4 := by have := L4.out; have := Hw1.out.size; have := Hw2.out.size; omega
  have hb3 := below_step (below_step Hw1.out Hw2.out) Hw3.out
  refine ⟨_, rfl, ?_, ?_⟩
  · exact Kd.R_lower (Kd.R_mono (Kd.R_far (p := ⟨g4, 1, none⟩) (Kd.R_far (p := ⟨g4, 0, none⟩) (Kd.R_types HR.out B4f.out (by decide)) (fun _ hk => hk.2) _) (fun _ hk => hk.2) _) (fun _ hk => trivial)) hb3.size
  · exact ((below_step hb3 HT.out).setCell (p := ⟨g4, 0, none⟩) l4 _).setCell (p := ⟨g4, 1, none⟩) l4 _
set_option maxHeartbeats 4000000 in
set_option maxRecDepth 100000 in
theorem act_move (k : Nat) (ep : Int) (A : Option Addr) (c : Nat) (l : List S46) (a : ByteArray) (n : Int) (r1 : Int) (r2 : List S46) (r3 : Int) (w : World) (hC : Kd.C k46 w A l.length l) (hc : l.length ≤ c) (h : moveF k ep l a n = some (r1, r2, r3)) :
    Calls Try.prog 20 #[.agg #[.int .i64 ep, .slice A l.length c], .agg #[.int .i64 3, .string a, .int .i64 n]] w fun e w' => ∃ v1_ : Value, e = .returned (.tuple #[.agg #[.int .i64 r1, v1_], .int .i64 r3]) ∧ Kd.R k46 46 w' w.heap.size (fun _ => True) v1_ r2 ∧ Below w.heap.size w w' := by
  have hu24 := Try.underlying24
  have hu40 := Try.underlying40
  have HC := Aside0.mk hC
  have HX := Aside0.mk h
  clear hC h
  go_enter Try.func20, Try.ntmps20
  go_wp2_with (first
   | ((with_reducible refine gate_dst (N := 2) rfl ?_); refine box_event ?hg (N := 2) ?hd (cs := #[.int .i64 ep, .slice A l.length c]) (t := 24) ?hr ?_; (case hd => rfl); (case hg => rfl); (case hr => first | (go_simp; done) | (go_simp; rfl)); intro g2 hg w1 hbox hb; have L2 := Aside0.mk (show w.heap.size ≤ g2 by omega); have B2 := Aside0.mk hbox; have Hw1 := Aside0.mk hb; clear hb hbox hg) | ((with_reducible refine gate_dst (N := 3) rfl ?_); refine box_event ?hg (N := 3) ?hd (cs := #[.int .i64 3, .string a, .int .i64 n]) (t := 40) ?hr ?_; (case hd => rfl); (case hg => rfl); (case hr => first | (go_simp; done) | (go_simp; rfl)); intro g3 hg w2 hbox hb; have L3 := Aside0.mk (show w1.heap.size ≤ g3 by omega); have B3 := Aside0.mk hbox; have Hw2 := Aside0.mk hb; have B2b := Aside0.mk (blk_below B2.out hb); clear hb hbox hg) | ((with_reducible refine gate_dst (N := 4) rfl ?_); refine box_event ?hg (N := 4) ?hd (cs := #[.int .i64 0, .slice none 0 0]) (t := 24) ?hr ?_; (case hd => rfl); (case hg => rfl); (case hr => first | (go_simp; done) | (go_simp; rfl)); intro g4 hg w3 hbox hb; have L4 := Aside0.mk (show w2.heap.size ≤ g4 by omega); have B4 := Aside0.mk hbox; have Hw3 := Aside0.mk hb; have B2c := Aside0.mk (blk_below B2b.out hb); have B3c := Aside0.mk (blk_below B3.out hb); clear hb hbox hg; have hc2_0 : w3.cell? ⟨g2, 0, none⟩ = some (.int .i64 ep) := (blk_cell B2c.out 0).trans rfl; have hc2_1 : w3.cell? ⟨g2, 1, none⟩ = some (.slice A l.length c) := (blk_cell B2c.out 1).trans rfl; have hc3_0 : w3.cell? ⟨g3, 0, none⟩ = some (.int .i64 3) := (blk_cell B3c.out 0).trans rfl; have hc3_1 : w3.cell? ⟨g3, 1, none⟩ = some (.string a) := (blk_cell B3c.out 1).trans rfl; have hc3_2 : w3.cell? ⟨g3, 2, none⟩ = some (.int .i64 n) := (blk_cell B3c.out 2).trans rfl) | ((with_reducible refine gate_callee (f := 24) rfl ?_); refine goesL_ (some 31) rfl rfl Try.func24 (by kernel_rfl) rfl #[.agg #[.int .i64 ep, .slice A l.length c], .string a, .int .i64 n] rfl (by (try simp only [List.map_toArray, List.map_cons, List.map_nil]); first | done | rfl) ?_; (with_reducible refine (move_calls k ep A c l a n r1 r2 r3 w3 (Kd.C_below HC.out (below_step (below_step Hw1.out Hw2.out) Hw3.out)) hc HX.out).mono ?_); rintro e w5 ⟨v', rfl, hR, hT⟩; obtain ⟨A5, c5, e5⟩ := Kd.R_slice hR; subst e5; refine ⟨_, rfl, ?_⟩; have HR := Aside0.mk hR; have HT := Aside0.mk hT; have B4f := Aside0.mk (blk_below B4.out hT); clear hR hT; have hc4_0 : w5.cell? ⟨g4, 0, none⟩ = some (.int .i64 0) := (blk_cell B4f.out 0).trans rfl; have hc4_1 : w5.cell? ⟨g4, 1, none⟩ = some (.slice none 0 0) := (blk_cell B4f.out 1).trans rfl; have hf4_0 := blk_frozen B4f.out 0; have hf4_1 := blk_frozen B4f.out 1))
  refine bodyPost_ret (results_ct rfl _ _ g4 24 #[.int .i64 r1, .slice A5 r2.length c5] (0, 0) _ rfl (by refine blk_put (cs := #[.int .i64 r1, .slice none 0 0]) ?_ 1 _ rfl; refine blk_put (cs := #[.int .i64 0, .slice none 0 0]) ?_ 0 _ rfl; exact B4f.out) Try.underlying24 rfl (by kernel_rfl)) rfl ?_
  have l4 : w.heap.size ≤ g4 := by have := L4.out; have := Hw1.out.size; have := Hw2.out.size; omega
  have hb3 := below_step (below_step Hw1.out Hw2.out) Hw3.out
  refine ⟨_, rfl, ?_, ?_⟩
  · exact Kd.R_lower (Kd.R_mono (Kd.R_far (p := ⟨g4, 1, none⟩) (Kd.R_far (p := ⟨g4, 0, none⟩) (Kd.R_types HR.out B4f.out (by decide)) (fun _ hk => hk.2) _) (fun _ hk => hk.2) _) (fun _ hk => trivial)) hb3.size
  · exact ((below_step hb3 HT.out).setCell (p := ⟨g4, 0, none⟩) l4 _).setCell (p := ⟨g4, 1, none⟩) l4 _
set_option maxHeartbeats 4000000 in
set_option maxRecDepth 100000 in
theorem act_old (ep : Int) (A : Option Addr) (c n0 : Nat) (kind : Int) (a : ByteArray) (n : Int) (w : World) (h1 : kind ≠ 1) (h2 : kind ≠ 2) (h3 : kind ≠ 3) :
    Calls Try.prog 20 #[.agg #[.int .i64 ep, .slice A n0 c], .agg #[.int .i64 kind, .string a, .int .i64 n]] w fun e w' => e = .returned (.tuple #[.agg #[.int .i64 ep, .slice A n0 c], .int .i64 0]) ∧ Below w.heap.size w w' := by
  have hu24 := Try.underlying24
  have hu40 := Try.underlying40
  have q1 : (kind == 1) = false := beq_eq_false_iff_ne.2 h1
  have q2 : (kind == 2) = false := beq_eq_false_iff_ne.2 h2
  have q3 : (kind == 3) = false := beq_eq_false_iff_ne.2 h3
  clear h1 h2 h3
  go_enter Try.func20, Try.ntmps20
  go_wp2_with (first
   | ((with_reducible refine gate_dst (N := 2) rfl ?_); refine box_event ?hg (N := 2) ?hd (cs := #[.int .i64 ep, .slice A n0 c]) (t := 24) ?hr ?_; (case hd => rfl); (case hg => rfl); (case hr => first | (go_simp; done) | (go_simp; rfl)); intro g2 hg w1 hbox hb; have L2 := Aside0.mk (show w.heap.size ≤ g2 by omega); have B2 := Aside0.mk hbox; have Hw1 := Aside0.mk hb; clear hb hbox hg) | ((with_reducible refine gate_dst (N := 3) rfl ?_); refine box_event ?hg (N := 3) ?hd (cs := #[.int .i64 kind, .string a, .int .i64 n]) (t := 40) ?hr ?_; (case hd => rfl); (case hg => rfl); (case hr => first | (go_simp; done) | (go_simp; rfl)); intro g3 hg w2 hbox hb; have L3 := Aside0.mk (show w1.heap.size ≤ g3 by omega); have B3 := Aside0.mk hbox; have Hw2 := Aside0.mk hb; have B2b := Aside0.mk (blk_below B2.out hb); clear hb hbox hg) | ((with_reducible refine gate_dst (N := 4) rfl ?_); refine box_event ?hg (N := 4) ?hd (cs := #[.int .i64 0, .slice none 0 0]) (t := 24) ?hr ?_; (case hd => rfl); (case hg => rfl); (case hr => first | (go_simp; done) | (go_simp; rfl)); intro g4 hg w3 hbox hb; have L4 := Aside0.mk (show w2.heap.size ≤ g4 by omega); have B4 := Aside0.mk hbox; have Hw3 := Aside0.mk hb; have B2c := Aside0.mk (blk_below B2b.out hb); have B3c := Aside0.mk (blk_below B3.out hb); clear hb hbox hg; have hc2_0 : w3.cell? ⟨g2, 0, none⟩ = some (.int .i64 ep) := (blk_cell B2c.out 0).trans rfl; have hc2_1 : w3.cell? ⟨g2, 1, none⟩ = some (.slice A n0 c) := (blk_cell B2c.out 1).trans rfl; have hc3_0 : w3.cell? ⟨g3, 0, none⟩ = some (.int .i64 kind) := (blk_cell B3c.out 0).trans rfl; have hc4_0 : w3.cell? ⟨g4, 0, none⟩ = some (.int .i64 0) := (blk_cell B4.out 0).trans rfl; have hc4_1 : w3.cell? ⟨g4, 1, none⟩ = some (.slice none 0 0) := (blk_cell B4.out 1).trans rfl; have hf4_0 := blk_frozen B4.out 0; have hf4_1 := blk_frozen B4.out 1))
  refine bodyPost_ret (results_ct rfl _ _ g4 24 #[.int .i64 ep, .slice A n0 c] (0, 0) _ rfl (by refine blk_put (cs := #[.int .i64 ep, .slice none 0 0]) ?_ 1 _ rfl; refine blk_put (cs := #[.int .i64 0, .slice none 0 0]) ?_ 0 _ rfl; exact B4.out) Try.underlying24 rfl (by kernel_rfl)) rfl ?_
  have l4 : w.heap.size ≤ g4 := by have := L4.out; have := Hw1.out.size; have := Hw2.out.size; omega
  have hb3 := below_step (below_step Hw1.out Hw2.out) Hw3.out
  exact ⟨rfl, (hb3.setCell (p := ⟨g4, 0, none⟩) l4 _).setCell (p := ⟨g4, 1, none⟩) l4 _⟩
theorem keepT_row {l : List S46} {cur : Array Value} (h : cur.toList.take ((l.length + 1) * 2) = rowP (l ++ [(⟨(⟨#[33]⟩ : ByteArray), 0⟩ : S46)])) : cur.toList[l.length * 2]? = some (.string (⟨#[33]⟩ : ByteArray)) := by
  have h1 : (cur.toList.take ((l.length + 1) * 2))[l.length * 2]? = some (.string (⟨#[33]⟩ : ByteArray)) := by
    rw [h, rowP_app, List.getElem?_append_right (by rw [rowP_len]; omega), rowP_len, Nat.sub_self]
    rfl
  rwa [List.getElem?_take, if_pos (by omega)] at h1
theorem keepT {W : World} {g2 go n : Nat} {ep : Int} {v : Value} {cur : Array Value} (h : cur.toList[n * 2]? = some (.string (⟨#[33]⟩ : ByteArray))) (h2 : W.heap[g2]? = some (.cells #[.int .i64 ep, v] 24 (0, 0))) (h3 : W.heap[go]? = some (.cells cur 46 (0, 0))) : W.cell? ⟨g2, 0, none⟩ = some (.int .i64 ep) ∧ W.cell? ⟨g2, 1, none⟩ = some v ∧ W.cell? ⟨go, n * 2, none⟩ = some (.string (⟨#[33]⟩ : ByteArray)) := by
  refine ⟨(blk_cell h2 0).trans rfl, (blk_cell h2 1).trans rfl, (blk_cell h3 _).trans ?_⟩
  simpa using h
theorem doneA_R {w8 : World} {base : Nat} {v : Value} {xs : List S46} {o : Obj} (h : Kd.R k46 46 w8 base (fun _ => True) v xs) : Kd.R k46 46 (w8.alloc o) base (fun k => k ≠ w8.heap.size) v xs :=
  Kd.R_alloc (Kd.R_mono (Kd.R_bound h) (fun k hk => by have := hk.2.2.1; omega)) o
theorem doneB_B {w8 : World} {g : Nat} {x v : Value} (h : w8.heap[g]? = some (.cells #[.int .i64 0, .slice none 0 0] 24 (0, 0))) : ((w8.setCell ⟨g, 0, none⟩ x).setCell ⟨g, 1, none⟩ v).heap[g]? = some (.cells #[x, v] 24 (0, 0)) := by
  refine blk_put (cs := #[x, .slice none 0 0]) ?_ 1 _ rfl
  exact blk_put (cs := #[.int .i64 0, .slice none 0 0]) h 0 _ rfl
theorem doneB_R {w7 w8 : World} {v x : Value} {xs : List S46} {o : Obj} {cs : Array Value} (h : Kd.R k46 46 w8 (w7.alloc o).drew.heap.size (fun _ => True) v xs) (hB : w8.heap[w7.heap.size]? = some (.cells cs 24 (0, 0))) : Kd.R k46 46 ((w8.setCell ⟨w7.heap.size, 0, none⟩ x).setCell ⟨w7.heap.size, 1, none⟩ v) w7.heap.size (fun k => k ≠ w7.heap.size) v xs := by
  refine Kd.R_lower ?_ (show w7.heap.size ≤ (w7.alloc o).heap.size from (below_size (Below.alloc (Below.refl w7.heap.size w7) (Nat.le_refl _) o)))
  exact Kd.R_mono (Kd.R_far (p := ⟨w7.heap.size, 1, none⟩) (Kd.R_far (p := ⟨w7.heap.size, 0, none⟩) (Kd.R_types h hB (by decide)) (fun _ hk => hk.2) _) (fun _ hk => hk.2) _) (fun k hk => hk.2)
theorem doneB_W {w7 w8 : World} {x v : Value} {o : Obj} (h : Below (w7.alloc o).drew.heap.size (w7.alloc o).drew w8) : Below w7.heap.size w7 ((w8.setCell ⟨w7.heap.size, 0, none⟩ x).setCell ⟨w7.heap.size, 1, none⟩ v) :=
  ((below_step (below_drew1 ((Below.refl w7.heap.size w7).alloc (Nat.le_refl _) o)) h).setCell (p := ⟨w7.heap.size, 0, none⟩) (Nat.le_refl _) _).setCell (p := ⟨w7.heap.size, 1, none⟩) (Nat.le_refl _) _
theorem keepS {W : World} {g2 g3 : Nat} {ep kind n : Int} {a : ByteArray} {v : Value} (h2 : W.heap[g2]? = some (.cells #[.int .i64 ep, v] 24 (0, 0))) (h3 : W.heap[g3]? = some (.cells #[.int .i64 kind, .string a, .int .i64 n] 40 (0, 0))) : W.cell? ⟨g2, 0, none⟩ = some (.int .i64 ep) ∧ W.cell? ⟨g2, 1, none⟩ = some v ∧ W.cell? ⟨g3, 0, none⟩ = some (.int .i64 kind) ∧ W.cell? ⟨g3, 1, none⟩ = some (.string a) ∧ W.cell? ⟨g3, 2, none⟩ = some (.int .i64 n) := ⟨(blk_cell h2 0).trans rfl, (blk_cell h2 1).trans rfl, (blk_cell h3 0).trans rfl, (blk_cell h3 1).trans rfl, (blk_cell h3 2).trans rfl⟩
def quest : S46 := ⟨(⟨#[63]⟩ : ByteArray), 0⟩
def bang : S46 := ⟨(⟨#[33]⟩ : ByteArray), 0⟩
theorem apart {w : World} {base g : Nat} {ok : Nat → Prop} {S : Value} {xs : List S46} {cs : Array Value} {t : TypeId} (hR : Kd.R k46 46 w base ok S xs) (hb : w.heap[g]? = some (.cells cs t (0, 0))) (ht : t ≠ 46) : some g ≠ S.ownBlock := by
  rcases R_cells hR with ⟨rfl, _⟩ | ⟨g', c, cur, rfl, _, _, hh, _⟩
  · simp [Value.ownBlock]
  · intro e
    have e' : g = g' := by simpa [Value.ownBlock] using e
    subst e'
    rw [hb] at hh
    cases hh
    exact ht rfl
set_option maxHeartbeats 4000000 in
set_option maxRecDepth 100000 in
theorem keeps_new (k0 kL kS : Nat) (ep : Int) (A : Option Addr) (c : Nat) (l : List S46) (kind : Int) (a : ByteArray) (n : Int) (w : World) (hC : Kd.C k46 w A l.length l) (hc : l.length ≤ c) (haw : shelfmarklaw12_awake.f k0 = some true) (hL : shelfmarkref12_Light.f kL ep l = some true) (ha : a.size ≤ 300) (hln : l.length ≤ 1000) (hk1 : 1 ≤ kind) (hk3 : kind ≤ 3) (hS : shelfmarkref12_Same.f kS ep l ep l = some true) (r1 : Int) (r2 : List S46) (r3 : Int) (hr2 : r2.length ≤ 1000)
    (hact : ∀ (w1 : World) (A1 : Option Addr) (c1 : Nat), Kd.C k46 w1 A1 l.length l → l.length ≤ c1 → Calls Try.prog 20 #[.agg #[.int .i64 ep, .slice A1 l.length c1], .agg #[.int .i64 kind, .string a, .int .i64 n]] w1 fun e w' => ∃ v1_ : Value, e = .returned (.tuple #[.agg #[.int .i64 r1, v1_], .int .i64 r3]) ∧ Kd.R k46 46 w' w1.heap.size (fun _ => True) v1_ r2 ∧ Below w1.heap.size w1 w') :
    Calls Try.prog 6 #[.agg #[.int .i64 ep, .slice A l.length c], .agg #[.int .i64 kind, .string a, .int .i64 n]] w fun e w' => e = .returned (.bool true) ∧ Below w.heap.size w w' := by
  have hu24 := Try.underlying24
  have hu40 := Try.underlying40
  have hu46 := Try.underlying46
  have HC := Aside0.mk hC
  have HAW := Aside0.mk haw
  have HL := Aside0.mk hL
  have HS := Aside0.mk hS
  have HACT := Aside0.mk hact
  have HLN := Aside0.mk hln
  have HR2 := Aside0.mk hr2
  have mixed : Try.prog.follows Departure.mixedOrders = true := by kernel_rfl
  have q0 : ((a.size : Int) > 300) = False := eq_false (by omega)
  clear hC haw hL hS hact hln ha hr2
  go_enter Try.func6, Try.ntmps6
  go_upto_region 6 with (first
   | ((with_reducible refine gate_dst (N := 2) rfl ?_); refine box_event ?hg (N := 2) ?hd (cs := #[.int .i64 ep, .slice A l.length c]) (t := 24) ?hr ?_; (case hd => rfl); (case hg => rfl); (case hr => first | (go_simp; done) | (go_simp; rfl)); intro g2 hg w1 hbox hb; have L2 := Aside0.mk (show w.heap.size ≤ g2 by omega); have B2 := Aside0.mk hbox; have Hw1 := Aside0.mk hb; clear hb hbox hg) | ((with_reducible refine gate_dst (N := 3) rfl ?_); refine box_event ?hg (N := 3) ?hd (cs := #[.int .i64 kind, .string a, .int .i64 n]) (t := 40) ?hr ?_; (case hd => rfl); (case hg => rfl); (case hr => first | (go_simp; done) | (go_simp; rfl)); intro g3 hg w2 hbox hb; have L3 := Aside0.mk (show w1.heap.size ≤ g3 by omega); have B3 := Aside0.mk hbox; have Hw2 := Aside0.mk hb; have B2b := Aside0.mk (blk_below B2.out hb); clear hb hbox hg) | ((with_reducible refine gate_callee (f := 9) rfl ?_); refine goesL_ (some 9) rfl rfl Try.func9 (by kernel_rfl) rfl #[] rfl (by (try simp only [List.map_toArray, List.map_cons, List.map_nil]); first | done | rfl) ?_; (with_reducible refine (shelfmarklaw12_awake.calls k0 true _ HAW.out rfl).mono ?_); rintro e w3 ⟨rfl, hb⟩; refine ⟨_, rfl, ?_⟩; have B2c := Aside0.mk (blk_below B2b.out hb); have B3c := Aside0.mk (blk_below B3.out hb); have Hw3 := Aside0.mk hb; clear hb; have hc2_0 : w3.cell? ⟨g2, 0, none⟩ = some (.int .i64 ep) := (blk_cell B2c.out 0).trans rfl; have hc2_1 : w3.cell? ⟨g2, 1, none⟩ = some (.slice A l.length c) := (blk_cell B2c.out 1).trans rfl) | ((with_reducible refine gate_callee (f := 10) rfl ?_); refine goesL_ (some 12) rfl rfl Try.func10 (by kernel_rfl) rfl #[.agg #[.int .i64 ep, .slice A l.length c]] rfl (by (try simp only [List.map_toArray, List.map_cons, List.map_nil]); first | done | rfl) ?_; (with_reducible refine (shelfmarkref12_Light.calls kL ep _ _ l true _ ?side1 ?side2 HL.out).mono ?_); (case side1 => exact Kd.C_below HC.out (below_step (below_step Hw1.out Hw2.out) Hw3.out)); (case side2 => exact hc); rintro e w4 ⟨rfl, hb⟩; refine ⟨_, rfl, ?_⟩; have B2d := Aside0.mk (blk_below B2c.out hb); have B3d := Aside0.mk (blk_below B3c.out hb); have Hw4 := Aside0.mk hb; clear hc2_0 hc2_1 hb; have hc2_0 : w4.cell? ⟨g2, 0, none⟩ = some (.int .i64 ep) := (blk_cell B2d.out 0).trans rfl; have hc2_1 : w4.cell? ⟨g2, 1, none⟩ = some (.slice A l.length c) := (blk_cell B2d.out 1).trans rfl; have hc3_0 : w4.cell? ⟨g3, 0, none⟩ = some (.int .i64 kind) := (blk_cell B3d.out 0).trans rfl; have hc3_1 : w4.cell? ⟨g3, 1, none⟩ = some (.string a) := (blk_cell B3d.out 1).trans rfl; have hc3_2 : w4.cell? ⟨g3, 2, none⟩ = some (.int .i64 n) := (blk_cell B3d.out 2).trans rfl) | ((with_reducible refine gate_dst (N := 20) rfl ?_); refine Kd.R_lit k46 _ 46 ?hg (N := 20) ?hd (xs := ([] : List (S46))) (inner := []) (ok := fun _ => True) (okp := fun _ => True) ?hr ?hp (fun _ hk => hk) trivial (Below.refl _ _) (Nat.le_refl _) (by simp) ?_; (case hd => rfl); (case hg => rfl); (case hr => first | (go_simp; done) | (go_simp; rfl)); (case hp => exact (Reps.none _ _)); intro v5 w5 ho hb hg_ hnew_; clear hg_ hnew_; have HO5 := Aside0.mk (Kd.R_lower ho (below_step (below_step (below_step Hw1.out Hw2.out) Hw3.out) Hw4.out).size); have Hw5 := Aside0.mk (below_step (below_step (below_step (below_step Hw1.out Hw2.out) Hw3.out) Hw4.out) hb); have B2e := Aside0.mk (blk_below B2d.out hb); have B3e := Aside0.mk (blk_below B3d.out hb); clear hb ho hc2_0 hc2_1 hc3_0 hc3_1 hc3_2; have hc2_0 : w5.cell? ⟨g2, 0, none⟩ = some (.int .i64 ep) := (blk_cell B2e.out 0).trans rfl; have hc2_1 : w5.cell? ⟨g2, 1, none⟩ = some (.slice A l.length c) := (blk_cell B2e.out 1).trans rfl) | ((with_reducible refine gate_builtin (b := .append) (xs := #[.tmp 20, .tmp 22]) rfl ?_); at_builtin; go_loud (refine Kd.R_append_rows k46 (Rr := k46.K w5) (w0 := w) w.heap.size rfl (.tmp 20) (.tmp 22) 22 46 (.agg #[(.string ⟨#[]⟩), (.int .i64 0)]) 24 rfl Try.underlying22 info46 rfl (by decide) (by omega) v5 ([] : List S46) l _ _ _ (fun _ => True) (fun _ => False) rfl rfl ?aO ?aR (fun x cs h => by rw [k46_open h]; exact k46_mkM _ _ _ _) (fun _ h => h.elim) ?aF ?aB ?aS ?aL ?_); (case aR => exact (Kd.C_below HC.out Hw5.out)); (case aB => exact Hw5.out); (case aF => exact (fun _ _ => trivial)); (case aO => exact HO5.out); (case aS => exact Hw5.out.size); (case aL => have := HLN.out; simp only [List.length_nil]; omega); intro v6 w6 ho hb hg hat; rw [List.nil_append] at ho; have B2f := Aside0.mk (blk_grown B2e.out hg (apart HO5.out B2e.out (by decide))); have B3f := Aside0.mk (blk_grown B3e.out hg (apart HO5.out B3e.out (by decide))); have HO6 := Aside0.mk ho; have Hw6 := Aside0.mk hb; clear ho hb hg hat hc2_0 hc2_1) | ((with_reducible refine gate_builtin (b := .append) (xs := #[.tmp 23, .tmp 25]) rfl ?_); at_builtin; go_loud (refine Kd.R_append k46 (w0 := w) w.heap.size rfl (.tmp 23) (.tmp 25) 22 46 (.agg #[(.string ⟨#[]⟩), (.int .i64 0)]) 24 rfl Try.underlying22 info46 rfl (by decide) (by omega) v6 l bang [.string (⟨#[33]⟩ : ByteArray), .int .i64 0] (fun _ => True) (fun _ => False) rfl (by first | (go_simp; done) | (go_simp; rfl)) ?aP (fun _ hk => hk.elim) ?aF ?aO ?aB ?aS ?aL ?_); (case aP => exact k46_mkM _ _ _ bang); (case aB => exact Hw6.out); (case aF => exact (fun _ _ => trivial)); (case aO => exact HO6.out); (case aS => exact Hw6.out.size); (case aL => have := HLN.out; omega); intro v7 w7 ho hb hg hat; have B2g := Aside0.mk (blk_grown B2f.out hg (apart HO6.out B2f.out (by decide))); have B3g := Aside0.mk (blk_grown B3f.out hg (apart HO6.out B3f.out (by decide))); have HO7 := Aside0.mk ho; have Hw7 := Aside0.mk hb; clear ho hb hg hat))
  obtain ⟨go, co, ocur, ev7, hog, hoh, hoc, hom, hos, hot⟩ : ∃ go co cur, v7 = .slice (some ⟨go, 0, none⟩) (l.length + 1) co ∧ w.heap.size ≤ go ∧ w7.heap[go]? = some (.cells cur 46 (0, 0)) ∧ l.length + 1 ≤ co ∧ co ≤ maxLen ∧ cur.size = co * 2 ∧ cur.toList.take ((l.length + 1) * 2) = rowP (l ++ [bang]) := by
    have hl1 : (l ++ [bang]).length = l.length + 1 := by simp
    rcases R_cells HO7.out with ⟨_, h⟩ | ⟨g, c', cur, e, _, h1, h2, h3, h4, h5, h6⟩
    · simp at h
    · rw [hl1] at e h3 h6
      exact ⟨g, c', cur, e, h1, h2, h3, h4, h5, h6⟩
  subst ev7
  have HOC := Aside0.mk (show Kd.C k46 w7 (some ⟨go, 0, none⟩) l.length l from (Kd.R_reads' (cells_R (ok := fun _ => True) (xs := l) (c := co) trivial hog hoh (by omega) hom hos (by
    have h := congrArg (List.take (l.length * 2)) hot
    rw [List.take_take, Nat.min_eq_left (by omega), rowP_take, List.take_left] at h
    exact h))).2.2)
  have HOH := Aside0.mk hoh
  have HOG := Aside0.mk hog
  have HOT := Aside0.mk (show ocur.toList.take ((l.length + 1) * 2) = rowP (l ++ [(⟨(⟨#[33]⟩ : ByteArray), 0⟩ : S46)]) from hot)
  have HOS := Aside0.mk hos
  have q2 : ((l.length : Int) ≤ (co : Int)) = True := eq_true (by omega)
  have q3 : (l.length ≤ co) = True := eq_true (by omega)
  have q4 : (0 ≤ (l.length : Int)) = True := eq_true (by omega)
  have z3 : ((l.length : Int) < (l.length : Int) + 1) = True := eq_true (by omega)
  have HCO := Aside0.mk (show l.length ≤ co by omega)
  have HCM := Aside0.mk (max_int hom)
  clear hog hoh hoc hom hos hot
  have hc2_0 : w7.cell? ⟨g2, 0, none⟩ = some (.int .i64 ep) := (blk_cell B2g.out 0).trans rfl; have hc2_1 : w7.cell? ⟨g2, 1, none⟩ = some (.slice A l.length c) := (blk_cell B2g.out 1).trans rfl; have hc3_0 : w7.cell? ⟨g3, 0, none⟩ = some (.int .i64 kind) := (blk_cell B3g.out 0).trans rfl; have hc3_1 : w7.cell? ⟨g3, 1, none⟩ = some (.string a) := (blk_cell B3g.out 1).trans rfl; have hc3_2 : w7.cell? ⟨g3, 2, none⟩ = some (.int .i64 n) := (blk_cell B3g.out 2).trans rfl
  have HA2 := Aside0.mk ((heap_alloc_old w7 (.cells #[.int .i64 0, .slice none 0 0] 24) (blk_lt B2g.out)).trans B2g.out)
  have HA3 := Aside0.mk ((heap_alloc_old w7 (.cells #[.int .i64 0, .slice none 0 0] 24) (blk_lt B3g.out)).trans B3g.out)
  have hd2_0 : (w7.alloc (.cells #[.int .i64 0, .slice none 0 0] 24)).cell? ⟨g2, 0, none⟩ = some (.int .i64 ep) := (blk_cell HA2.out 0).trans rfl; have hd2_1 : (w7.alloc (.cells #[.int .i64 0, .slice none 0 0] 24)).cell? ⟨g2, 1, none⟩ = some (.slice A l.length c) := (blk_cell HA2.out 1).trans rfl; have hd3_0 : (w7.alloc (.cells #[.int .i64 0, .slice none 0 0] 24)).cell? ⟨g3, 0, none⟩ = some (.int .i64 kind) := (blk_cell HA3.out 0).trans rfl; have hd3_1 : (w7.alloc (.cells #[.int .i64 0, .slice none 0 0] 24)).cell? ⟨g3, 1, none⟩ = some (.string a) := (blk_cell HA3.out 1).trans rfl; have hd3_2 : (w7.alloc (.cells #[.int .i64 0, .slice none 0 0] 24)).cell? ⟨g3, 2, none⟩ = some (.int .i64 n) := (blk_cell HA3.out 2).trans rfl
  have HWS := Aside0.mk (show w.heap.size ≤ w7.heap.size from Hw7.out.size)
  go_cut [6] from 27 to 39 (fun v6 wc => ∃ (g6 : Nat) (A8 : Option Addr) (c8 : Nat), v6 = .pointer (some ⟨g6, 0, none⟩) ∧ Aside0 (wc.heap[g6]? = some (.cells #[.int .i64 r1, .slice A8 r2.length c8] 24 (0, 0))) ∧ Aside0 (Kd.R k46 46 wc w7.heap.size (fun k => k ≠ g6) (.slice A8 r2.length c8) r2) ∧ Aside0 (w7.heap.size ≤ g6) ∧ Aside0 (Below w7.heap.size w7 wc))
  case first =>
   have HNE := Aside0.mk (show g2 < w7.heap.size ∧ g3 < w7.heap.size from ⟨blk_lt B2g.out, blk_lt B3g.out⟩)
   go_region_held3 (fun W : World => W.cell? ⟨g2, 0, none⟩ = some (.int .i64 ep) ∧ W.cell? ⟨g2, 1, none⟩ = some (.slice A l.length c) ∧ W.cell? ⟨g3, 0, none⟩ = some (.int .i64 kind) ∧ W.cell? ⟨g3, 1, none⟩ = some (.string a) ∧ W.cell? ⟨g3, 2, none⟩ = some (.int .i64 n)) (exact keepS (by repeat (first | exact B2g.out | exact B3g.out | exact B2h.out | exact B3h.out | refine blk_drewN ?_ _ | refine blk_drew ?_ | refine blk_alloc ?_ _ | refine blk_far ?_ (by first | (have := HNE.out; show _ ≠ w7.heap.size; omega) | (have := HN8.out; show _ ≠ w8.heap.size; omega)) _)) (by repeat (first | exact B2g.out | exact B3g.out | exact B2h.out | exact B3h.out | refine blk_drewN ?_ _ | refine blk_drew ?_ | refine blk_alloc ?_ _ | refine blk_far ?_ (by first | (have := HNE.out; show _ ≠ w7.heap.size; omega) | (have := HN8.out; show _ ≠ w8.heap.size; omega)) _))) (first
    | (go_at_call 20; refine (HACT.out _ (some ⟨go, 0, none⟩) co ?side1 HCO.out).mono ?_; (case side1 => repeat (first | exact HOC.out | (with_reducible refine Kd.C_alloc ?_ _) | (with_reducible refine Kd.C_drewN ?_ _) | (with_reducible refine Kd.C_drew ?_))); rintro e w8 ⟨v8, rfl, hR, hB⟩; obtain ⟨A8, c8, e8⟩ := Kd.R_slice hR; subst e8; have HR8 := Aside0.mk hR; have HB8 := Aside0.mk hB; (first | (have B6 := Aside0.mk (show w8.heap[w7.heap.size]? = some (.cells #[.int .i64 0, .slice none 0 0] 24 (0, 0)) from blk_below (w := (w7.alloc (.cells #[.int .i64 0, .slice none 0 0] 24)).drew) (heap_alloc_new w7 _) hB); have B2h := Aside0.mk (blk_below (w := (w7.alloc (.cells #[.int .i64 0, .slice none 0 0] 24)).drew) (blk_alloc B2g.out _) hB); have B3h := Aside0.mk (blk_below (w := (w7.alloc (.cells #[.int .i64 0, .slice none 0 0] 24)).drew) (blk_alloc B3g.out _) hB); have HN8 := Aside0.mk (show g2 < w8.heap.size ∧ g3 < w8.heap.size from ⟨blk_lt B2h.out, blk_lt B3h.out⟩); clear hR hB; have hc6_0 : w8.cell? ⟨w7.heap.size, 0, none⟩ = some (.int .i64 0) := (blk_cell B6.out 0).trans rfl; have hc6_1 : w8.cell? ⟨w7.heap.size, 1, none⟩ = some (.slice none 0 0) := (blk_cell B6.out 1).trans rfl; have hf6_0 := blk_frozen B6.out 0; have hf6_1 := blk_frozen B6.out 1) | (have B6a := Aside0.mk (heap_alloc_new w8 (.cells #[.int .i64 0, .slice none 0 0] 24)); have B2h := Aside0.mk (blk_below (w := w7.drew) B2g.out hB); have B3h := Aside0.mk (blk_below (w := w7.drew) B3g.out hB); have HN8 := Aside0.mk (show g2 < w8.heap.size ∧ g3 < w8.heap.size from ⟨blk_lt B2h.out, blk_lt B3h.out⟩); clear hR hB; have hc6_0 : (w8.alloc (.cells #[.int .i64 0, .slice none 0 0] 24)).cell? ⟨w8.heap.size, 0, none⟩ = some (.int .i64 0) := (blk_cell B6a.out 0).trans rfl; have hc6_1 : (w8.alloc (.cells #[.int .i64 0, .slice none 0 0] 24)).cell? ⟨w8.heap.size, 1, none⟩ = some (.slice none 0 0) := (blk_cell B6a.out 1).trans rfl; have hf6_0 := blk_frozen B6a.out 0; have hf6_1 := blk_frozen B6a.out 1))))
   all_goals (try go_wp2)
   all_goals go_meet
   all_goals (
    case rel =>
     first | exact ⟨w8.heap.size, A8, c8, rfl, ⟨heap_alloc_new w8 _⟩, ⟨doneA_R HR8.out⟩, ⟨HB8.out.size⟩, ⟨below_step (below_drew1 (Below.refl _ _)) (HB8.out.alloc HB8.out.size _)⟩⟩ | exact ⟨w7.heap.size, A8, c8, rfl, ⟨doneB_B B6.out⟩, ⟨doneB_R HR8.out B6.out⟩, ⟨Nat.le_refl _⟩, ⟨doneB_W HB8.out⟩⟩)
  case rest =>
  obtain ⟨g6, A8, c8, rfl, B6, HR8, HG6, HB8⟩ := hcut
  clear hc2_0 hc2_1 hc3_0 hc3_1 hc3_2
  have B2h := Aside0.mk (blk_below B2g.out HB8.out)
  have B3h := Aside0.mk (blk_below B3g.out HB8.out)
  have hc3_0 : wc.cell? ⟨g3, 0, none⟩ = some (.int .i64 kind) := (blk_cell B3h.out 0).trans rfl; have hc3_1 : wc.cell? ⟨g3, 1, none⟩ = some (.string a) := (blk_cell B3h.out 1).trans rfl; have hc3_2 : wc.cell? ⟨g3, 2, none⟩ = some (.int .i64 n) := (blk_cell B3h.out 2).trans rfl
  have q5 : (1 ≤ kind) = True := eq_true hk1
  have q6 : (kind ≤ 3) = True := eq_true hk3
  have q7 : decide (1 ≤ kind) = true := decide_eq_true hk1
  clear hk1 hk3
  go_wp2_with fail
  go_loopg [8] (r2.length + 1) (fun kq v8 w' => ∃ (i : Nat) (xs : List S46), v8 = .int .i64 (i : Int) ∧ Aside0 (xs.length = r2.length ∧ i ≤ r2.length ∧ r2.length < i + kq) ∧ Aside0 (w'.heap[g6]? = some (.cells #[.int .i64 r1, .slice A8 r2.length c8] 24 (0, 0))) ∧ Aside0 (Kd.R k46 46 w' w7.heap.size (fun k => k ≠ g6) (.slice A8 r2.length c8) xs) ∧ Aside0 (Below w7.heap.size w7 w'))
  case atStart => exact ⟨0, r2, rfl, ⟨rfl, by omega, by omega⟩, B6, HR8, HB8⟩
  obtain ⟨i, xs, rfl, HI, B6w, HRw, HBw⟩ := hrel
  clear hc3_0 hc3_1 hc3_2
  rcases gk with _ | kq
  · exact absurd HI.out.2.2 (by have := HI.out.2.1; omega)
  have hc6_1 : wr.cell? ⟨g6, 1, none⟩ = some (.slice A8 r2.length c8) := (blk_cell B6w.out 1).trans rfl
  by_cases hi : i < r2.length
  · have hxl := HI.out.1
    rcases R_cells HRw.out with ⟨_, h⟩ | ⟨g, c', cur, e, hok, h1, h2, h3, h4, h5, h6⟩
    · rw [h] at hxl; simp at hxl; omega
    obtain ⟨rfl, rfl⟩ : A8 = some ⟨g, 0, none⟩ ∧ c8 = c' := by injection e with e1 e2 e3; exact ⟨e1, e3⟩
    have hx := row_cell h2 0 (rowP xs) (by rw [List.drop_zero, rowP_len]; exact h6) (i * 2 + 1) (.int .i64 (rd_T46 xs i).f1) (by
      rw [show rowP xs = rowP (xs.take i) ++ rowP (xs.drop i) by rw [← rowP_app, List.take_append_drop], List.getElem?_append_right (by rw [rowP_len, List.length_take]; omega), rowP_len, List.length_take, Nat.min_eq_left (by omega), show i * 2 + 1 - i * 2 = 1 by omega, List.drop_eq_getElem_cons (by omega)]
      have e1 : rd_T46 xs (i : Int) = xs[i] := by simp [rd_T46, List.getD_eq_getElem?_getD, List.getElem?_eq_getElem (show i < xs.length by omega)]
      rw [e1]
      rfl)
    rw [add_plain] at hx
    have hf := blk_frozen h2 (i * 2 + 1)
    have q8 : (0 ≤ (i : Int)) = True := eq_true (by omega)
    have q9 : ((i : Int) < (r2.length : Int)) = True := eq_true (by omega)
    have q10 : (i < r2.length) = True := eq_true hi
    have q11 : decide ((i : Int) < (r2.length : Int)) = true := decide_eq_true (by omega)
    obtain ⟨q12, q13⟩ : wrap64 ((i : Int) + 1) = (i : Int) + 1 ∧ IntKind.i64.wrap ((i : Int) + 1) = (i : Int) + 1 := by have := HR2.out; exact ⟨Go.IntWalk.wrap64_in _ (by omega), by rw [IntKind.wrap_i64]; omega⟩
    have HZ := Aside0.mk (⟨hok, h1, h2, h3, h4, h5, h6, hxl, hi⟩ : g ≠ g6 ∧ w7.heap.size ≤ g ∧ wr.heap[g]? = some (.cells cur 46 (0, 0)) ∧ xs.length ≤ c8 ∧ c8 ≤ maxLen ∧ cur.size = c8 * 2 ∧ cur.toList.take (xs.length * 2) = rowP xs ∧ xs.length = r2.length ∧ i < r2.length)
    clear e hok h1 h2 h3 h4 h5 h6 hxl hi
    go_wp2
    go_roundg kq
    case measure => omega
    case rel =>
      obtain ⟨hok, h1, h2, h3, h4, h5, h6, hxl, hi⟩ := HZ.out
      have hl' : (xs.set i ⟨(rd_T46 xs i).f0, 9⟩).length = xs.length := List.length_set
      have hR9 := cells_R (w := wr.setCell ⟨g, i * 2 + 1, none⟩ (.int .i64 9)) (base := w7.heap.size) (ok := fun k => k ≠ g6) (xs := xs.set i ⟨(rd_T46 xs i).f0, 9⟩) (c := c8) hok h1 (blk_set h2 (i * 2 + 1) (.int .i64 9)) (by rw [hl']; exact h3) h4 (by simpa using h5) (by rw [hl', ← rowP_set xs i 9 (by omega), ← h6, Array.toList_setIfInBounds, take_set_lt _ _ _ _ (by omega)])
      rw [hl', hxl] at hR9
      exact ⟨i + 1, xs.set i ⟨(rd_T46 xs i).f0, 9⟩, by first | rfl | simp, ⟨by rw [hl']; exact hxl, by omega, by have := HI.out; omega⟩, ⟨blk_far (p := ⟨g, i * 2 + 1, none⟩) B6w.out (Ne.symm hok) _⟩, ⟨hR9⟩, ⟨HBw.out.setCell (p := ⟨g, i * 2 + 1, none⟩) h1 _⟩⟩
  · have q9 : ((i : Int) < (r2.length : Int)) = False := eq_false (by omega)
    have q11 : decide ((i : Int) < (r2.length : Int)) = false := decide_eq_false (by omega)
    have hxl := HI.out.1
    have HXL := Aside0.mk hxl
    clear hi hxl
    go_upto_region 13 with (first | ((with_reducible refine gate_builtin (b := .append) (xs := #[.tmp 61, .tmp 63]) rfl ?_); at_builtin; go_loud (refine Kd.R_append k46 (w0 := w7) w7.heap.size rfl (.tmp 61) (.tmp 63) 22 46 (.agg #[(.string ⟨#[]⟩), (.int .i64 0)]) 24 rfl Try.underlying22 info46 rfl (by decide) (by omega) (.slice A8 r2.length c8) xs quest [.string (⟨#[63]⟩ : ByteArray), .int .i64 0] (fun k => k ≠ g6) (fun _ => False) rfl (by first | (go_simp; done) | (go_simp; rfl)) ?aP (fun _ hk => hk.elim) ?aF ?aO ?aB ?aS ?aL ?_); (case aP => exact k46_mkM _ _ _ quest); (case aB => exact HBw.out); (case aF => exact (fun k hk => by have := blk_lt B6w.out; omega)); (case aO => exact HRw.out); (case aS => exact HBw.out.size); (case aL => have := HR2.out; have := HXL.out; omega); intro v9 w9 ho hb hg hat; obtain ⟨A9, c9, e9⟩ := Kd.R_slice ho; subst e9; have B6x := Aside0.mk (blk_grown B6w.out hg (apart HRw.out B6w.out (by decide))); have HB9 := Aside0.mk hb; clear ho hb hg hat hc6_1; have hc6_1 : w9.cell? ⟨g6, 1, none⟩ = some (.slice A8 r2.length c8) := (blk_cell B6x.out 1).trans rfl; have hf6_1 := blk_frozen B6x.out 1))
    obtain ⟨w10, hw10⟩ : ∃ W : World, W = w9.setCell ⟨g6, 1, none⟩ (.slice A9 (xs.length + 1) c9) := ⟨_, rfl⟩
    rw [← hw10]
    have HBk := Aside0.mk (show Below w7.heap.size w7 w10 by rw [hw10]; exact HB9.out.setCell (p := ⟨g6, 1, none⟩) HG6.out _)
    have B2k := Aside0.mk (blk_below B2g.out HBk.out)
    have HOHk := Aside0.mk (blk_below HOH.out HBk.out)
    have HRB := Aside0.mk (keepT_row HOT.out)
    clear hw10 hc6_1 hf6_1
    go_region_held3 (fun W : World => W.cell? ⟨g2, 0, none⟩ = some (.int .i64 ep) ∧ W.cell? ⟨g2, 1, none⟩ = some (.slice A l.length c) ∧ W.cell? ⟨go, l.length * 2, none⟩ = some (.string (⟨#[33]⟩ : ByteArray))) (exact keepT HRB.out (by repeat (first | exact B2k.out | exact HOHk.out | exact B2m.out | exact HOHm.out | refine blk_drewN ?_ _ | refine blk_drew ?_ | refine blk_alloc ?_ _)) (by repeat (first | exact B2k.out | exact HOHk.out | exact B2m.out | exact HOHm.out | refine blk_drewN ?_ _ | refine blk_drew ?_ | refine blk_alloc ?_ _))) (first
     | (go_at_call 19; refine (shelfmarkref12_Same.calls kS ep (some ⟨go, 0, none⟩) co l ep A c l true _ ?s1 ?s2 ?s3 ?s4 HS.out).mono ?_; (case s1 => exact Kd.C_drew (Kd.C_below HOC.out HBk.out)); (case s2 => exact HCO.out); (case s3 => exact Kd.C_drew (Kd.C_below HC.out (below_step Hw7.out HBk.out))); (case s4 => exact hc); rintro e w11 ⟨rfl, hB⟩; have HB11 := Aside0.mk hB; have B2m := Aside0.mk (blk_below (w := w10.drew) B2k.out hB); have HOHm := Aside0.mk (blk_below (w := w10.drew) HOHk.out hB); clear hB))
    all_goals (try go_wp2)
    all_goals go_ret
    all_goals exact ⟨by first | rfl | simp, below_step (below_drew1 (below_step Hw7.out HBk.out)) HB11.out⟩
set_option maxHeartbeats 4000000 in
set_option maxRecDepth 100000 in
theorem keeps_old (k0 kL kS : Nat) (ep : Int) (A : Option Addr) (c : Nat) (l : List S46) (kind : Int) (a : ByteArray) (n : Int) (w : World) (hC : Kd.C k46 w A l.length l) (hc : l.length ≤ c) (haw : shelfmarklaw12_awake.f k0 = some true) (hL : shelfmarkref12_Light.f kL ep l = some true) (ha : a.size ≤ 300) (hln : l.length ≤ 1000) (hk : ¬ (1 ≤ kind ∧ kind ≤ 3)) (hS : shelfmarkref12_Same.f kS ep l ep l = some true) :
    Calls Try.prog 6 #[.agg #[.int .i64 ep, .slice A l.length c], .agg #[.int .i64 kind, .string a, .int .i64 n]] w fun e w' => e = .returned (.bool true) ∧ Below w.heap.size w w' := by
  have hu24 := Try.underlying24
  have hu40 := Try.underlying40
  have hu46 := Try.underlying46
  have HC := Aside0.mk hC
  have HAW := Aside0.mk haw
  have HL := Aside0.mk hL
  have HS := Aside0.mk hS
  have HLN := Aside0.mk hln
  have HK := Aside0.mk (show kind ≠ 1 ∧ kind ≠ 2 ∧ kind ≠ 3 by refine ⟨?_, ?_, ?_⟩ <;> (intro h; exact hk (by omega)))
  have mixed : Try.prog.follows Departure.mixedOrders = true := by kernel_rfl
  have q0 : ((a.size : Int) > 300) = False := eq_false (by omega)
  clear hC haw hL hS hln ha
  go_enter Try.func6, Try.ntmps6
  go_upto_region 6 with (first
   | ((with_reducible refine gate_dst (N := 2) rfl ?_); refine box_event ?hg (N := 2) ?hd (cs := #[.int .i64 ep, .slice A l.length c]) (t := 24) ?hr ?_; (case hd => rfl); (case hg => rfl); (case hr => first | (go_simp; done) | (go_simp; rfl)); intro g2 hg w1 hbox hb; have L2 := Aside0.mk (show w.heap.size ≤ g2 by omega); have B2 := Aside0.mk hbox; have Hw1 := Aside0.mk hb; clear hb hbox hg) | ((with_reducible refine gate_dst (N := 3) rfl ?_); refine box_event ?hg (N := 3) ?hd (cs := #[.int .i64 kind, .string a, .int .i64 n]) (t := 40) ?hr ?_; (case hd => rfl); (case hg => rfl); (case hr => first | (go_simp; done) | (go_simp; rfl)); intro g3 hg w2 hbox hb; have L3 := Aside0.mk (show w1.heap.size ≤ g3 by omega); have B3 := Aside0.mk hbox; have Hw2 := Aside0.mk hb; have B2b := Aside0.mk (blk_below B2.out hb); clear hb hbox hg) | ((with_reducible refine gate_callee (f := 9) rfl ?_); refine goesL_ (some 9) rfl rfl Try.func9 (by kernel_rfl) rfl #[] rfl (by (try simp only [List.map_toArray, List.map_cons, List.map_nil]); first | done | rfl) ?_; (with_reducible refine (shelfmarklaw12_awake.calls k0 true _ HAW.out rfl).mono ?_); rintro e w3 ⟨rfl, hb⟩; refine ⟨_, rfl, ?_⟩; have B2c := Aside0.mk (blk_below B2b.out hb); have B3c := Aside0.mk (blk_below B3.out hb); have Hw3 := Aside0.mk hb; clear hb; have hc2_0 : w3.cell? ⟨g2, 0, none⟩ = some (.int .i64 ep) := (blk_cell B2c.out 0).trans rfl; have hc2_1 : w3.cell? ⟨g2, 1, none⟩ = some (.slice A l.length c) := (blk_cell B2c.out 1).trans rfl) | ((with_reducible refine gate_callee (f := 10) rfl ?_); refine goesL_ (some 12) rfl rfl Try.func10 (by kernel_rfl) rfl #[.agg #[.int .i64 ep, .slice A l.length c]] rfl (by (try simp only [List.map_toArray, List.map_cons, List.map_nil]); first | done | rfl) ?_; (with_reducible refine (shelfmarkref12_Light.calls kL ep _ _ l true _ ?side1 ?side2 HL.out).mono ?_); (case side1 => exact Kd.C_below HC.out (below_step (below_step Hw1.out Hw2.out) Hw3.out)); (case side2 => exact hc); rintro e w4 ⟨rfl, hb⟩; refine ⟨_, rfl, ?_⟩; have B2d := Aside0.mk (blk_below B2c.out hb); have B3d := Aside0.mk (blk_below B3c.out hb); have Hw4 := Aside0.mk hb; clear hc2_0 hc2_1 hb; have hc2_0 : w4.cell? ⟨g2, 0, none⟩ = some (.int .i64 ep) := (blk_cell B2d.out 0).trans rfl; have hc2_1 : w4.cell? ⟨g2, 1, none⟩ = some (.slice A l.length c) := (blk_cell B2d.out 1).trans rfl; have hc3_0 : w4.cell? ⟨g3, 0, none⟩ = some (.int .i64 kind) := (blk_cell B3d.out 0).trans rfl; have hc3_1 : w4.cell? ⟨g3, 1, none⟩ = some (.string a) := (blk_cell B3d.out 1).trans rfl; have hc3_2 : w4.cell? ⟨g3, 2, none⟩ = some (.int .i64 n) := (blk_cell B3d.out 2).trans rfl) | ((with_reducible refine gate_dst (N := 20) rfl ?_); refine Kd.R_lit k46 _ 46 ?hg (N := 20) ?hd (xs := ([] : List (S46))) (inner := []) (ok := fun _ => True) (okp := fun _ => True) ?hr ?hp (fun _ hk => hk) trivial (Below.refl _ _) (Nat.le_refl _) (by simp) ?_; (case hd => rfl); (case hg => rfl); (case hr => first | (go_simp; done) | (go_simp; rfl)); (case hp => exact (Reps.none _ _)); intro v5 w5 ho hb hg_ hnew_; clear hg_ hnew_; have HO5 := Aside0.mk (Kd.R_lower ho (below_step (below_step (below_step Hw1.out Hw2.out) Hw3.out) Hw4.out).size); have Hw5 := Aside0.mk (below_step (below_step (below_step (below_step Hw1.out Hw2.out) Hw3.out) Hw4.out) hb); have B2e := Aside0.mk (blk_below B2d.out hb); have B3e := Aside0.mk (blk_below B3d.out hb); clear hb ho hc2_0 hc2_1 hc3_0 hc3_1 hc3_2; have hc2_0 : w5.cell? ⟨g2, 0, none⟩ = some (.int .i64 ep) := (blk_cell B2e.out 0).trans rfl; have hc2_1 : w5.cell? ⟨g2, 1, none⟩ = some (.slice A l.length c) := (blk_cell B2e.out 1).trans rfl) | ((with_reducible refine gate_builtin (b := .append) (xs := #[.tmp 20, .tmp 22]) rfl ?_); at_builtin; go_loud (refine Kd.R_append_rows k46 (Rr := k46.K w5) (w0 := w) w.heap.size rfl (.tmp 20) (.tmp 22) 22 46 (.agg #[(.string ⟨#[]⟩), (.int .i64 0)]) 24 rfl Try.underlying22 info46 rfl (by decide) (by omega) v5 ([] : List S46) l _ _ _ (fun _ => True) (fun _ => False) rfl rfl ?aO ?aR (fun x cs h => by rw [k46_open h]; exact k46_mkM _ _ _ _) (fun _ h => h.elim) ?aF ?aB ?aS ?aL ?_); (case aR => exact (Kd.C_below HC.out Hw5.out)); (case aB => exact Hw5.out); (case aF => exact (fun _ _ => trivial)); (case aO => exact HO5.out); (case aS => exact Hw5.out.size); (case aL => have := HLN.out; simp only [List.length_nil]; omega); intro v6 w6 ho hb hg hat; rw [List.nil_append] at ho; have B2f := Aside0.mk (blk_grown B2e.out hg (apart HO5.out B2e.out (by decide))); have B3f := Aside0.mk (blk_grown B3e.out hg (apart HO5.out B3e.out (by decide))); have HO6 := Aside0.mk ho; have Hw6 := Aside0.mk hb; clear ho hb hg hat hc2_0 hc2_1) | ((with_reducible refine gate_builtin (b := .append) (xs := #[.tmp 23, .tmp 25]) rfl ?_); at_builtin; go_loud (refine Kd.R_append k46 (w0 := w) w.heap.size rfl (.tmp 23) (.tmp 25) 22 46 (.agg #[(.string ⟨#[]⟩), (.int .i64 0)]) 24 rfl Try.underlying22 info46 rfl (by decide) (by omega) v6 l bang [.string (⟨#[33]⟩ : ByteArray), .int .i64 0] (fun _ => True) (fun _ => False) rfl (by first | (go_simp; done) | (go_simp; rfl)) ?aP (fun _ hk => hk.elim) ?aF ?aO ?aB ?aS ?aL ?_); (case aP => exact k46_mkM _ _ _ bang); (case aB => exact Hw6.out); (case aF => exact (fun _ _ => trivial)); (case aO => exact HO6.out); (case aS => exact Hw6.out.size); (case aL => have := HLN.out; omega); intro v7 w7 ho hb hg hat; have B2g := Aside0.mk (blk_grown B2f.out hg (apart HO6.out B2f.out (by decide))); have B3g := Aside0.mk (blk_grown B3f.out hg (apart HO6.out B3f.out (by decide))); have HO7 := Aside0.mk ho; have Hw7 := Aside0.mk hb; clear ho hb hg hat))
  obtain ⟨go, co, ocur, ev7, hog, hoh, hoc, hom, hos, hot⟩ : ∃ go co cur, v7 = .slice (some ⟨go, 0, none⟩) (l.length + 1) co ∧ w.heap.size ≤ go ∧ w7.heap[go]? = some (.cells cur 46 (0, 0)) ∧ l.length + 1 ≤ co ∧ co ≤ maxLen ∧ cur.size = co * 2 ∧ cur.toList.take ((l.length + 1) * 2) = rowP (l ++ [bang]) := by
    have hl1 : (l ++ [bang]).length = l.length + 1 := by simp
    rcases R_cells HO7.out with ⟨_, h⟩ | ⟨g, c', cur, e, _, h1, h2, h3, h4, h5, h6⟩
    · simp at h
    · rw [hl1] at e h3 h6
      exact ⟨g, c', cur, e, h1, h2, h3, h4, h5, h6⟩
  subst ev7
  have HOC := Aside0.mk (show Kd.C k46 w7 (some ⟨go, 0, none⟩) l.length l from (Kd.R_reads' (cells_R (ok := fun _ => True) (xs := l) (c := co) trivial hog hoh (by omega) hom hos (by
    have h := congrArg (List.take (l.length * 2)) hot
    rw [List.take_take, Nat.min_eq_left (by omega), rowP_take, List.take_left] at h
    exact h))).2.2)
  have HOH := Aside0.mk hoh
  have HOG := Aside0.mk hog
  have HOT := Aside0.mk (show ocur.toList.take ((l.length + 1) * 2) = rowP (l ++ [(⟨(⟨#[33]⟩ : ByteArray), 0⟩ : S46)]) from hot)
  have HOS := Aside0.mk hos
  have q2 : ((l.length : Int) ≤ (co : Int)) = True := eq_true (by omega)
  have q3 : (l.length ≤ co) = True := eq_true (by omega)
  have q4 : (0 ≤ (l.length : Int)) = True := eq_true (by omega)
  have z3 : ((l.length : Int) < (l.length : Int) + 1) = True := eq_true (by omega)
  have HCO := Aside0.mk (show l.length ≤ co by omega)
  have HCM := Aside0.mk (max_int hom)
  clear hog hoh hoc hom hos hot
  have hc2_0 : w7.cell? ⟨g2, 0, none⟩ = some (.int .i64 ep) := (blk_cell B2g.out 0).trans rfl; have hc2_1 : w7.cell? ⟨g2, 1, none⟩ = some (.slice A l.length c) := (blk_cell B2g.out 1).trans rfl; have hc3_0 : w7.cell? ⟨g3, 0, none⟩ = some (.int .i64 kind) := (blk_cell B3g.out 0).trans rfl; have hc3_1 : w7.cell? ⟨g3, 1, none⟩ = some (.string a) := (blk_cell B3g.out 1).trans rfl; have hc3_2 : w7.cell? ⟨g3, 2, none⟩ = some (.int .i64 n) := (blk_cell B3g.out 2).trans rfl
  have HA2 := Aside0.mk ((heap_alloc_old w7 (.cells #[.int .i64 0, .slice none 0 0] 24) (blk_lt B2g.out)).trans B2g.out)
  have HA3 := Aside0.mk ((heap_alloc_old w7 (.cells #[.int .i64 0, .slice none 0 0] 24) (blk_lt B3g.out)).trans B3g.out)
  have hd2_0 : (w7.alloc (.cells #[.int .i64 0, .slice none 0 0] 24)).cell? ⟨g2, 0, none⟩ = some (.int .i64 ep) := (blk_cell HA2.out 0).trans rfl; have hd2_1 : (w7.alloc (.cells #[.int .i64 0, .slice none 0 0] 24)).cell? ⟨g2, 1, none⟩ = some (.slice A l.length c) := (blk_cell HA2.out 1).trans rfl; have hd3_0 : (w7.alloc (.cells #[.int .i64 0, .slice none 0 0] 24)).cell? ⟨g3, 0, none⟩ = some (.int .i64 kind) := (blk_cell HA3.out 0).trans rfl; have hd3_1 : (w7.alloc (.cells #[.int .i64 0, .slice none 0 0] 24)).cell? ⟨g3, 1, none⟩ = some (.string a) := (blk_cell HA3.out 1).trans rfl; have hd3_2 : (w7.alloc (.cells #[.int .i64 0, .slice none 0 0] 24)).cell? ⟨g3, 2, none⟩ = some (.int .i64 n) := (blk_cell HA3.out 2).trans rfl
  have HWS := Aside0.mk (show w.heap.size ≤ w7.heap.size from Hw7.out.size)
  go_cut [6] from 27 to 39 (fun v6 wc => ∃ (g6 : Nat), v6 = .pointer (some ⟨g6, 0, none⟩) ∧ Aside0 (Below w7.heap.size w7 wc))
  case first =>
   have HNE := Aside0.mk (show g2 < w7.heap.size ∧ g3 < w7.heap.size from ⟨blk_lt B2g.out, blk_lt B3g.out⟩)
   go_region_held3 (fun W : World => W.cell? ⟨g2, 0, none⟩ = some (.int .i64 ep) ∧ W.cell? ⟨g2, 1, none⟩ = some (.slice A l.length c) ∧ W.cell? ⟨g3, 0, none⟩ = some (.int .i64 kind) ∧ W.cell? ⟨g3, 1, none⟩ = some (.string a) ∧ W.cell? ⟨g3, 2, none⟩ = some (.int .i64 n)) (exact keepS (by repeat (first | exact B2g.out | exact B3g.out | exact B2h.out | exact B3h.out | refine blk_drewN ?_ _ | refine blk_drew ?_ | refine blk_alloc ?_ _ | refine blk_far ?_ (by first | (have := HNE.out; show _ ≠ w7.heap.size; omega) | (have := HN8.out; show _ ≠ w8.heap.size; omega)) _)) (by repeat (first | exact B2g.out | exact B3g.out | exact B2h.out | exact B3h.out | refine blk_drewN ?_ _ | refine blk_drew ?_ | refine blk_alloc ?_ _ | refine blk_far ?_ (by first | (have := HNE.out; show _ ≠ w7.heap.size; omega) | (have := HN8.out; show _ ≠ w8.heap.size; omega)) _))) (first
    | (go_at_call 20; refine (act_old ep (some ⟨go, 0, none⟩) co l.length kind a n _ HK.out.1 HK.out.2.1 HK.out.2.2).mono ?_; rintro e w8 ⟨rfl, hB⟩; have HB8 := Aside0.mk hB; (first | (have B6 := Aside0.mk (show w8.heap[w7.heap.size]? = some (.cells #[.int .i64 0, .slice none 0 0] 24 (0, 0)) from blk_below (w := (w7.alloc (.cells #[.int .i64 0, .slice none 0 0] 24)).drew) (heap_alloc_new w7 _) hB); have B2h := Aside0.mk (blk_below (w := (w7.alloc (.cells #[.int .i64 0, .slice none 0 0] 24)).drew) (blk_alloc B2g.out _) hB); have B3h := Aside0.mk (blk_below (w := (w7.alloc (.cells #[.int .i64 0, .slice none 0 0] 24)).drew) (blk_alloc B3g.out _) hB); have HN8 := Aside0.mk (show g2 < w8.heap.size ∧ g3 < w8.heap.size from ⟨blk_lt B2h.out, blk_lt B3h.out⟩); clear hB; have hc6_0 : w8.cell? ⟨w7.heap.size, 0, none⟩ = some (.int .i64 0) := (blk_cell B6.out 0).trans rfl; have hc6_1 : w8.cell? ⟨w7.heap.size, 1, none⟩ = some (.slice none 0 0) := (blk_cell B6.out 1).trans rfl; have hf6_0 := blk_frozen B6.out 0; have hf6_1 := blk_frozen B6.out 1) | (have B6a := Aside0.mk (heap_alloc_new w8 (.cells #[.int .i64 0, .slice none 0 0] 24)); have B2h := Aside0.mk (blk_below (w := w7.drew) B2g.out hB); have B3h := Aside0.mk (blk_below (w := w7.drew) B3g.out hB); have HN8 := Aside0.mk (show g2 < w8.heap.size ∧ g3 < w8.heap.size from ⟨blk_lt B2h.out, blk_lt B3h.out⟩); clear hB; have hc6_0 : (w8.alloc (.cells #[.int .i64 0, .slice none 0 0] 24)).cell? ⟨w8.heap.size, 0, none⟩ = some (.int .i64 0) := (blk_cell B6a.out 0).trans rfl; have hc6_1 : (w8.alloc (.cells #[.int .i64 0, .slice none 0 0] 24)).cell? ⟨w8.heap.size, 1, none⟩ = some (.slice none 0 0) := (blk_cell B6a.out 1).trans rfl; have hf6_0 := blk_frozen B6a.out 0; have hf6_1 := blk_frozen B6a.out 1))))
   all_goals (try go_wp2)
   all_goals go_meet
   all_goals (
    case rel =>
     first | exact ⟨w8.heap.size, rfl, ⟨below_step (below_drew1 (Below.refl _ _)) (HB8.out.alloc HB8.out.size _)⟩⟩ | exact ⟨w7.heap.size, rfl, ⟨doneB_W HB8.out⟩⟩)
  case rest =>
  obtain ⟨g6, rfl, HB8⟩ := hcut
  clear hc2_0 hc2_1 hc3_0 hc3_1 hc3_2
  have B2h := Aside0.mk (blk_below B2g.out HB8.out)
  have B3h := Aside0.mk (blk_below B3g.out HB8.out)
  have hc3_0 : wc.cell? ⟨g3, 0, none⟩ = some (.int .i64 kind) := (blk_cell B3h.out 0).trans rfl; have hc3_1 : wc.cell? ⟨g3, 1, none⟩ = some (.string a) := (blk_cell B3h.out 1).trans rfl; have hc3_2 : wc.cell? ⟨g3, 2, none⟩ = some (.int .i64 n) := (blk_cell B3h.out 2).trans rfl
  have HOH8 := Aside0.mk (blk_below HOH.out HB8.out)
  by_cases h1 : 1 ≤ kind
  · have q5 : (1 ≤ kind) = True := eq_true h1
    have q6 : (kind ≤ 3) = False := eq_false (fun h => hk ⟨h1, h⟩)
    have q7 : decide (1 ≤ kind) = true := decide_eq_true h1
    have q8 : decide (kind ≤ 3) = false := decide_eq_false (fun h => hk ⟨h1, h⟩)
    clear hk h1
    go_upto_region 13 with (fail)
    have HRB := Aside0.mk (keepT_row HOT.out)
    go_region_held3 (fun W : World => W.cell? ⟨g2, 0, none⟩ = some (.int .i64 ep) ∧ W.cell? ⟨g2, 1, none⟩ = some (.slice A l.length c) ∧ W.cell? ⟨go, l.length * 2, none⟩ = some (.string (⟨#[33]⟩ : ByteArray))) (exact keepT HRB.out (by repeat (first | exact B2h.out | exact HOH8.out | exact B2m.out | exact HOHm.out | refine blk_drewN ?_ _ | refine blk_drew ?_ | refine blk_alloc ?_ _)) (by repeat (first | exact B2h.out | exact HOH8.out | exact B2m.out | exact HOHm.out | refine blk_drewN ?_ _ | refine blk_drew ?_ | refine blk_alloc ?_ _))) (first
     | (go_at_call 19; refine (shelfmarkref12_Same.calls kS ep (some ⟨go, 0, none⟩) co l ep A c l true _ ?s1 ?s2 ?s3 ?s4 HS.out).mono ?_; (case s1 => exact Kd.C_drew (Kd.C_below HOC.out HB8.out)); (case s2 => exact HCO.out); (case s3 => exact Kd.C_drew (Kd.C_below HC.out (below_step Hw7.out HB8.out))); (case s4 => exact hc); rintro e w11 ⟨rfl, hB⟩; have HB11 := Aside0.mk hB; have B2m := Aside0.mk (blk_below (w := wc.drew) B2h.out hB); have HOHm := Aside0.mk (blk_below (w := wc.drew) HOH8.out hB); clear hB))
    all_goals (try go_wp2)
    all_goals go_ret
    all_goals exact ⟨by first | rfl | simp, below_step (below_drew1 (below_step Hw7.out HB8.out)) HB11.out⟩
  · have q5 : (1 ≤ kind) = False := eq_false h1
    have q7 : decide (1 ≤ kind) = false := decide_eq_false h1
    clear hk h1
    go_upto_region 13 with (fail)
    have HRB := Aside0.mk (keepT_row HOT.out)
    go_region_held3 (fun W : World => W.cell? ⟨g2, 0, none⟩ = some (.int .i64 ep) ∧ W.cell? ⟨g2, 1, none⟩ = some (.slice A l.length c) ∧ W.cell? ⟨go, l.length * 2, none⟩ = some (.string (⟨#[33]⟩ : ByteArray))) (exact keepT HRB.out (by repeat (first | exact B2h.out | exact HOH8.out | exact B2m.out | exact HOHm.out | refine blk_drewN ?_ _ | refine blk_drew ?_ | refine blk_alloc ?_ _)) (by repeat (first | exact B2h.out | exact HOH8.out | exact B2m.out | exact HOHm.out | refine blk_drewN ?_ _ | refine blk_drew ?_ | refine blk_alloc ?_ _))) (first
     | (go_at_call 19; refine (shelfmarkref12_Same.calls kS ep (some ⟨go, 0, none⟩) co l ep A c l true _ ?s1 ?s2 ?s3 ?s4 HS.out).mono ?_; (case s1 => exact Kd.C_drew (Kd.C_below HOC.out HB8.out)); (case s2 => exact HCO.out); (case s3 => exact Kd.C_drew (Kd.C_below HC.out (below_step Hw7.out HB8.out))); (case s4 => exact hc); rintro e w11 ⟨rfl, hB⟩; have HB11 := Aside0.mk hB; have B2m := Aside0.mk (blk_below (w := wc.drew) B2h.out hB); have HOHm := Aside0.mk (blk_below (w := wc.drew) HOH8.out hB); clear hB))
    all_goals (try go_wp2)
    all_goals go_ret
    all_goals exact ⟨by first | rfl | simp, below_step (below_drew1 (below_step Hw7.out HB8.out)) HB11.out⟩
set_option maxHeartbeats 4000000 in
set_option maxRecDepth 100000 in
theorem keeps_dark (k0 kL : Nat) (ep : Int) (A : Option Addr) (c : Nat) (l : List S46) (kind : Int) (a : ByteArray) (n : Int) (w : World) (hC : Kd.C k46 w A l.length l) (hc : l.length ≤ c) (haw : shelfmarklaw12_awake.f k0 = some true) (hL : shelfmarkref12_Light.f kL ep l = some false) :
    Calls Try.prog 6 #[.agg #[.int .i64 ep, .slice A l.length c], .agg #[.int .i64 kind, .string a, .int .i64 n]] w fun e w' => e = .returned (.bool true) ∧ Below w.heap.size w w' := by
  have hu24 := Try.underlying24
  have hu40 := Try.underlying40
  have HC := Aside0.mk hC
  have HAW := Aside0.mk haw
  have HL := Aside0.mk hL
  clear hC haw hL
  go_enter Try.func6, Try.ntmps6
  go_wp2_with (first
   | ((with_reducible refine gate_dst (N := 2) rfl ?_); refine box_event ?hg (N := 2) ?hd (cs := #[.int .i64 ep, .slice A l.length c]) (t := 24) ?hr ?_; (case hd => rfl); (case hg => rfl); (case hr => first | (go_simp; done) | (go_simp; rfl)); intro g2 hg w1 hbox hb; have L2 := Aside0.mk (show w.heap.size ≤ g2 by omega); have B2 := Aside0.mk hbox; have Hw1 := Aside0.mk hb; clear hb hbox hg) | ((with_reducible refine gate_dst (N := 3) rfl ?_); refine box_event ?hg (N := 3) ?hd (cs := #[.int .i64 kind, .string a, .int .i64 n]) (t := 40) ?hr ?_; (case hd => rfl); (case hg => rfl); (case hr => first | (go_simp; done) | (go_simp; rfl)); intro g3 hg w2 hbox hb; have L3 := Aside0.mk (show w1.heap.size ≤ g3 by omega); have B3 := Aside0.mk hbox; have Hw2 := Aside0.mk hb; have B2b := Aside0.mk (blk_below B2.out hb); clear hb hbox hg) | ((with_reducible refine gate_callee (f := 9) rfl ?_); refine goesL_ (some 9) rfl rfl Try.func9 (by kernel_rfl) rfl #[] rfl (by (try simp only [List.map_toArray, List.map_cons, List.map_nil]); first | done | rfl) ?_; (with_reducible refine (shelfmarklaw12_awake.calls k0 true _ HAW.out rfl).mono ?_); rintro e w3 ⟨rfl, hb⟩; refine ⟨_, rfl, ?_⟩; have B2c := Aside0.mk (blk_below B2b.out hb); have B3c := Aside0.mk (blk_below B3.out hb); have Hw3 := Aside0.mk hb; clear hb; have hc2_0 : w3.cell? ⟨g2, 0, none⟩ = some (.int .i64 ep) := (blk_cell B2c.out 0).trans rfl; have hc2_1 : w3.cell? ⟨g2, 1, none⟩ = some (.slice A l.length c) := (blk_cell B2c.out 1).trans rfl) | ((with_reducible refine gate_callee (f := 10) rfl ?_); refine goesL_ (some 12) rfl rfl Try.func10 (by kernel_rfl) rfl #[.agg #[.int .i64 ep, .slice A l.length c]] rfl (by (try simp only [List.map_toArray, List.map_cons, List.map_nil]); first | done | rfl) ?_; (with_reducible refine (shelfmarkref12_Light.calls kL ep _ _ l false _ ?side1 ?side2 HL.out).mono ?_); (case side1 => exact Kd.C_below HC.out (below_step (below_step Hw1.out Hw2.out) Hw3.out)); (case side2 => exact hc); rintro e w4 ⟨rfl, hb⟩; refine ⟨_, rfl, ?_⟩; have B2d := Aside0.mk (blk_below B2c.out hb); have B3d := Aside0.mk (blk_below B3c.out hb); have Hw4 := Aside0.mk hb; clear hc2_0 hc2_1 hb; have hc2_0 : w4.cell? ⟨g2, 0, none⟩ = some (.int .i64 ep) := (blk_cell B2d.out 0).trans rfl; have hc2_1 : w4.cell? ⟨g2, 1, none⟩ = some (.slice A l.length c) := (blk_cell B2d.out 1).trans rfl; have hc3_0 : w4.cell? ⟨g3, 0, none⟩ = some (.int .i64 kind) := (blk_cell B3d.out 0).trans rfl; have hc3_1 : w4.cell? ⟨g3, 1, none⟩ = some (.string a) := (blk_cell B3d.out 1).trans rfl; have hc3_2 : w4.cell? ⟨g3, 2, none⟩ = some (.int .i64 n) := (blk_cell B3d.out 2).trans rfl))
  go_ret
  exact ⟨by first | rfl | simp, below_step (below_step (below_step Hw1.out Hw2.out) Hw3.out) Hw4.out⟩
set_option maxHeartbeats 4000000 in
set_option maxRecDepth 100000 in
theorem keeps_long (k0 kL : Nat) (ep : Int) (A : Option Addr) (c : Nat) (l : List S46) (kind : Int) (a : ByteArray) (n : Int) (w : World) (hC : Kd.C k46 w A l.length l) (hc : l.length ≤ c) (haw : shelfmarklaw12_awake.f k0 = some true) (hL : shelfmarkref12_Light.f kL ep l = some true) (ha : 300 < a.size) :
    Calls Try.prog 6 #[.agg #[.int .i64 ep, .slice A l.length c], .agg #[.int .i64 kind, .string a, .int .i64 n]] w fun e w' => e = .returned (.bool true) ∧ Below w.heap.size w w' := by
  have hu24 := Try.underlying24
  have hu40 := Try.underlying40
  have HC := Aside0.mk hC
  have HAW := Aside0.mk haw
  have HL := Aside0.mk hL
  have q0 : ((a.size : Int) > 300) = True := eq_true (by omega)
  clear ha
  clear hC haw hL
  go_enter Try.func6, Try.ntmps6
  go_wp2_with (first
   | ((with_reducible refine gate_dst (N := 2) rfl ?_); refine box_event ?hg (N := 2) ?hd (cs := #[.int .i64 ep, .slice A l.length c]) (t := 24) ?hr ?_; (case hd => rfl); (case hg => rfl); (case hr => first | (go_simp; done) | (go_simp; rfl)); intro g2 hg w1 hbox hb; have L2 := Aside0.mk (show w.heap.size ≤ g2 by omega); have B2 := Aside0.mk hbox; have Hw1 := Aside0.mk hb; clear hb hbox hg) | ((with_reducible refine gate_dst (N := 3) rfl ?_); refine box_event ?hg (N := 3) ?hd (cs := #[.int .i64 kind, .string a, .int .i64 n]) (t := 40) ?hr ?_; (case hd => rfl); (case hg => rfl); (case hr => first | (go_simp; done) | (go_simp; rfl)); intro g3 hg w2 hbox hb; have L3 := Aside0.mk (show w1.heap.size ≤ g3 by omega); have B3 := Aside0.mk hbox; have Hw2 := Aside0.mk hb; have B2b := Aside0.mk (blk_below B2.out hb); clear hb hbox hg) | ((with_reducible refine gate_callee (f := 9) rfl ?_); refine goesL_ (some 9) rfl rfl Try.func9 (by kernel_rfl) rfl #[] rfl (by (try simp only [List.map_toArray, List.map_cons, List.map_nil]); first | done | rfl) ?_; (with_reducible refine (shelfmarklaw12_awake.calls k0 true _ HAW.out rfl).mono ?_); rintro e w3 ⟨rfl, hb⟩; refine ⟨_, rfl, ?_⟩; have B2c := Aside0.mk (blk_below B2b.out hb); have B3c := Aside0.mk (blk_below B3.out hb); have Hw3 := Aside0.mk hb; clear hb; have hc2_0 : w3.cell? ⟨g2, 0, none⟩ = some (.int .i64 ep) := (blk_cell B2c.out 0).trans rfl; have hc2_1 : w3.cell? ⟨g2, 1, none⟩ = some (.slice A l.length c) := (blk_cell B2c.out 1).trans rfl) | ((with_reducible refine gate_callee (f := 10) rfl ?_); refine goesL_ (some 12) rfl rfl Try.func10 (by kernel_rfl) rfl #[.agg #[.int .i64 ep, .slice A l.length c]] rfl (by (try simp only [List.map_toArray, List.map_cons, List.map_nil]); first | done | rfl) ?_; (with_reducible refine (shelfmarkref12_Light.calls kL ep _ _ l true _ ?side1 ?side2 HL.out).mono ?_); (case side1 => exact Kd.C_below HC.out (below_step (below_step Hw1.out Hw2.out) Hw3.out)); (case side2 => exact hc); rintro e w4 ⟨rfl, hb⟩; refine ⟨_, rfl, ?_⟩; have B2d := Aside0.mk (blk_below B2c.out hb); have B3d := Aside0.mk (blk_below B3c.out hb); have Hw4 := Aside0.mk hb; clear hc2_0 hc2_1 hb; have hc2_0 : w4.cell? ⟨g2, 0, none⟩ = some (.int .i64 ep) := (blk_cell B2d.out 0).trans rfl; have hc2_1 : w4.cell? ⟨g2, 1, none⟩ = some (.slice A l.length c) := (blk_cell B2d.out 1).trans rfl; have hc3_0 : w4.cell? ⟨g3, 0, none⟩ = some (.int .i64 kind) := (blk_cell B3d.out 0).trans rfl; have hc3_1 : w4.cell? ⟨g3, 1, none⟩ = some (.string a) := (blk_cell B3d.out 1).trans rfl; have hc3_2 : w4.cell? ⟨g3, 2, none⟩ = some (.int .i64 n) := (blk_cell B3d.out 2).trans rfl))
  go_ret
  exact ⟨by first | rfl | simp, below_step (below_step (below_step Hw1.out Hw2.out) Hw3.out) Hw4.out⟩
end Go.Proofs.Ytmgjccpolkhhhaa.Ak
