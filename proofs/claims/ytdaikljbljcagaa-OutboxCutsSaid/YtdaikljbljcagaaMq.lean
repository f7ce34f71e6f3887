/- DERIVED. span.Has, in, (*Box).Of, (*Box).Drop: the code walked. Conditions: those that each lemma names. -/
import Derived.Test.YtdaikljbljcagaaMp
namespace Go.Proofs.Ytdaikljbljcagaa.Mq
open Go Go.RowKit Go.Proofs.Ytdaikljbljcagaa.PAll Go.Proofs.YtdaikljbljcagaaW.PrintWords Go.Proofs.YtdaikljbljcagaaW.PrintLast Go.Proofs.Ytdaikljbljcagaa.Hl Go.Proofs.Ytdaikljbljcagaa.Fv Go.Proofs.Ytdaikljbljcagaa.Mc Go.Proofs.Ytdaikljbljcagaa.Me Go.Proofs.Ytdaikljbljcagaa.Mf Go.Proofs.Ytdaikljbljcagaa.Mi Go.Proofs.Ytdaikljbljcagaa.Mj Go.Proofs.Ytdaikljbljcagaa.Mk Go.Proofs.Ytdaikljbljcagaa.Mm Go.Proofs.Ytdaikljbljcagaa.Pn Go.Proofs.Ytdaikljbljcagaa.Pq Go.Proofs.Ytdaikljbljcagaa.Mp
set_option linter.unusedSimpArgs false
set_option linter.unusedVariables false
attribute [local go_sem] str_geq
set_option maxHeartbeats 16000000 in
set_option maxRecDepth 100000 in
theorem has_v (w : World) (lo hi : ByteArray) (x_ : S29) : Calls Try.prog 74 #[.agg #[.string lo, .string hi], .string x_.f0] w fun en w' => en = .returned (.bool (inR lo hi x_)) ∧ Below w.heap.size w w' := by
  have hu43 := Try.underlying43
  have mixed : Try.prog.follows Departure.mixedOrders = true := by kernel_rfl
  unfold inR
  obtain ⟨b1, hb1⟩ : ∃ b, Op.bytesLess x_.f0.toList lo.toList = b := ⟨_, rfl⟩
  obtain ⟨b3, hb3⟩ : ∃ b, Op.bytesLess x_.f0.toList hi.toList = b := ⟨_, rfl⟩
  rw [hb1, hb3]
  go_enter Try.func74, Try.ntmps74
  cases b1 with
  | true =>
    go_wp2_with (first
      | ((with_reducible refine gate_dst (N := 2) rfl ?_); refine box_event ?hg (N := 2) ?hd (cs := #[.string lo, .string hi]) (t := 43) ?hr ?_; (case hd => rfl); (case hg => rfl); (case hr => first | (go_simp; done) | (go_simp; rfl)); intro g2 hg_ wA hbox_ hb_; have BXa := Aside0.mk hbox_; have HBa := Aside0.mk hb_; have y0 : wA.cell? ⟨g2, 0, none⟩ = some (.string lo) := (blk_cell BXa.out 0).trans rfl; have y1 : wA.cell? ⟨g2, 1, none⟩ = some (.string hi) := (blk_cell BXa.out 1).trans rfl; clear hb_ hbox_ hg_))
    go_ret
    exact ⟨rfl, HBa.out⟩
  | false =>
    by_cases h2 : hi.toList = []
    · have q2 : (hi.toList == ([] : List UInt8)) = true := beq_iff_eq.2 h2
      rw [decide_eq_true h2]
      go_wp2_with (first
        | ((with_reducible refine gate_dst (N := 2) rfl ?_); refine box_event ?hg (N := 2) ?hd (cs := #[.string lo, .string hi]) (t := 43) ?hr ?_; (case hd => rfl); (case hg => rfl); (case hr => first | (go_simp; done) | (go_simp; rfl)); intro g2 hg_ wA hbox_ hb_; have BXa := Aside0.mk hbox_; have HBa := Aside0.mk hb_; have y0 : wA.cell? ⟨g2, 0, none⟩ = some (.string lo) := (blk_cell BXa.out 0).trans rfl; have y1 : wA.cell? ⟨g2, 1, none⟩ = some (.string hi) := (blk_cell BXa.out 1).trans rfl; clear hb_ hbox_ hg_))
      go_ret
      exact ⟨rfl, HBa.out⟩
    · have q2 : (hi.toList == ([] : List UInt8)) = false := beq_eq_false_iff_ne.2 h2
      rw [decide_eq_false h2]
      cases b3 with
      | true =>
        go_wp2_with (first
          | ((with_reducible refine gate_dst (N := 2) rfl ?_); refine box_event ?hg (N := 2) ?hd (cs := #[.string lo, .string hi]) (t := 43) ?hr ?_; (case hd => rfl); (case hg => rfl); (case hr => first | (go_simp; done) | (go_simp; rfl)); intro g2 hg_ wA hbox_ hb_; have BXa := Aside0.mk hbox_; have HBa := Aside0.mk hb_; have y0 : wA.cell? ⟨g2, 0, none⟩ = some (.string lo) := (blk_cell BXa.out 0).trans rfl; have y1 : wA.cell? ⟨g2, 1, none⟩ = some (.string hi) := (blk_cell BXa.out 1).trans rfl; clear hb_ hbox_ hg_))
        go_ret
        exact ⟨rfl, HBa.out⟩
      | false =>
        go_wp2_with (first
          | ((with_reducible refine gate_dst (N := 2) rfl ?_); refine box_event ?hg (N := 2) ?hd (cs := #[.string lo, .string hi]) (t := 43) ?hr ?_; (case hd => rfl); (case hg => rfl); (case hr => first | (go_simp; done) | (go_simp; rfl)); intro g2 hg_ wA hbox_ hb_; have BXa := Aside0.mk hbox_; have HBa := Aside0.mk hb_; have y0 : wA.cell? ⟨g2, 0, none⟩ = some (.string lo) := (blk_cell BXa.out 0).trans rfl; have y1 : wA.cell? ⟨g2, 1, none⟩ = some (.string hi) := (blk_cell BXa.out 1).trans rfl; clear hb_ hbox_ hg_))
        go_ret
        exact ⟨rfl, HBa.out⟩
set_option maxHeartbeats 16000000 in
set_option maxRecDepth 100000 in
theorem in_c (w : World) (gm : Nat) (lo hi : ByteArray) (hg : w.heap[gm]? = some (.cells #[.string lo, .string hi] 43 (0, 0))) (x_ : S29) : Calls Try.prog 73 (#[.agg #[.string x_.f0, .int .i64 x_.f1, .bool x_.f2]] ++ #[.pointer (some ⟨gm, 0, none⟩)]) w fun en w' => en = .returned (.bool (inR lo hi x_)) ∧ Below w.heap.size w w' := by
  have hu43 := Try.underlying43
  have hu29 := Try.underlying29
  have mixed : Try.prog.follows Departure.mixedOrders = true := by kernel_rfl
  go_enter Try.func73, Try.ntmps73
  go_wp2_with (first
    | ((with_reducible refine gate_dst (N := 2) rfl ?_); refine box_event ?hg (N := 2) ?hd (cs := #[.string x_.f0, .int .i64 x_.f1, .bool x_.f2]) (t := 29) ?hr ?_; (case hd => rfl); (case hg => rfl); (case hr => first | (go_simp; done) | (go_simp; rfl)); intro g2 hg_ wA hbox_ hb_; have BXa := Aside0.mk hbox_; have HBa := Aside0.mk hb_; have BMa := Aside0.mk (blk_below hg hb_); have y0 : wA.cell? ⟨g2, 0, none⟩ = some (.string x_.f0) := (blk_cell BXa.out 0).trans rfl; have m0 : wA.cell? ⟨gm, 0, none⟩ = some (.string lo) := (blk_cell BMa.out 0).trans rfl; have m1 : wA.cell? ⟨gm, 1, none⟩ = some (.string hi) := (blk_cell BMa.out 1).trans rfl; clear hb_ hbox_ hg_)
    | ((with_reducible refine gate_callee (f := 74) rfl ?_); (try (refine gate_guard (by rfl) ?_; dsimp only)); refine goesL_ (some 7) rfl rfl Try.func74 (by kernel_rfl) rfl #[.agg #[.string lo, .string hi], .string x_.f0] rfl (by (try simp only [List.map_toArray, List.map_cons, List.map_nil]); first | done | rfl) ?_; (refine (has_v wA lo hi x_).mono ?_); rintro en wq ⟨rfl, hb_⟩; refine ⟨_, rfl, ?_⟩; have HBq := Aside0.mk (below_step HBa.out hb_); clear hb_))
  go_ret
  exact ⟨rfl, HBq.out⟩
theorem in_all {w4 : World} {gi : Nat} {lo hi : ByteArray} (l : List S29) (h : w4.heap[gi]? = some (.cells #[.string lo, .string hi] 43 (0, 0))) : ∀ (W : World) (x_ : S29), Below w4.heap.size w4 W → x_ ∈ l → Calls Try.prog 73 (#[.agg #[.string x_.f0, .int .i64 x_.f1, .bool x_.f2]] ++ #[.pointer (some ⟨gi, 0, none⟩)]) W fun e W' => e = .returned (.bool (inR lo hi x_)) ∧ Below W.heap.size W W' :=
  fun W x_ hW _ => in_c W gi lo hi (blk_below h hW) x_
set_option maxHeartbeats 16000000 in
set_option maxRecDepth 100000 in
theorem in_v (w : World) (lo hi : ByteArray) : Calls Try.prog 64 #[.agg #[.string lo, .string hi]] w fun en w' => ∃ gi, en = .returned (.func (.func 73) #[] #[.pointer (some ⟨gi, 0, none⟩)]) ∧ w'.heap[gi]? = some (.cells #[.string lo, .string hi] 43 (0, 0)) ∧ w.heap.size ≤ gi ∧ Below w.heap.size w w' := by
  have hu43 := Try.underlying43
  have mixed : Try.prog.follows Departure.mixedOrders = true := by kernel_rfl
  go_enter Try.func64, Try.ntmps64
  go_wp2_with (first
    | ((with_reducible refine gate_dst (N := 1) rfl ?_); refine box_event ?hg (N := 1) ?hd (cs := #[.string lo, .string hi]) (t := 43) ?hr ?_; (case hd => rfl); (case hg => rfl); (case hr => first | (go_simp; done) | (go_simp; rfl)); intro g1 hg_ wA hbox_ hb_; have LG := Aside0.mk (show w.heap.size ≤ g1 by omega); have BXa := Aside0.mk hbox_; have HBa := Aside0.mk hb_; clear hb_ hbox_ hg_))
  go_ret
  exact ⟨g1, rfl, BXa.out, LG.out, HBa.out⟩
set_option maxHeartbeats 16000000 in
set_option maxRecDepth 100000 in
theorem Of_v (w : World) (base gb : Nat) (S : Nat → Prop) (mo : Int) (l : List S29) (hX : Box 68 w base S gb mo l) (hbase : base ≤ w.heap.size) (lo hi : ByteArray) (hz : l.length < 1000000000) :
    Calls Try.prog 46 #[.pointer (some ⟨gb, 0, none⟩), .agg #[.string lo, .string hi]] w fun en w' => ∃ v, en = .returned v ∧ Kd.R k29 29 w' w.heap.size (fun _ => True) v (l.filter (inR lo hi)) ∧ Below w.heap.size w w' := by
  have hu29 := Try.underlying29
  have hu68 := Try.underlying68
  have mixed : Try.prog.follows Departure.mixedOrders = true := by kernel_rfl
  have HX := Aside0.mk hX
  obtain ⟨hS, hSb, A, c, hB, hR⟩ := hX
  have HS := Aside0.mk hS
  have HSB := Aside0.mk hSb
  have BX := Aside0.mk hB
  have HR := Aside0.mk hR
  have HBS := Aside0.mk hbase
  clear hB hR hbase hS hSb
  have hu43 := Try.underlying43
  have LZ := Aside0.mk (show l.length < 1000000000000 by omega)
  clear hz
  go_enter Try.func46, Try.ntmps46
  go_upto_region 1 with (first
    | ((with_reducible refine gate_dst (N := 3) rfl ?_); refine box_event ?hg (N := 3) ?hd (cs := #[.string lo, .string hi]) (t := 43) ?hr ?_; (case hd => rfl); (case hg => rfl); (case hr => first | (go_simp; done) | (go_simp; rfl)); intro g3 hg_ wA hbox_ hb_; have B3a := Aside0.mk hbox_; have HBa := Aside0.mk hb_; have BXa := Aside0.mk (blk_below BX.out hb_); clear hb_ hbox_ hg_))
  go_region_held3 (fun W : World => W.cell? ⟨gb, 1, none⟩ = some (.slice A l.length c) ∧ W.cell? ⟨g3, 0, none⟩ = some (.string lo) ∧ W.cell? ⟨g3, 1, none⟩ = some (.string hi)) (first | exact ⟨(blk_cell BX5.out 1).trans rfl, (blk_cell B35.out 0).trans rfl, (blk_cell B35.out 1).trans rfl⟩ | exact ⟨(blk_cell BX4.out 1).trans rfl, (blk_cell B34.out 0).trans rfl, (blk_cell B34.out 1).trans rfl⟩ | exact ⟨(blk_cell (by with_reducible repeat (first | exact BXa.out | refine blk_drewN ?_ _ | refine blk_drew ?_)) 1).trans rfl, (blk_cell (by with_reducible repeat (first | exact B3a.out | refine blk_drewN ?_ _ | refine blk_drew ?_)) 0).trans rfl, (blk_cell (by with_reducible repeat (first | exact B3a.out | refine blk_drewN ?_ _ | refine blk_drew ?_)) 1).trans rfl⟩) (first
    | (go_at_call 64; (refine (in_v _ lo hi).mono ?_); rintro en w4 ⟨gi, rfl, hi_, hgi_, hb_⟩; have HI4 := Aside0.mk hi_; have BX4 := Aside0.mk (blk_below (blk_drew BXa.out) hb_); have B34 := Aside0.mk (blk_below (blk_drew B3a.out) hb_); have HB4 := Aside0.mk (below_step (below_drew HBa.out) hb_); have HC4 := Aside0.mk (Kd.C_below (Kd.R_reads' HR.out).2.2 (below_step (below_drew HBa.out) hb_)); have HF4 := Aside0.mk (in_all (w4 := w4) l hi_); clear hi_ hgi_ hb_)
    | (go_at_call 50; (refine (part_v w4 A c l HC4.out LZ.out (inR lo hi) 73 _ Try.func73 (by kernel_rfl) rfl #[.pointer (some ⟨gi, 0, none⟩)] HF4.out).mono ?_); rintro en w5 ⟨v1, v2, rfl, h1_, h2_, ha_, hb_⟩; obtain ⟨A1, c1, hv1_⟩ := Kd.R_slice h1_; obtain ⟨A2, c2, hv2_⟩ := Kd.R_slice h2_; subst hv1_; subst hv2_; have HR5 := Aside0.mk h1_; have HR6 := Aside0.mk h2_; have HB5 := Aside0.mk (below_step HB4.out hb_); have BX5 := Aside0.mk (blk_below BX4.out hb_); have B35 := Aside0.mk (blk_below B34.out hb_); clear h1_ h2_ ha_ hb_))
  all_goals (try go_wp2)
  all_goals go_ret
  all_goals exact ⟨_, rfl, Kd.R_lower HR5.out HB4.out.size, HB5.out⟩
set_option maxHeartbeats 16000000 in
set_option maxRecDepth 100000 in
theorem Drop_v (w : World) (base gb : Nat) (S : Nat → Prop) (mo : Int) (l : List S29) (hX : Box 68 w base S gb mo l) (hbase : base ≤ w.heap.size) (lo hi : ByteArray) (hz : l.length < 1000000000) (out left : List S29) (hout : out = l.filter (inR lo hi)) (hleft : left = l.filter (fun x => !inR lo hi x)) :
    Calls Try.prog 48 #[.pointer (some ⟨gb, 0, none⟩), .agg #[.string lo, .string hi]] w fun en w' => en = .returned (.int .i64 (out.length : Int)) ∧ ∃ S', Box 68 w' base S' gb mo left ∧ Upd w w' base S S' := by
  have hu29 := Try.underlying29
  have hu68 := Try.underlying68
  have mixed : Try.prog.follows Departure.mixedOrders = true := by kernel_rfl
  have HX := Aside0.mk hX
  obtain ⟨hS, hSb, A, c, hB, hR⟩ := hX
  have HS := Aside0.mk hS
  have HSB := Aside0.mk hSb
  have BX := Aside0.mk hB
  have HR := Aside0.mk hR
  have HBS := Aside0.mk hbase
  clear hB hR hbase hS hSb
  have hu43 := Try.underlying43
  have LZ := Aside0.mk (show l.length < 1000000000000 by omega)
  have HOU := Aside0.mk hout
  have HLE := Aside0.mk hleft
  clear hz hout hleft
  go_enter Try.func48, Try.ntmps48
  go_upto_region 1 with (first
    | ((with_reducible refine gate_dst (N := 3) rfl ?_); refine box_event ?hg (N := 3) ?hd (cs := #[.string lo, .string hi]) (t := 43) ?hr ?_; (case hd => rfl); (case hg => rfl); (case hr => first | (go_simp; done) | (go_simp; rfl)); intro g3 hg_ wA hbox_ hb_; have B3a := Aside0.mk hbox_; have HBa := Aside0.mk hb_; have BXa := Aside0.mk (blk_below BX.out hb_); clear hb_ hbox_ hg_))
  go_cut [5, 6] from 8 to 16 (fun v5 v6 w5 => ∃ (A1 A2 : Option Addr) (c1 c2 : Nat), v5 = .slice A1 out.length c1 ∧ v6 = .slice A2 left.length c2 ∧ Aside0 (Kd.R k29 29 w5 w.heap.size (fun _ => True) (.slice A2 left.length c2) left) ∧ Aside0 (Below w.heap.size w w5) ∧ Aside0 (w5.heap[gb]? = some (.cells #[.int .i64 mo, .slice A l.length c] 68 (0, 0))))
  case first =>
    go_region_held3 (fun W : World => W.cell? ⟨gb, 1, none⟩ = some (.slice A l.length c) ∧ W.cell? ⟨g3, 0, none⟩ = some (.string lo) ∧ W.cell? ⟨g3, 1, none⟩ = some (.string hi)) (first | exact ⟨(blk_cell BX5.out 1).trans rfl, (blk_cell B35.out 0).trans rfl, (blk_cell B35.out 1).trans rfl⟩ | exact ⟨(blk_cell BX4.out 1).trans rfl, (blk_cell B34.out 0).trans rfl, (blk_cell B34.out 1).trans rfl⟩ | exact ⟨(blk_cell (by with_reducible repeat (first | exact BXa.out | refine blk_drewN ?_ _ | refine blk_drew ?_)) 1).trans rfl, (blk_cell (by with_reducible repeat (first | exact B3a.out | refine blk_drewN ?_ _ | refine blk_drew ?_)) 0).trans rfl, (blk_cell (by with_reducible repeat (first | exact B3a.out | refine blk_drewN ?_ _ | refine blk_drew ?_)) 1).trans rfl⟩) (first
      | (go_at_call 64; (refine (in_v _ lo hi).mono ?_); rintro en w4 ⟨gi, rfl, hi_, hgi_, hb_⟩; have HI4 := Aside0.mk hi_; have BX4 := Aside0.mk (blk_below (blk_drew BXa.out) hb_); have B34 := Aside0.mk (blk_below (blk_drew B3a.out) hb_); have HB4 := Aside0.mk (below_step (below_drew HBa.out) hb_); have HC4 := Aside0.mk (Kd.C_below (Kd.R_reads' HR.out).2.2 (below_step (below_drew HBa.out) hb_)); have HF4 := Aside0.mk (in_all (w4 := w4) l hi_); clear hi_ hgi_ hb_)
      | (go_at_call 50; (refine (part_v w4 A c l HC4.out LZ.out (inR lo hi) 73 _ Try.func73 (by kernel_rfl) rfl #[.pointer (some ⟨gi, 0, none⟩)] HF4.out).mono ?_); rintro en w5 ⟨v1, v2, rfl, h1_, h2_, ha_, hb_⟩; obtain ⟨A1, c1, hv1_⟩ := Kd.R_slice h1_; obtain ⟨A2, c2, hv2_⟩ := Kd.R_slice h2_; subst hv1_; subst hv2_; have HR5 := Aside0.mk h1_; have HR6 := Aside0.mk h2_; have HB5 := Aside0.mk (below_step HB4.out hb_); have BX5 := Aside0.mk (blk_below BX4.out hb_); have B35 := Aside0.mk (blk_below B34.out hb_); clear h1_ h2_ ha_ hb_))
    all_goals (try go_wp2)
    all_goals go_meet
    all_goals exact ⟨A1, A2, c1, c2, by rw [HOU.out], by rw [HLE.out], ⟨by rw [HLE.out]; exact Kd.R_lower HR6.out HB4.out.size⟩, HB5, BX5⟩
  case rest =>
    obtain ⟨A1, A2, c1, c2, rfl, rfl, HR7, HB7, BX7⟩ := hcut
    have z1 : wc.cell? ⟨gb, 1, none⟩ = some (.slice A l.length c) := (blk_cell BX7.out 1).trans rfl
    have y1 := blk_frozen BX7.out 1
    go_wp2
    go_ret
    refine ⟨rfl, fun k => (S k ∨ w.heap.size ≤ k) ∧ k < wc.heap.size, ⟨⟨.inl HS.out, blk_lt BX7.out⟩, ?_, ?_⟩, ⟨Below.setCell (below_low HB7.out HBS.out) (p := ⟨gb, 1, none⟩) (HSB.out gb HS.out).1 _, kept_set (Kept.of_below HB7.out S) (.inl HS.out) _, fun k hk => hk.1⟩⟩
    · intro k hk
      refine ⟨?_, by have := hk.2; simpa [World.setCell] using this⟩
      rcases hk.1 with h1 | h1
      · exact (HSB.out k h1).1
      · exact Nat.le_trans HBS.out h1
    · exact ⟨A2, c2, blk_put BX7.out 1 _ rfl, Kd.R_set (Kd.R_lower (Kd.R_mono (Kd.R_bound HR7.out) (fun k hk => ⟨.inr hk.2.1, hk.2.2.1⟩)) HBS.out) BX7.out (by decide) 1 _⟩
end Go.Proofs.Ytdaikljbljcagaa.Mq
