/- DERIVED. outbox.New, shelfmarkref18.New and (*Box).Done: their code walked. Conditions: those that each lemma names. -/
import Derived.Test.YtdaikljbljcagaaMj
import Derived.Deep.RegionHeld3
namespace Go.Proofs.Ytdaikljbljcagaa.Mk
open Go Go.RowKit Go.Proofs.Ytdaikljbljcagaa.PAll Go.Proofs.YtdaikljbljcagaaW.PrintWords Go.Proofs.YtdaikljbljcagaaW.PrintLast Go.Proofs.Ytdaikljbljcagaa.Hl Go.Proofs.Ytdaikljbljcagaa.Fv Go.Proofs.Ytdaikljbljcagaa.Ma Go.Proofs.Ytdaikljbljcagaa.Mc Go.Proofs.Ytdaikljbljcagaa.Me Go.Proofs.Ytdaikljbljcagaa.Mi Go.Proofs.Ytdaikljbljcagaa.Mj Go.Proofs.Ytdaikljbljcagaa.Dr
set_option linter.unusedSimpArgs false
set_option linter.unusedVariables false
set_option maxHeartbeats 4000000 in
set_option maxRecDepth 100000 in
theorem new_v (w : World) (n : Int) : Calls Try.prog 13 #[.int .i64 n] w fun en w' => ∃ gb, en = .returned (.pointer (some ⟨gb, 0, none⟩)) ∧ Box 68 w' w.heap.size (fun k => k = gb) gb (mx n 0) [] ∧ w.heap.size ≤ gb ∧ Below w.heap.size w w' := by
  have hu68 := Try.underlying68
  have hm : (if n < 0 then 0 else n) = mx n 0 := rfl
  have mixed : Try.prog.follows Departure.mixedOrders = true := by kernel_rfl
  go_enter Try.func13, Try.ntmps13
  go_wp2_with (first
    | ((with_reducible refine gate_dst (N := 6) rfl ?_); refine box_event ?hg (N := 6) ?hd (cs := #[.int .i64 (mx n 0), .slice none 0 0]) (t := 68) ?hr ?_; (case hd => rfl); (case hg => rfl); (case hr => first | (go_simp; done) | (go_simp; rfl)); intro gb hg_ wA hbox_ hb_; have LG := Aside0.mk (show w.heap.size ≤ gb by omega); have BX := Aside0.mk hbox_; have HB := Aside0.mk hb_; clear hb_ hbox_ hg_))
  go_ret
  exact ⟨gb, rfl, ⟨rfl, fun k hk => by subst hk; exact ⟨LG.out, blk_lt BX.out⟩, none, 0, BX.out, Kd.R_nil _ _ _ _ _⟩, LG.out, HB.out⟩
set_option maxHeartbeats 4000000 in
set_option maxRecDepth 100000 in
theorem newr_v (w : World) (n : Int) : Calls Try.prog 14 #[.int .i64 n] w fun en w' => ∃ gb, en = .returned (.pointer (some ⟨gb, 0, none⟩)) ∧ Box 70 w' w.heap.size (fun k => k = gb) gb (mx n 0) [] ∧ w.heap.size ≤ gb ∧ Below w.heap.size w w' := by
  have hu70 := Try.underlying70
  have mixed : Try.prog.follows Departure.mixedOrders = true := by kernel_rfl
  go_enter Try.func14, Try.ntmps14
  by_cases h : n < 0
  · have h1 : mx n 0 = 0 := by unfold mx; rw [if_pos h]
    rw [h1]
    clear h1
    go_wp2_with (first
      | ((with_reducible refine gate_dst (N := 7) rfl ?_); refine box_event ?hg (N := 7) ?hd (cs := #[.int .i64 0, .slice none 0 0]) (t := 70) ?hr ?_; (case hd => rfl); (case hg => rfl); (case hr => first | (go_simp; done) | (go_simp; rfl)); intro gb hg_ wA hbox_ hb_; have LG := Aside0.mk (show w.heap.size ≤ gb by omega); have BX := Aside0.mk hbox_; have HB := Aside0.mk hb_; clear hb_ hbox_ hg_))
    go_ret
    exact ⟨gb, rfl, ⟨rfl, fun k hk => by subst hk; exact ⟨LG.out, blk_lt BX.out⟩, none, 0, BX.out, Kd.R_nil _ _ _ _ _⟩, LG.out, HB.out⟩
  · have h1 : mx n 0 = n := by unfold mx; rw [if_neg h]
    rw [h1]
    clear h1
    go_wp2_with (first
      | ((with_reducible refine gate_dst (N := 7) rfl ?_); refine box_event ?hg (N := 7) ?hd (cs := #[.int .i64 n, .slice none 0 0]) (t := 70) ?hr ?_; (case hd => rfl); (case hg => rfl); (case hr => first | (go_simp; done) | (go_simp; rfl)); intro gb hg_ wA hbox_ hb_; have LG := Aside0.mk (show w.heap.size ≤ gb by omega); have BX := Aside0.mk hbox_; have HB := Aside0.mk hb_; clear hb_ hbox_ hg_))
    go_ret
    exact ⟨gb, rfl, ⟨rfl, fun k hk => by subst hk; exact ⟨LG.out, blk_lt BX.out⟩, none, 0, BX.out, Kd.R_nil _ _ _ _ _⟩, LG.out, HB.out⟩
set_option maxHeartbeats 4000000 in
set_option maxRecDepth 100000 in
theorem known_c (W : World) (B n gm : Nat) (f : ByteArray → Int → Int) (hM : MapN W B n f) (hg : W.heap[gm]? = some (.cells #[.map (some B)] 83 (0, 0))) (x_ : S29) (he : x_.f0.size ≤ maxLen) (hv : (Lit.int .i64 x_.f1).wf = true) :
    Calls Try.prog 54 (#[.agg #[.string x_.f0, .int .i64 x_.f1, .bool x_.f2]] ++ #[.pointer (some ⟨gm, 0, none⟩)]) W fun en W' => en = .returned (.bool (decide (f x_.f0 x_.f1 > 0))) ∧ Below W.heap.size W W' := by
  have hu29 := Try.underlying29
  have hu83 := Try.underlying83
  have mixed : Try.prog.follows Departure.mixedOrders = true := by kernel_rfl
  go_enter Try.func54, Try.ntmps54
  go_upto_region 1 with (first
    | ((with_reducible refine gate_dst (N := 2) rfl ?_); refine box_event ?hg (N := 2) ?hd (cs := #[.string x_.f0, .int .i64 x_.f1, .bool x_.f2]) (t := 29) ?hr ?_; (case hd => rfl); (case hg => rfl); (case hr => first | (go_simp; done) | (go_simp; rfl)); intro g2 hg_ wA hbox_ hb_; have BXa := Aside0.mk hbox_; have HBa := Aside0.mk hb_; have HMa := Aside0.mk (hM.below hb_); have BMa := Aside0.mk (blk_below hg hb_); clear hb_ hbox_ hg_))
  go_region_held3 (fun W : World => W.cell? ⟨gm, 0, none⟩ = some (.map (some B)) ∧ W.cell? ⟨g2, 0, none⟩ = some (.string x_.f0) ∧ W.cell? ⟨g2, 1, none⟩ = some (.int .i64 x_.f1) ∧ W.cell? ⟨g2, 2, none⟩ = some (.bool x_.f2)) (first | exact ⟨(blk_cell BMq.out 0).trans rfl, (blk_cell BXq.out 0).trans rfl, (blk_cell BXq.out 1).trans rfl, (blk_cell BXq.out 2).trans rfl⟩ | exact ⟨(blk_cell (by with_reducible repeat (first | exact BMa.out | refine blk_drewN ?_ _ | refine blk_drew ?_)) 0).trans rfl, (blk_cell (by with_reducible repeat (first | exact BXa.out | refine blk_drewN ?_ _ | refine blk_drew ?_)) 0).trans rfl, (blk_cell (by with_reducible repeat (first | exact BXa.out | refine blk_drewN ?_ _ | refine blk_drew ?_)) 1).trans rfl, (blk_cell (by with_reducible repeat (first | exact BXa.out | refine blk_drewN ?_ _ | refine blk_drew ?_)) 2).trans rfl⟩) (first
    | (go_at_call 55; (refine (outbox_of.calls x_.f0 x_.f1 x_.f2 x_.f0 x_.f1 _ rfl).mono ?_); rintro en wq ⟨rfl, hb_⟩; have HMq := Aside0.mk ((HMa.out.below (below_drew (Below.refl _ _))).below hb_); have BXq := Aside0.mk (blk_below (blk_drew BXa.out) hb_); have BMq := Aside0.mk (blk_below (blk_drew BMa.out) hb_); have HBq := Aside0.mk (below_step (below_drew HBa.out) hb_); have hlook : (Instr.lookup 83 (.map (some B)) (.agg #[.string x_.f0, .int .i64 x_.f1]) false).run Try.prog wq = .ok (.int .i64 (f x_.f0 x_.f1)) wq := HMq.out.look he hv; clear hb_))
  all_goals (try go_wp2)
  all_goals go_ret
  all_goals exact ⟨rfl, HBq.out⟩
/-- Is an intent's name among those of a list? -/
def named (m : List S29) (x : S29) : Bool := decide (namesF m x.f0 x.f1 > 0)
set_option maxHeartbeats 16000000 in
set_option maxRecDepth 100000 in
theorem done_v (w : World) (base gb : Nat) (S : Nat → Prop) (mo : Int) (l : List S29) (hX : Box 68 w base S gb mo l) (hbase : base ≤ w.heap.size) (AM : Option Addr) (cM : Nat) (m : List S29) (hm : Kd.C k29 w AM m.length m) (wl : WfI l) (wm : WfI m) (hz : l.length < 1000000000000) (out left : List S29) (hout : out = l.filter (named m)) (hleft : left = l.filter (fun x => !named m x)) :
    Calls Try.prog 26 #[.pointer (some ⟨gb, 0, none⟩), .slice AM m.length cM] w fun en w' => en = .returned (.int .i64 (out.length : Int)) ∧ ∃ S', Box 68 w' base S' gb mo left ∧ Upd w w' base S S' := by
  have hu29 := Try.underlying29
  have hu68 := Try.underlying68
  have mixed : Try.prog.follows Departure.mixedOrders = true := by kernel_rfl
  obtain ⟨hS, hSb, A, c, hB, hR⟩ := hX
  have HS := Aside0.mk hS
  have HSB := Aside0.mk hSb
  have BX := Aside0.mk hB
  have HR := Aside0.mk hR
  have HMC := Aside0.mk hm
  have WL := Aside0.mk wl
  have WM := Aside0.mk wm
  have LZ := Aside0.mk hz
  have HBS := Aside0.mk hbase
  have HO := Aside0.mk hout
  have HL := Aside0.mk hleft
  clear hB hR hm wl wm hz hbase hS hSb hout hleft
  go_enter Try.func26, Try.ntmps26
  go_upto_region 2 with (first
    | ((with_reducible refine gate_callee (f := 53) rfl ?_); refine goesL_ (some 9) rfl rfl Try.func53 (by kernel_rfl) rfl #[.slice AM m.length cM] rfl (by (try simp only [List.map_toArray, List.map_cons, List.map_nil]); first | done | rfl) ?_; (refine (names_v w AM cM m HMC.out WM.out).mono ?_); rintro en w1 ⟨B, rfl, hge_, hm_, hb_⟩; refine ⟨_, rfl, ?_⟩; have HM1 := Aside0.mk hm_; have HB1 := Aside0.mk hb_; have BX1 := Aside0.mk (blk_below BX.out hb_); clear hm_ hb_ hge_)
    | ((with_reducible refine gate_dst (N := 5) rfl ?_); refine box_event ?hg (N := 5) ?hd (cs := #[.map none]) (t := 83) ?hr ?_; (case hd => rfl); (case hg => rfl); (case hr => first | (go_simp; done) | (go_simp; rfl)); intro g5 hg_ w2 hbox_ hb_; have BA := Aside0.mk hbox_; have HB2 := Aside0.mk (below_step HB1.out hb_); have HM2 := Aside0.mk (HM1.out.below hb_); have BX2 := Aside0.mk (blk_below BX1.out hb_); have LG5 := Aside0.mk (show w1.heap.size ≤ g5 by omega); have yx0 := blk_frozen BA.out 0; have zx0 : w2.cell? ⟨g5, 0, none⟩ = some (.map none) := (blk_cell BA.out 0).trans rfl; clear hb_ hbox_ hg_))
  have BA2 := Aside0.mk (blk_put (cs' := #[.map (some B)]) BA.out 0 (.map (some B)) rfl)
  have LW5 := Aside0.mk (show w.heap.size ≤ g5 from Nat.le_trans HB1.out.size LG5.out)
  have N5 := Aside0.mk (show B ≠ g5 from fun e => by have h1 := HM1.out.lt; have h2 := LG5.out; omega)
  have HM3 := Aside0.mk (MapN.far HM2.out (p := ⟨g5, 0, none⟩) N5.out (.map (some B)))
  have HB3 := Aside0.mk (Below.setCell HB2.out (p := ⟨g5, 0, none⟩) LW5.out (.map (some B)))
  have BX3 := Aside0.mk (blk_far BX2.out (p := ⟨g5, 0, none⟩) (fun e => by have h1 := (HSB.out gb HS.out).2; have h2 := LW5.out; simp only at e; omega) (.map (some B)))
  obtain ⟨w3, hw_⟩ : ∃ u, w2.setCell ⟨g5, 0, none⟩ (.map (some B)) = u := ⟨_, rfl⟩
  rw [hw_] at BA2 HM3 HB3 BX3 ⊢
  clear hw_ yx0 zx0
  have z1 : w3.cell? ⟨gb, 1, none⟩ = some (.slice A l.length c) := (blk_cell BX3.out 1).trans rfl
  have HC3 := Aside0.mk (Kd.C_below (Kd.R_reads' HR.out).2.2 HB3.out)
  have HF := Aside0.mk (show ∀ (W : World) (x_ : S29), Below w3.heap.size w3 W → x_ ∈ l → Calls Try.prog 54 (#[.agg #[.string x_.f0, .int .i64 x_.f1, .bool x_.f2]] ++ #[.pointer (some ⟨g5, 0, none⟩)]) W fun e W' => e = .returned (.bool (named m x_)) ∧ Below W.heap.size W W' from fun W x_ hW hx => known_c W B m.length g5 (namesF m) (HM3.out.below hW) (blk_below BA2.out hW) x_ (WL.out x_ hx).1 (WL.out x_ hx).2)
  go_wp2_with (first
        | ((with_reducible refine gate_callee (f := 50) rfl ?_); refine goesL_ (some 16) rfl rfl Try.func50 (by kernel_rfl) rfl #[.slice A l.length c, .func (.func 54) #[] #[.pointer (some ⟨g5, 0, none⟩)]] rfl (by (try simp only [List.map_toArray, List.map_cons, List.map_nil]); first | done | rfl) ?_; (refine (part_v w3 A c l HC3.out LZ.out (named m) 54 _ Try.func54 (by kernel_rfl) rfl #[.pointer (some ⟨g5, 0, none⟩)] HF.out).mono ?_); rintro en w4 ⟨v1, v2, rfl, h1_, h2_, ha_, hb_⟩; obtain ⟨A1, c1, hv1_⟩ := Kd.R_slice h1_; obtain ⟨A2, c2, hv2_⟩ := Kd.R_slice h2_; subst hv1_; subst hv2_; refine ⟨_, rfl, ?_⟩; have HR4 := Aside0.mk h2_; have HB4 := Aside0.mk (below_step HB3.out hb_); have BX4 := Aside0.mk (blk_below BX3.out hb_); have y1 := blk_frozen BX4.out 1; clear z1; have z1 : w4.cell? ⟨gb, 1, none⟩ = some (.slice A l.length c) := (blk_cell BX4.out 1).trans rfl; clear h1_ h2_ ha_ hb_))
  go_ret
  refine ⟨by rw [HO.out]; rfl, fun k => (S k ∨ w.heap.size ≤ k) ∧ k < w4.heap.size, ⟨⟨.inl HS.out, blk_lt BX4.out⟩, ?_, ?_⟩, ⟨Below.setCell (below_low HB4.out HBS.out) (p := ⟨gb, 1, none⟩) (HSB.out gb HS.out).1 _, kept_set (Kept.of_below HB4.out S) (.inl HS.out) _, fun k hk => hk.1⟩⟩
  · intro k hk
    refine ⟨?_, by have := hk.2; simpa [World.setCell] using this⟩
    rcases hk.1 with h1 | h1
    · exact (HSB.out k h1).1
    · exact Nat.le_trans HBS.out h1
  · rw [HL.out]
    exact ⟨A2, c2, blk_put BX4.out 1 _ rfl, Kd.R_set (Kd.R_lower (Kd.R_mono (Kd.R_bound HR4.out) (fun k hk => ⟨.inr (Nat.le_trans HB3.out.size hk.2.1), hk.2.2.1⟩)) (Nat.le_trans HBS.out HB3.out.size)) BX4.out (by decide) 1 _⟩
end Go.Proofs.Ytdaikljbljcagaa.Mk
