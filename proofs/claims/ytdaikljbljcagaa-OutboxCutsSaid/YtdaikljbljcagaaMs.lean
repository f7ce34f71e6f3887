/- DERIVED. same: the code walked. Conditions: those that each lemma names. DERIVED. do, act by act: the code walked. Conditions: those that each lemma names. -/
import Derived.Test.YtdaikljbljcagaaMq
import Derived.Deep.DeepMust
import Derived.Test.YtdaikljbljcagaaPAllx16
namespace Go.Proofs.Ytdaikljbljcagaa.Mr
open Go Go.RowKit Go.Proofs.Ytdaikljbljcagaa.PAll Go.Proofs.YtdaikljbljcagaaW.PrintWords Go.Proofs.YtdaikljbljcagaaW.PrintLast Go.Proofs.Ytdaikljbljcagaa.Hl Go.Proofs.Ytdaikljbljcagaa.Fv Go.Proofs.Ytdaikljbljcagaa.Mc Go.Proofs.Ytdaikljbljcagaa.Me Go.Proofs.Ytdaikljbljcagaa.Mf Go.Proofs.Ytdaikljbljcagaa.Mg Go.Proofs.Ytdaikljbljcagaa.Mh Go.Proofs.Ytdaikljbljcagaa.Mi Go.Proofs.Ytdaikljbljcagaa.Mj Go.Proofs.Ytdaikljbljcagaa.Mk Go.Proofs.Ytdaikljbljcagaa.Mm Go.Proofs.Ytdaikljbljcagaa.Pn Go.Proofs.Ytdaikljbljcagaa.Pq Go.Proofs.Ytdaikljbljcagaa.Mp Go.Proofs.Ytdaikljbljcagaa.Mq
set_option linter.unusedSimpArgs false
set_option linter.unusedVariables false
set_option maxHeartbeats 16000000 in
set_option maxRecDepth 100000 in
theorem same_v (w : World) (gb gr : Nat) (mo : Int) (l : List S29) (A A2 : Option Addr) (c c2 : Nat) (hB : w.heap[gb]? = some (.cells #[.int .i64 mo, .slice A l.length c] 68 (0, 0))) (hC : Kd.C k29 w A l.length l) (hc : l.length ≤ c) (hR : w.heap[gr]? = some (.cells #[.int .i64 mo, .slice A2 l.length c2] 70 (0, 0))) (hC2 : Kd.C k29 w A2 l.length l) (hc2 : l.length ≤ c2) (hz : l.length < 1000000000) (k : Nat) (hs : shelfmarkref13_SameIntents.f k l l = some true) :
    Calls Try.prog 18 #[.pointer (some ⟨gb, 0, none⟩), .pointer (some ⟨gr, 0, none⟩)] w fun en w' => en = .returned (.bool true) ∧ Below w.heap.size w w' := by
  have hu29 := Try.underlying29
  have hu70 := Try.underlying70
  have hu68 := Try.underlying68
  have mixed : Try.prog.follows Departure.mixedOrders = true := by kernel_rfl
  have BX := Aside0.mk hB
  have RX := Aside0.mk hR
  have HC := Aside0.mk hC
  have HCC := Aside0.mk hc
  have HC2 := Aside0.mk hC2
  have HCC2 := Aside0.mk hc2
  have LZ := Aside0.mk (show l.length < 4398046511104 by omega)
  have DU := Aside0.mk (show l.length = dueN 1099511627776 l.length by
    unfold dueN mn mx
    repeat' split
    all_goals omega)
  have HS := Aside0.mk hs
  have iw : ∀ x : Int, IntKind.i64.wrap x = wrap64 x := fun x => i64_w x
  clear hB hR hC hc hC2 hc2 hz hs
  go_enter Try.func18, Try.ntmps18
  go_upto_region 1 with (fail)
  go_region_held3 (fun W : World => W.cell? ⟨gr, 0, none⟩ = some (.int .i64 mo) ∧ W.cell? ⟨gr, 1, none⟩ = some (.slice A2 l.length c2)) (first | exact ⟨(blk_cell (by with_reducible repeat (first | exact R4.out | refine blk_drewN ?_ _ | refine blk_drew ?_)) 0).trans rfl, (blk_cell (by with_reducible repeat (first | exact R4.out | refine blk_drewN ?_ _ | refine blk_drew ?_)) 1).trans rfl⟩ | exact ⟨(blk_cell (by with_reducible repeat (first | exact R3.out | refine blk_drewN ?_ _ | refine blk_drew ?_)) 0).trans rfl, (blk_cell (by with_reducible repeat (first | exact R3.out | refine blk_drewN ?_ _ | refine blk_drew ?_)) 1).trans rfl⟩ | exact ⟨(blk_cell (by with_reducible repeat (first | exact R2.out | refine blk_drewN ?_ _ | refine blk_drew ?_)) 0).trans rfl, (blk_cell (by with_reducible repeat (first | exact R2.out | refine blk_drewN ?_ _ | refine blk_drew ?_)) 1).trans rfl⟩ | exact ⟨(blk_cell (by with_reducible repeat (first | exact R1.out | refine blk_drewN ?_ _ | refine blk_drew ?_)) 0).trans rfl, (blk_cell (by with_reducible repeat (first | exact R1.out | refine blk_drewN ?_ _ | refine blk_drew ?_)) 1).trans rfl⟩ | exact ⟨(blk_cell (by with_reducible repeat (first | exact RX.out | refine blk_drewN ?_ _ | refine blk_drew ?_)) 0).trans rfl, (blk_cell (by with_reducible repeat (first | exact RX.out | refine blk_drewN ?_ _ | refine blk_drew ?_)) 1).trans rfl⟩) (first
    | (go_at_call 25; (refine (len_v _ gb mo A c l.length (blk_drew BX.out)).mono ?_); rintro en w1 ⟨rfl, hb_⟩; have R1 := Aside0.mk (blk_below (blk_drew RX.out) hb_); have B1 := Aside0.mk (blk_below (blk_drew BX.out) hb_); have HB1 := Aside0.mk (below_step (below_drew (Below.refl _ _)) hb_); clear hb_)
    | (go_at_call 43; (refine (room_v _ gb mo A c l.length B1.out).mono ?_); rintro en w2 ⟨rfl, hb_⟩; have R2 := Aside0.mk (blk_below R1.out hb_); have B2 := Aside0.mk (blk_below B1.out hb_); have HB2 := Aside0.mk (below_step HB1.out hb_); clear hb_)
    | (go_at_call 17; (refine (due_v _ gb mo A c l B2.out (Kd.C_below HC.out HB2.out) HCC.out LZ.out 1099511627776 l.length DU.out).mono ?_); rintro en w3 ⟨v3, rfl, hc_, hb_⟩; have R3 := Aside0.mk (blk_below R2.out hb_); have B3 := Aside0.mk (blk_below B2.out hb_); have HB3 := Aside0.mk (below_step HB2.out hb_); rw [List.take_length] at hc_; obtain ⟨A3, hv_, hC_⟩ := cl_open hc_; subst hv_; have HC3 := Aside0.mk hC_; clear hc_ hC_; clear hb_)
    | (go_at_call 10; (refine (shelfmarkref13_SameIntents.calls k A3 l.length l A2 c2 l true _ HC3.out (Nat.le_refl _) (Kd.C_below HC2.out HB3.out) HCC2.out HS.out).mono ?_); rintro en w4 ⟨rfl, hd_⟩; have hb_ := drawn_below hd_; have R4 := Aside0.mk (blk_below R3.out hb_); have HB4 := Aside0.mk (below_step HB3.out hb_); clear hb_ hd_))
  all_goals (try go_wp2)
  all_goals go_ret
  all_goals exact ⟨rfl, HB4.out⟩
end Go.Proofs.Ytdaikljbljcagaa.Mr
namespace Go.Proofs.Ytdaikljbljcagaa.Ms
open Go Go.RowKit Go.Proofs.Ytdaikljbljcagaa.PAll Go.Proofs.YtdaikljbljcagaaW.PrintWords Go.Proofs.YtdaikljbljcagaaW.PrintLast Go.Proofs.Ytdaikljbljcagaa.Hl Go.Proofs.Ytdaikljbljcagaa.Fv Go.Proofs.Ytdaikljbljcagaa.Mc Go.Proofs.Ytdaikljbljcagaa.Me Go.Proofs.Ytdaikljbljcagaa.Mf Go.Proofs.Ytdaikljbljcagaa.Mg Go.Proofs.Ytdaikljbljcagaa.Mh Go.Proofs.Ytdaikljbljcagaa.Mi Go.Proofs.Ytdaikljbljcagaa.Mj Go.Proofs.Ytdaikljbljcagaa.Mk Go.Proofs.Ytdaikljbljcagaa.Ml Go.Proofs.Ytdaikljbljcagaa.Mm Go.Proofs.Ytdaikljbljcagaa.Mo Go.Proofs.Ytdaikljbljcagaa.Pn Go.Proofs.Ytdaikljbljcagaa.Pq Go.Proofs.Ytdaikljbljcagaa.Mp Go.Proofs.Ytdaikljbljcagaa.Mq Go.Proofs.Ytdaikljbljcagaa.Mr
set_option linter.unusedSimpArgs false
set_option linter.unusedVariables false
/-- A box of the code and one of the reference with the same intents, in blocks of their own. -/
def Pair (w : World) (base : Nat) (S : Nat → Prop) (gb gr : Nat) (mo : Int) (l : List S29) : Prop := ∃ S1 S2, Box 68 w base S1 gb mo l ∧ Box 70 w base S2 gr mo l ∧ (∀ k, S1 k → ¬ S2 k) ∧ (∀ k, S k ↔ S1 k ∨ S2 k)
theorem Pair.frame {w w' : World} {base : Nat} {S T : Nat → Prop} {gb gr : Nat} {mo : Int} {l : List S29} (h : Pair w base S gb gr mo l) (hk : Kept w w' T) (hd : ∀ k, S k → ¬ T k) : Pair w' base S gb gr mo l := by
  obtain ⟨S1, S2, h1, h2, h3, h4⟩ := h
  exact ⟨S1, S2, h1.frame hk (fun k hk1 => hd k ((h4 k).2 (.inl hk1))), h2.frame hk (fun k hk1 => hd k ((h4 k).2 (.inr hk1))), h3, h4⟩
theorem Pair.below {w w' : World} {base : Nat} {S : Nat → Prop} {gb gr : Nat} {mo : Int} {l : List S29} (h : Pair w base S gb gr mo l) (hb : Below w.heap.size w w') : Pair w' base S gb gr mo l :=
  h.frame (Kept.of_below hb (fun _ => False)) (fun _ _ h => h)
theorem Pair.bound {w : World} {base : Nat} {S : Nat → Prop} {gb gr : Nat} {mo : Int} {l : List S29} (h : Pair w base S gb gr mo l) : ∀ k, S k → base ≤ k ∧ k < w.heap.size := by
  obtain ⟨S1, S2, h1, h2, h3, h4⟩ := h
  intro k hk
  rcases (h4 k).1 hk with h | h
  · exact h1.2.1 k h
  · exact h2.2.1 k h
theorem upd_start {w wA w4 : World} {base : Nat} {S1 T1 : Nat → Prop} (ha : Below w.heap.size w wA) (hu : Upd wA.drew w4 base S1 T1) (hb : base ≤ w.heap.size) : Upd w w4 base S1 T1 :=
  ⟨(below_low (below_drew ha) hb).trans hu.below, (Kept.of_below (below_drew ha) S1).then_ hu.kept (fun _ h => .inl h), fun k hk => (hu.new k hk).imp id (fun h => Nat.le_trans ha.size h)⟩
theorem pair_end {w w4 w5 : World} {base : Nat} {S S1 S2 T1 T2 : Nat → Prop} {gb gr : Nat} {mo : Int} {l L : List S29} (d12 : ∀ k, S1 k → ¬ S2 k) (d21 : ∀ k, S k ↔ S1 k ∨ S2 k) (u1 : Upd w w4 base S1 T1) (u2 : Upd w4 w5 base S2 T2) (x1 : Box 68 w base S1 gb mo l) (x2 : Box 70 w base S2 gr mo l) (z1 : Box 68 w5 base T1 gb mo L) (z2 : Box 70 w5 base T2 gr mo L) (t1 : ∀ k, T1 k → k < w4.heap.size) (dA : ∀ k, T1 k → ¬ S2 k) : ∃ S', Pair w5 base S' gb gr mo L ∧ Upd w w5 base S S' := by
  refine ⟨fun k => T1 k ∨ T2 k, ⟨T1, T2, z1, z2, fun k h1 h2 => ?_, fun k => Iff.rfl⟩, u1.below.trans u2.below, ⟨Nat.le_trans u1.kept.1 u2.kept.1, fun i hi hn => ?_⟩, fun k hk => ?_⟩
  · rcases u2.new k h2 with h | h
    · exact dA k h1 h
    · have := t1 k h1
      omega
  · have h1 : ¬ S1 i := fun h => hn ((d21 i).2 (.inl h))
    have h2 : ¬ S2 i := fun h => hn ((d21 i).2 (.inr h))
    exact (u2.kept.2 i (Nat.lt_of_lt_of_le hi u1.kept.1) h2).trans (u1.kept.2 i hi h1)
  · rcases hk with h | h
    · exact (u1.new k h).imp (fun h => (d21 k).2 (.inl h)) id
    · rcases u2.new k h with h | h
      · exact .inl ((d21 k).2 (.inr h))
      · exact .inr (Nat.le_trans u1.kept.1 h)
set_option maxHeartbeats 16000000 in
set_option maxRecDepth 100000 in
theorem do1_v (w0 w : World) (hw : Below w0.heap.size w0 w) (gb gr : Nat) (S : Nat → Prop) (mo : Int) (l : List S29) (hX : Pair w w0.heap.size S gb gr mo l) (A1 : Option Addr) (c1 : Nat) (m : List S29) (hm : Kd.C k29 w0 A1 m.length m) (hcm : m.length ≤ c1) (n : Int) (lo hi : ByteArray) (wl : WfI l) (wm : WfI m) (hz : l.length + m.length < 1000000000) (k : Nat) (L : List S29) (bad : Bool) (hb : slices_ContainsFunc_api_Intent_api_Intent_at_outbox_Box_Add_1.f k m = some bad) (pe : S29 → Int) (hp : ∀ x ∈ m, ∃ r1 r2 r3, shelfmarkref04_Parse.f k x.f0 = some (r1, r2, r3, pe x)) (hn : ∀ j (h : j < m.length), shelfmarkref18_Named.f k (onceG l (m.take j)) m[j].f0 m[j].f1 m[j].f2 = some (namedIn (onceG l (m.take j)) m[j])) (hd : bad = m.any (badI pe)) (ev : Int) (he : addE mo l m bad = ev) (he2 : raddE mo l m bad = ev) (hL : addL mo l m bad = L) (hL2 : raddL mo l m bad = L) :
    Calls Try.prog 20 #[.pointer (some ⟨gb, 0, none⟩), .pointer (some ⟨gr, 0, none⟩), .agg #[.int .i64 1, .slice A1 m.length c1, .int .i64 n, .string lo, .string hi]] w fun en w' => en = .returned (.bool true) ∧ ∃ S', Pair w' w0.heap.size S' gb gr mo L ∧ Upd w w' w0.heap.size S S' := by
  have hu29 := Try.underlying29
  have hu45 := Try.underlying45
  have hu43 := Try.underlying43
  have mixed : Try.prog.follows Departure.mixedOrders = true := by kernel_rfl
  obtain ⟨S1, S2, hX1, hX2, hd12, hd21⟩ := hX
  have X1 := Aside0.mk hX1
  have X2 := Aside0.mk hX2
  have D12 := Aside0.mk hd12
  have D21 := Aside0.mk hd21
  have HW0 := Aside0.mk hw
  have HM := Aside0.mk hm
  have HCM := Aside0.mk hcm
  have WL := Aside0.mk wl
  have WM := Aside0.mk wm
  have LZ := Aside0.mk hz
  have LL := Aside0.mk (show l.length < 1000000000 by omega)
  clear hX1 hX2 hd12 hd21 hw hm hcm wl wm hz
  have FB := Aside0.mk hb
  have FP := Aside0.mk hp
  have FN := Aside0.mk hn
  have FD := Aside0.mk hd
  have EV := Aside0.mk he
  have EV2 := Aside0.mk he2
  have EL := Aside0.mk hL
  have EL2 := Aside0.mk hL2
  clear hb hp hn hd he he2 hL hL2
  go_enter Try.func20, Try.ntmps20
  go_upto_region 3 with (first
    | ((with_reducible refine gate_dst (N := 5) rfl ?_); refine box_event ?hg (N := 5) ?hd (cs := #[.int .i64 1, .slice A1 m.length c1, .int .i64 n, .string lo, .string hi]) (t := 45) ?hr ?_; (case hd => rfl); (case hg => rfl); (case hr => first | (go_simp; done) | (go_simp; rfl)); intro g5 hg_ wA hbox_ hb_; have G5 := Aside0.mk (show w.heap.size ≤ g5 by omega); have B5a := Aside0.mk hbox_; have HBa := Aside0.mk hb_; have y0 : wA.cell? ⟨g5, 0, none⟩ = some (.int .i64 1) := (blk_cell B5a.out 0).trans rfl; clear hb_ hbox_ hg_))
  have N51 := Aside0.mk (show ¬ S1 g5 from fun h_ => by have h1_ := (X1.out.2.1 g5 h_).2; have h2_ := G5.out; omega); have N52 := Aside0.mk (show ¬ S2 g5 from fun h_ => by have h1_ := (X2.out.2.1 g5 h_).2; have h2_ := G5.out; omega)
  go_region_held3 (fun W : World => W.cell? ⟨g5, 1, none⟩ = some (.slice A1 m.length c1)) (first | exact (blk_cell (by with_reducible repeat (first | exact B57.out | refine blk_drewN ?_ _ | refine blk_drew ?_)) 1).trans rfl | exact (blk_cell (by with_reducible repeat (first | exact B56.out | refine blk_drewN ?_ _ | refine blk_drew ?_)) 1).trans rfl | exact (blk_cell (by with_reducible repeat (first | exact B55.out | refine blk_drewN ?_ _ | refine blk_drew ?_)) 1).trans rfl | exact (blk_cell (by with_reducible repeat (first | exact B5a.out | refine blk_drewN ?_ _ | refine blk_drew ?_)) 1).trans rfl) (first
    | (go_at_call 15; (refine (Add_v _ w0.heap.size gb S1 mo l ((X1.out.below HBa.out).below (below_drew (Below.refl _ _))) (Nat.le_trans HW0.out.size HBa.out.size) A1 c1 m (Kd.C_below HM.out ((HW0.out).trans (below_low (below_drew HBa.out) HW0.out.size))) HCM.out WL.out WM.out LZ.out k bad FB.out).mono ?_); rintro en w4 ⟨he_, T1, hx_, hu_⟩; rw [EV.out] at he_; subst he_; rw [EL.out] at hx_; have Y1 := Aside0.mk hx_; have U1 := Aside0.mk (upd_start HBa.out hu_ HW0.out.size); have Y2 := Aside0.mk (((X2.out.below HBa.out).below (below_drew (Below.refl _ _))).frame hu_.kept (fun k_ h1_ h2_ => D12.out k_ h2_ h1_)); have B55 := Aside0.mk ((hu_.kept.2 g5 (blk_lt (blk_drew B5a.out)) N51.out).trans (blk_drew B5a.out)); have W1_ := Aside0.mk ((((HW0.out).trans (below_low (below_drew HBa.out) HW0.out.size))).trans hu_.below); have DA := Aside0.mk (show ∀ k_, T1 k_ → ¬ S2 k_ from fun k_ h_ h2_ => (U1.out.new k_ h_).elim (fun h_ => D12.out k_ h_ h2_) (fun h_ => by have := (X2.out.2.1 k_ h2_).2; omega)); clear hx_ hu_)
    | (go_at_call 16; (refine (rAdd_v _ w0.heap.size gr S2 mo l Y2.out (below_size W1_.out) A1 c1 m (Kd.C_below HM.out W1_.out) k pe FP.out FN.out LZ.out bad FD.out).mono ?_); rintro en w5 ⟨he_, T2, hx_, hu_⟩; rw [EV2.out] at he_; subst he_; rw [EL2.out] at hx_; have Z2 := Aside0.mk hx_; have U2 := Aside0.mk hu_; have Z1 := Aside0.mk (Y1.out.frame hu_.kept (fun k_ h1_ h2_ => DA.out k_ h1_ h2_)); have B56 := Aside0.mk ((hu_.kept.2 g5 (blk_lt B55.out) N52.out).trans B55.out); clear hx_ hu_))
  all_goals (try go_wp2)
  all_goals go_ret
  all_goals exact ⟨rfl, pair_end D12.out D21.out U1.out U2.out X1.out X2.out Z1.out Z2.out (fun k_ hk_ => (Y1.out.2.1 k_ hk_).2) DA.out⟩
set_option maxHeartbeats 16000000 in
set_option maxRecDepth 100000 in
theorem do2_v (w0 w : World) (hw : Below w0.heap.size w0 w) (gb gr : Nat) (S : Nat → Prop) (mo : Int) (l : List S29) (hX : Pair w w0.heap.size S gb gr mo l) (A1 : Option Addr) (c1 : Nat) (m : List S29) (hm : Kd.C k29 w0 A1 m.length m) (hcm : m.length ≤ c1) (n : Int) (lo hi : ByteArray) (wl : WfI l) (wm : WfI m) (hz : l.length + m.length < 1000000000) (k : Nat) (L : List S29) (hn : ∀ x ∈ l, shelfmarkref18_Named.f k m x.f0 x.f1 x.f2 = some (namedIn m x)) (ev : Int) (he : ((l.filter (named m)).length : Int) = ev) (he2 : wrap64 ((l.length : Int) - (L.length : Int)) = ev) (hL : L = l.filter (fun x => !named m x)) (hL2 : L = l.filter (fun x => !namedIn m x)) :
    Calls Try.prog 20 #[.pointer (some ⟨gb, 0, none⟩), .pointer (some ⟨gr, 0, none⟩), .agg #[.int .i64 2, .slice A1 m.length c1, .int .i64 n, .string lo, .string hi]] w fun en w' => en = .returned (.bool true) ∧ ∃ S', Pair w' w0.heap.size S' gb gr mo L ∧ Upd w w' w0.heap.size S S' := by
  have hu29 := Try.underlying29
  have hu45 := Try.underlying45
  have hu43 := Try.underlying43
  have mixed : Try.prog.follows Departure.mixedOrders = true := by kernel_rfl
  obtain ⟨S1, S2, hX1, hX2, hd12, hd21⟩ := hX
  have X1 := Aside0.mk hX1
  have X2 := Aside0.mk hX2
  have D12 := Aside0.mk hd12
  have D21 := Aside0.mk hd21
  have HW0 := Aside0.mk hw
  have HM := Aside0.mk hm
  have HCM := Aside0.mk hcm
  have WL := Aside0.mk wl
  have WM := Aside0.mk wm
  have LZ := Aside0.mk hz
  have LL := Aside0.mk (show l.length < 1000000000 by omega)
  clear hX1 hX2 hd12 hd21 hw hm hcm wl wm hz
  have FN := Aside0.mk hn
  have EV := Aside0.mk he
  have EV2 := Aside0.mk he2
  have EL := Aside0.mk hL
  have EL2 := Aside0.mk hL2
  clear hn he he2 hL hL2
  go_enter Try.func20, Try.ntmps20
  go_upto_region 5 with (first
    | ((with_reducible refine gate_dst (N := 5) rfl ?_); refine box_event ?hg (N := 5) ?hd (cs := #[.int .i64 2, .slice A1 m.length c1, .int .i64 n, .string lo, .string hi]) (t := 45) ?hr ?_; (case hd => rfl); (case hg => rfl); (case hr => first | (go_simp; done) | (go_simp; rfl)); intro g5 hg_ wA hbox_ hb_; have G5 := Aside0.mk (show w.heap.size ≤ g5 by omega); have B5a := Aside0.mk hbox_; have HBa := Aside0.mk hb_; have y0 : wA.cell? ⟨g5, 0, none⟩ = some (.int .i64 2) := (blk_cell B5a.out 0).trans rfl; clear hb_ hbox_ hg_))
  have N51 := Aside0.mk (show ¬ S1 g5 from fun h_ => by have h1_ := (X1.out.2.1 g5 h_).2; have h2_ := G5.out; omega); have N52 := Aside0.mk (show ¬ S2 g5 from fun h_ => by have h1_ := (X2.out.2.1 g5 h_).2; have h2_ := G5.out; omega)
  go_region_held3 (fun W : World => W.cell? ⟨g5, 1, none⟩ = some (.slice A1 m.length c1)) (first | exact (blk_cell (by with_reducible repeat (first | exact B57.out | refine blk_drewN ?_ _ | refine blk_drew ?_)) 1).trans rfl | exact (blk_cell (by with_reducible repeat (first | exact B56.out | refine blk_drewN ?_ _ | refine blk_drew ?_)) 1).trans rfl | exact (blk_cell (by with_reducible repeat (first | exact B55.out | refine blk_drewN ?_ _ | refine blk_drew ?_)) 1).trans rfl | exact (blk_cell (by with_reducible repeat (first | exact B5a.out | refine blk_drewN ?_ _ | refine blk_drew ?_)) 1).trans rfl) (first
    | (go_at_call 26; (refine (done_v _ w0.heap.size gb S1 mo l ((X1.out.below HBa.out).below (below_drew (Below.refl _ _))) (Nat.le_trans HW0.out.size HBa.out.size) A1 c1 m (Kd.C_below HM.out ((HW0.out).trans (below_low (below_drew HBa.out) HW0.out.size))) WL.out WM.out (Nat.lt_trans LL.out (by decide)) _ L rfl EL.out).mono ?_); rintro en w4 ⟨he_, T1, hx_, hu_⟩; rw [EV.out] at he_; subst he_; have Y1 := Aside0.mk hx_; have U1 := Aside0.mk (upd_start HBa.out hu_ HW0.out.size); have Y2 := Aside0.mk (((X2.out.below HBa.out).below (below_drew (Below.refl _ _))).frame hu_.kept (fun k_ h1_ h2_ => D12.out k_ h2_ h1_)); have B55 := Aside0.mk ((hu_.kept.2 g5 (blk_lt (blk_drew B5a.out)) N51.out).trans (blk_drew B5a.out)); have W1_ := Aside0.mk ((((HW0.out).trans (below_low (below_drew HBa.out) HW0.out.size))).trans hu_.below); have DA := Aside0.mk (show ∀ k_, T1 k_ → ¬ S2 k_ from fun k_ h_ h2_ => (U1.out.new k_ h_).elim (fun h_ => D12.out k_ h_ h2_) (fun h_ => by have := (X2.out.2.1 k_ h2_).2; omega)); clear hx_ hu_)
    | (go_at_call 44; (refine (rDone_v _ w0.heap.size gr S2 mo l Y2.out (below_size W1_.out) A1 c1 m (Kd.C_below HM.out W1_.out) HCM.out k FN.out LL.out L EL2.out).mono ?_); rintro en w5 ⟨he_, T2, hx_, hu_⟩; rw [EV2.out] at he_; subst he_; have Z2 := Aside0.mk hx_; have U2 := Aside0.mk hu_; have Z1 := Aside0.mk (Y1.out.frame hu_.kept (fun k_ h1_ h2_ => DA.out k_ h1_ h2_)); have B56 := Aside0.mk ((hu_.kept.2 g5 (blk_lt B55.out) N52.out).trans B55.out); clear hx_ hu_))
  all_goals (try go_wp2)
  all_goals go_ret
  all_goals exact ⟨rfl, pair_end D12.out D21.out U1.out U2.out X1.out X2.out Z1.out Z2.out (fun k_ hk_ => (Y1.out.2.1 k_ hk_).2) DA.out⟩
set_option maxHeartbeats 16000000 in
set_option maxRecDepth 100000 in
theorem do3_v (w0 w : World) (hw : Below w0.heap.size w0 w) (gb gr : Nat) (S : Nat → Prop) (mo : Int) (l : List S29) (hX : Pair w w0.heap.size S gb gr mo l) (A1 : Option Addr) (c1 : Nat) (m : List S29) (hm : Kd.C k29 w0 A1 m.length m) (hcm : m.length ≤ c1) (n : Int) (lo hi : ByteArray) (wl : WfI l) (wm : WfI m) (hz : l.length + m.length < 1000000000) (k : Nat) (L : List S29) (tl : List S29) (htl : tl = l.take (dueN n l.length)) (hs : shelfmarkref13_SameIntents.f k tl tl = some true) :
    Calls Try.prog 20 #[.pointer (some ⟨gb, 0, none⟩), .pointer (some ⟨gr, 0, none⟩), .agg #[.int .i64 3, .slice A1 m.length c1, .int .i64 n, .string lo, .string hi]] w fun en w' => en = .returned (.bool true) ∧ ∃ S', Pair w' w0.heap.size S' gb gr mo l ∧ Upd w w' w0.heap.size S S' := by
  have hu29 := Try.underlying29
  have hu45 := Try.underlying45
  have hu43 := Try.underlying43
  have mixed : Try.prog.follows Departure.mixedOrders = true := by kernel_rfl
  obtain ⟨S1, S2, hX1, hX2, hd12, hd21⟩ := hX
  have X1 := Aside0.mk hX1
  have X2 := Aside0.mk hX2
  have D12 := Aside0.mk hd12
  have D21 := Aside0.mk hd21
  have HW0 := Aside0.mk hw
  have HM := Aside0.mk hm
  have HCM := Aside0.mk hcm
  have WL := Aside0.mk wl
  have WM := Aside0.mk wm
  have LZ := Aside0.mk hz
  have LL := Aside0.mk (show l.length < 1000000000 by omega)
  clear hX1 hX2 hd12 hd21 hw hm hcm wl wm hz
  have FS := Aside0.mk hs
  have TL := Aside0.mk htl
  clear hs htl
  go_enter Try.func20, Try.ntmps20
  go_upto_region 7 with (first
    | ((with_reducible refine gate_dst (N := 5) rfl ?_); refine box_event ?hg (N := 5) ?hd (cs := #[.int .i64 3, .slice A1 m.length c1, .int .i64 n, .string lo, .string hi]) (t := 45) ?hr ?_; (case hd => rfl); (case hg => rfl); (case hr => first | (go_simp; done) | (go_simp; rfl)); intro g5 hg_ wA hbox_ hb_; have G5 := Aside0.mk (show w.heap.size ≤ g5 by omega); have B5a := Aside0.mk hbox_; have HBa := Aside0.mk hb_; have y0 : wA.cell? ⟨g5, 0, none⟩ = some (.int .i64 3) := (blk_cell B5a.out 0).trans rfl; clear hb_ hbox_ hg_))
  have N51 := Aside0.mk (show ¬ S1 g5 from fun h_ => by have h1_ := (X1.out.2.1 g5 h_).2; have h2_ := G5.out; omega); have N52 := Aside0.mk (show ¬ S2 g5 from fun h_ => by have h1_ := (X2.out.2.1 g5 h_).2; have h2_ := G5.out; omega)
  go_region_held3 (fun W : World => W.cell? ⟨g5, 2, none⟩ = some (.int .i64 n)) (first | exact (blk_cell (by with_reducible repeat (first | exact B57.out | refine blk_drewN ?_ _ | refine blk_drew ?_)) 2).trans rfl | exact (blk_cell (by with_reducible repeat (first | exact B56.out | refine blk_drewN ?_ _ | refine blk_drew ?_)) 2).trans rfl | exact (blk_cell (by with_reducible repeat (first | exact B55.out | refine blk_drewN ?_ _ | refine blk_drew ?_)) 2).trans rfl | exact (blk_cell (by with_reducible repeat (first | exact B5a.out | refine blk_drewN ?_ _ | refine blk_drew ?_)) 2).trans rfl) (first
    | (go_at_call 17; obtain ⟨Ab_, cb_, hcb_, hbb_, hrb_⟩ := (((X1.out.below HBa.out).below (below_drew (Below.refl _ _)))).open_; (refine (due_v _ gb mo Ab_ cb_ l hbb_ hrb_ hcb_ (Nat.lt_trans LL.out (by decide)) n (dueN n l.length) rfl).mono ?_); rintro en w4 ⟨v3, rfl, hc_, hb_⟩; rw [← TL.out] at hc_; obtain ⟨A3, hv_, hC_⟩ := cl_open hc_; subst hv_; have HC3 := Aside0.mk hC_; have Y2 := Aside0.mk ((((X2.out.below HBa.out).below (below_drew (Below.refl _ _)))).below hb_); have B55 := Aside0.mk (blk_below (blk_drew B5a.out) hb_); have V4 := Aside0.mk (below_step (below_drew HBa.out) hb_); clear hb_ hc_ hC_ hcb_ hbb_ hrb_)
    | (go_at_call 45; (refine (rDue_v _ w0.heap.size gr S2 mo l Y2.out (Nat.le_trans HW0.out.size V4.out.size) n (dueN n l.length) rfl LL.out).mono ?_); rintro en w5 ⟨A4, c4, he_, hc_, hC_, hb_⟩; rw [← TL.out] at he_ hc_ hC_; subst he_; have HC4 := Aside0.mk hC_; have HCC4 := Aside0.mk hc_; have HC5 := Aside0.mk (Kd.C_below HC3.out hb_); have B56 := Aside0.mk (blk_below B55.out hb_); have V5 := Aside0.mk (below_step V4.out hb_); clear hb_ hc_ hC_)
    | (go_at_call 10; (refine (shelfmarkref13_SameIntents.calls k A3 _ tl A4 c4 tl true _ HC5.out (Nat.le_refl _) HC4.out HCC4.out FS.out).mono ?_); rintro en w6 ⟨rfl, hd_⟩; have hb_ := drawn_below hd_; have B57 := Aside0.mk (blk_below B56.out hb_); have V6 := Aside0.mk (below_step V5.out hb_); clear hb_ hd_))
  all_goals (try go_wp2)
  all_goals go_ret
  all_goals exact ⟨rfl, S, ⟨S1, S2, X1.out.below V6.out, X2.out.below V6.out, D12.out, D21.out⟩, Upd.of_below V6.out HW0.out.size⟩
set_option maxHeartbeats 16000000 in
set_option maxRecDepth 100000 in
theorem do4_v (w0 w : World) (hw : Below w0.heap.size w0 w) (gb gr : Nat) (S : Nat → Prop) (mo : Int) (l : List S29) (hX : Pair w w0.heap.size S gb gr mo l) (A1 : Option Addr) (c1 : Nat) (m : List S29) (hm : Kd.C k29 w0 A1 m.length m) (hcm : m.length ≤ c1) (n : Int) (lo hi : ByteArray) (wl : WfI l) (wm : WfI m) (hz : l.length + m.length < 1000000000) (k : Nat) (L : List S29) (hs : shelfmarkref13_SameIntents.f k (l.filter (inR lo hi)) (l.filter (inR lo hi)) = some true) :
    Calls Try.prog 20 #[.pointer (some ⟨gb, 0, none⟩), .pointer (some ⟨gr, 0, none⟩), .agg #[.int .i64 4, .slice A1 m.length c1, .int .i64 n, .string lo, .string hi]] w fun en w' => en = .returned (.bool true) ∧ ∃ S', Pair w' w0.heap.size S' gb gr mo l ∧ Upd w w' w0.heap.size S S' := by
  have hu29 := Try.underlying29
  have hu45 := Try.underlying45
  have hu43 := Try.underlying43
  have mixed : Try.prog.follows Departure.mixedOrders = true := by kernel_rfl
  obtain ⟨S1, S2, hX1, hX2, hd12, hd21⟩ := hX
  have X1 := Aside0.mk hX1
  have X2 := Aside0.mk hX2
  have D12 := Aside0.mk hd12
  have D21 := Aside0.mk hd21
  have HW0 := Aside0.mk hw
  have HM := Aside0.mk hm
  have HCM := Aside0.mk hcm
  have WL := Aside0.mk wl
  have WM := Aside0.mk wm
  have LZ := Aside0.mk hz
  have LL := Aside0.mk (show l.length < 1000000000 by omega)
  clear hX1 hX2 hd12 hd21 hw hm hcm wl wm hz
  have FS := Aside0.mk hs
  clear hs
  go_enter Try.func20, Try.ntmps20
  go_upto_region 9 with (first
    | ((with_reducible refine gate_dst (N := 5) rfl ?_); refine box_event ?hg (N := 5) ?hd (cs := #[.int .i64 4, .slice A1 m.length c1, .int .i64 n, .string lo, .string hi]) (t := 45) ?hr ?_; (case hd => rfl); (case hg => rfl); (case hr => first | (go_simp; done) | (go_simp; rfl)); intro g5 hg_ wA hbox_ hb_; have G5 := Aside0.mk (show w.heap.size ≤ g5 by omega); have B5a := Aside0.mk hbox_; have HBa := Aside0.mk hb_; have y0 : wA.cell? ⟨g5, 0, none⟩ = some (.int .i64 4) := (blk_cell B5a.out 0).trans rfl; clear hb_ hbox_ hg_))
  have N51 := Aside0.mk (show ¬ S1 g5 from fun h_ => by have h1_ := (X1.out.2.1 g5 h_).2; have h2_ := G5.out; omega); have N52 := Aside0.mk (show ¬ S2 g5 from fun h_ => by have h1_ := (X2.out.2.1 g5 h_).2; have h2_ := G5.out; omega)
  go_region_held3 (fun W : World => W.cell? ⟨g5, 3, none⟩ = some (.string lo) ∧ W.cell? ⟨g5, 4, none⟩ = some (.string hi)) (first | exact ⟨(blk_cell (by with_reducible repeat (first | exact B57.out | refine blk_drewN ?_ _ | refine blk_drew ?_)) 3).trans rfl, (blk_cell (by with_reducible repeat (first | exact B57.out | refine blk_drewN ?_ _ | refine blk_drew ?_)) 4).trans rfl⟩ | exact ⟨(blk_cell (by with_reducible repeat (first | exact B56.out | refine blk_drewN ?_ _ | refine blk_drew ?_)) 3).trans rfl, (blk_cell (by with_reducible repeat (first | exact B56.out | refine blk_drewN ?_ _ | refine blk_drew ?_)) 4).trans rfl⟩ | exact ⟨(blk_cell (by with_reducible repeat (first | exact B55.out | refine blk_drewN ?_ _ | refine blk_drew ?_)) 3).trans rfl, (blk_cell (by with_reducible repeat (first | exact B55.out | refine blk_drewN ?_ _ | refine blk_drew ?_)) 4).trans rfl⟩ | exact ⟨(blk_cell (by with_reducible repeat (first | exact B5a.out | refine blk_drewN ?_ _ | refine blk_drew ?_)) 3).trans rfl, (blk_cell (by with_reducible repeat (first | exact B5a.out | refine blk_drewN ?_ _ | refine blk_drew ?_)) 4).trans rfl⟩) (first
    | (go_at_call 46; (refine (Of_v _ w0.heap.size gb S1 mo l ((X1.out.below HBa.out).below (below_drew (Below.refl _ _))) (Nat.le_trans HW0.out.size HBa.out.size) lo hi LL.out).mono ?_); rintro en w4 ⟨v3, rfl, hR_, hb_⟩; obtain ⟨A3, c3, hv_⟩ := Kd.R_slice hR_; subst hv_; have HR3 := Aside0.mk hR_; have Y2 := Aside0.mk ((((X2.out.below HBa.out).below (below_drew (Below.refl _ _)))).below hb_); have B55 := Aside0.mk (blk_below (blk_drew B5a.out) hb_); have V4 := Aside0.mk (below_step (below_drew HBa.out) hb_); clear hb_ hR_)
    | (go_at_call 47; (refine (rOf_v _ w0.heap.size gr S2 mo l Y2.out (Nat.le_trans HW0.out.size V4.out.size) lo hi LL.out).mono ?_); rintro en w5 ⟨v4, rfl, hR_, hb_⟩; obtain ⟨A4, c4, hv_⟩ := Kd.R_slice hR_; subst hv_; have HR4 := Aside0.mk hR_; have HR5 := Aside0.mk (Kd.R_below HR3.out hb_); have B56 := Aside0.mk (blk_below B55.out hb_); have V5 := Aside0.mk (below_step V4.out hb_); clear hb_ hR_)
    | (go_at_call 10; (refine (shelfmarkref13_SameIntents.calls k A3 c3 (l.filter (inR lo hi)) A4 c4 (l.filter (inR lo hi)) true _ (Kd.R_reads' HR5.out).2.2 (Kd.R_reads' HR5.out).2.1 (Kd.R_reads' HR4.out).2.2 (Kd.R_reads' HR4.out).2.1 FS.out).mono ?_); rintro en w6 ⟨rfl, hd_⟩; have hb_ := drawn_below hd_; have B57 := Aside0.mk (blk_below B56.out hb_); have V6 := Aside0.mk (below_step V5.out hb_); clear hb_ hd_))
  all_goals (try go_wp2)
  all_goals go_ret
  all_goals exact ⟨rfl, S, ⟨S1, S2, X1.out.below V6.out, X2.out.below V6.out, D12.out, D21.out⟩, Upd.of_below V6.out HW0.out.size⟩
set_option maxHeartbeats 16000000 in
set_option maxRecDepth 100000 in
theorem do5_v (w0 w : World) (hw : Below w0.heap.size w0 w) (gb gr : Nat) (S : Nat → Prop) (mo : Int) (l : List S29) (hX : Pair w w0.heap.size S gb gr mo l) (A1 : Option Addr) (c1 : Nat) (m : List S29) (hm : Kd.C k29 w0 A1 m.length m) (hcm : m.length ≤ c1) (n : Int) (lo hi : ByteArray) (wl : WfI l) (wm : WfI m) (hz : l.length + m.length < 1000000000) (k : Nat) (L : List S29) (hn : ∀ x ∈ l, shelfmarkref18_Named.f k (l.filter (inR lo hi)) x.f0 x.f1 x.f2 = some (namedIn (l.filter (inR lo hi)) x)) (ev : Int) (he : ((l.filter (inR lo hi)).length : Int) = ev) (he2 : wrap64 ((l.length : Int) - (L.length : Int)) = ev) (hL : L = l.filter (fun x => !inR lo hi x)) (hL2 : L = l.filter (fun x => !namedIn (l.filter (inR lo hi)) x)) :
    Calls Try.prog 20 #[.pointer (some ⟨gb, 0, none⟩), .pointer (some ⟨gr, 0, none⟩), .agg #[.int .i64 5, .slice A1 m.length c1, .int .i64 n, .string lo, .string hi]] w fun en w' => en = .returned (.bool true) ∧ ∃ S', Pair w' w0.heap.size S' gb gr mo L ∧ Upd w w' w0.heap.size S S' := by
  have hu29 := Try.underlying29
  have hu45 := Try.underlying45
  have hu43 := Try.underlying43
  have mixed : Try.prog.follows Departure.mixedOrders = true := by kernel_rfl
  obtain ⟨S1, S2, hX1, hX2, hd12, hd21⟩ := hX
  have X1 := Aside0.mk hX1
  have X2 := Aside0.mk hX2
  have D12 := Aside0.mk hd12
  have D21 := Aside0.mk hd21
  have HW0 := Aside0.mk hw
  have HM := Aside0.mk hm
  have HCM := Aside0.mk hcm
  have WL := Aside0.mk wl
  have WM := Aside0.mk wm
  have LZ := Aside0.mk hz
  have LL := Aside0.mk (show l.length < 1000000000 by omega)
  clear hX1 hX2 hd12 hd21 hw hm hcm wl wm hz
  have FN := Aside0.mk hn
  have EV := Aside0.mk he
  have EV2 := Aside0.mk he2
  have EL := Aside0.mk hL
  have EL2 := Aside0.mk hL2
  clear hn he he2 hL hL2
  go_enter Try.func20, Try.ntmps20
  go_upto_region 11 with (first
    | ((with_reducible refine gate_dst (N := 5) rfl ?_); refine box_event ?hg (N := 5) ?hd (cs := #[.int .i64 5, .slice A1 m.length c1, .int .i64 n, .string lo, .string hi]) (t := 45) ?hr ?_; (case hd => rfl); (case hg => rfl); (case hr => first | (go_simp; done) | (go_simp; rfl)); intro g5 hg_ wA hbox_ hb_; have G5 := Aside0.mk (show w.heap.size ≤ g5 by omega); have B5a := Aside0.mk hbox_; have HBa := Aside0.mk hb_; have y0 : wA.cell? ⟨g5, 0, none⟩ = some (.int .i64 5) := (blk_cell B5a.out 0).trans rfl; clear hb_ hbox_ hg_))
  have N51 := Aside0.mk (show ¬ S1 g5 from fun h_ => by have h1_ := (X1.out.2.1 g5 h_).2; have h2_ := G5.out; omega); have N52 := Aside0.mk (show ¬ S2 g5 from fun h_ => by have h1_ := (X2.out.2.1 g5 h_).2; have h2_ := G5.out; omega)
  go_region_held3 (fun W : World => W.cell? ⟨g5, 3, none⟩ = some (.string lo) ∧ W.cell? ⟨g5, 4, none⟩ = some (.string hi)) (first | exact ⟨(blk_cell (by with_reducible repeat (first | exact B57.out | refine blk_drewN ?_ _ | refine blk_drew ?_)) 3).trans rfl, (blk_cell (by with_reducible repeat (first | exact B57.out | refine blk_drewN ?_ _ | refine blk_drew ?_)) 4).trans rfl⟩ | exact ⟨(blk_cell (by with_reducible repeat (first | exact B56.out | refine blk_drewN ?_ _ | refine blk_drew ?_)) 3).trans rfl, (blk_cell (by with_reducible repeat (first | exact B56.out | refine blk_drewN ?_ _ | refine blk_drew ?_)) 4).trans rfl⟩ | exact ⟨(blk_cell (by with_reducible repeat (first | exact B55.out | refine blk_drewN ?_ _ | refine blk_drew ?_)) 3).trans rfl, (blk_cell (by with_reducible repeat (first | exact B55.out | refine blk_drewN ?_ _ | refine blk_drew ?_)) 4).trans rfl⟩ | exact ⟨(blk_cell (by with_reducible repeat (first | exact B5a.out | refine blk_drewN ?_ _ | refine blk_drew ?_)) 3).trans rfl, (blk_cell (by with_reducible repeat (first | exact B5a.out | refine blk_drewN ?_ _ | refine blk_drew ?_)) 4).trans rfl⟩) (first
    | (go_at_call 48; (refine (Drop_v _ w0.heap.size gb S1 mo l ((X1.out.below HBa.out).below (below_drew (Below.refl _ _))) (Nat.le_trans HW0.out.size HBa.out.size) lo hi LL.out _ L rfl EL.out).mono ?_); rintro en w4 ⟨he_, T1, hx_, hu_⟩; rw [EV.out] at he_; subst he_; have Y1 := Aside0.mk hx_; have U1 := Aside0.mk (upd_start HBa.out hu_ HW0.out.size); have Y2 := Aside0.mk (((X2.out.below HBa.out).below (below_drew (Below.refl _ _))).frame hu_.kept (fun k_ h1_ h2_ => D12.out k_ h2_ h1_)); have B55 := Aside0.mk ((hu_.kept.2 g5 (blk_lt (blk_drew B5a.out)) N51.out).trans (blk_drew B5a.out)); have W1_ := Aside0.mk ((((HW0.out).trans (below_low (below_drew HBa.out) HW0.out.size))).trans hu_.below); have DA := Aside0.mk (show ∀ k_, T1 k_ → ¬ S2 k_ from fun k_ h_ h2_ => (U1.out.new k_ h_).elim (fun h_ => D12.out k_ h_ h2_) (fun h_ => by have := (X2.out.2.1 k_ h2_).2; omega)); clear hx_ hu_)
    | (go_at_call 49; (refine (rDrop_v _ w0.heap.size gr S2 mo l Y2.out (below_size W1_.out) lo hi k FN.out LL.out L EL2.out).mono ?_); rintro en w5 ⟨he_, T2, hx_, hu_⟩; rw [EV2.out] at he_; subst he_; have Z2 := Aside0.mk hx_; have U2 := Aside0.mk hu_; have Z1 := Aside0.mk (Y1.out.frame hu_.kept (fun k_ h1_ h2_ => DA.out k_ h1_ h2_)); have B56 := Aside0.mk ((hu_.kept.2 g5 (blk_lt B55.out) N52.out).trans B55.out); clear hx_ hu_))
  all_goals (try go_wp2)
  all_goals go_ret
  all_goals exact ⟨rfl, pair_end D12.out D21.out U1.out U2.out X1.out X2.out Z1.out Z2.out (fun k_ hk_ => (Y1.out.2.1 k_ hk_).2) DA.out⟩
set_option maxHeartbeats 16000000 in
set_option maxRecDepth 100000 in
theorem do0_v (w0 w : World) (hw : Below w0.heap.size w0 w) (gb gr : Nat) (S : Nat → Prop) (mo : Int) (l : List S29) (hX : Pair w w0.heap.size S gb gr mo l) (A1 : Option Addr) (c1 : Nat) (m : List S29) (hm : Kd.C k29 w0 A1 m.length m) (hcm : m.length ≤ c1) (n : Int) (lo hi : ByteArray) (wl : WfI l) (wm : WfI m) (hz : l.length + m.length < 1000000000) (k : Nat) (L : List S29) (a : Int) (ha : a ≠ 1 ∧ a ≠ 2 ∧ a ≠ 3 ∧ a ≠ 4 ∧ a ≠ 5) :
    Calls Try.prog 20 #[.pointer (some ⟨gb, 0, none⟩), .pointer (some ⟨gr, 0, none⟩), .agg #[.int .i64 a, .slice A1 m.length c1, .int .i64 n, .string lo, .string hi]] w fun en w' => en = .returned (.bool true) ∧ ∃ S', Pair w' w0.heap.size S' gb gr mo l ∧ Upd w w' w0.heap.size S S' := by
  have hu29 := Try.underlying29
  have hu45 := Try.underlying45
  have hu43 := Try.underlying43
  have mixed : Try.prog.follows Departure.mixedOrders = true := by kernel_rfl
  obtain ⟨S1, S2, hX1, hX2, hd12, hd21⟩ := hX
  have X1 := Aside0.mk hX1
  have X2 := Aside0.mk hX2
  have D12 := Aside0.mk hd12
  have D21 := Aside0.mk hd21
  have HW0 := Aside0.mk hw
  have HM := Aside0.mk hm
  have HCM := Aside0.mk hcm
  have WL := Aside0.mk wl
  have WM := Aside0.mk wm
  have LZ := Aside0.mk hz
  have LL := Aside0.mk (show l.length < 1000000000 by omega)
  clear hX1 hX2 hd12 hd21 hw hm hcm wl wm hz
  obtain ⟨h1, h2, h3, h4, h5⟩ := ha
  have t1 : (a == 1) = false := beq_eq_false_iff_ne.2 h1
  have t2 : (a == 2) = false := beq_eq_false_iff_ne.2 h2
  have t3 : (a == 3) = false := beq_eq_false_iff_ne.2 h3
  have t4 : (a == 4) = false := beq_eq_false_iff_ne.2 h4
  have t5 : (a == 5) = false := beq_eq_false_iff_ne.2 h5
  go_enter Try.func20, Try.ntmps20
  go_wp2_with (first
    | ((with_reducible refine gate_dst (N := 5) rfl ?_); refine box_event ?hg (N := 5) ?hd (cs := #[.int .i64 a, .slice A1 m.length c1, .int .i64 n, .string lo, .string hi]) (t := 45) ?hr ?_; (case hd => rfl); (case hg => rfl); (case hr => first | (go_simp; done) | (go_simp; rfl)); intro g5 hg_ wA hbox_ hb_; have G5 := Aside0.mk (show w.heap.size ≤ g5 by omega); have B5a := Aside0.mk hbox_; have HBa := Aside0.mk hb_; have y0 : wA.cell? ⟨g5, 0, none⟩ = some (.int .i64 a) := (blk_cell B5a.out 0).trans rfl; clear hb_ hbox_ hg_))
  go_ret
  exact ⟨rfl, S, ⟨S1, S2, X1.out.below HBa.out, X2.out.below HBa.out, D12.out, D21.out⟩, Upd.of_below HBa.out HW0.out.size⟩
end Go.Proofs.Ytdaikljbljcagaa.Ms
