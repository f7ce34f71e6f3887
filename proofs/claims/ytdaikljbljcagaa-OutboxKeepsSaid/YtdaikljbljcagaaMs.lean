/- DERIVED. same: the code walked. Conditions: those that each lemma names. DERIVED. do, act by act: the code walked. Conditions: those that each lemma names. -/
import Derived.Test.YtdaikljbljcagaaMq
import Derived.Deep.DeepMust
import Derived.Test.YtdaikljbljcagaaPAllx16
namespace Go.Proofs.Ytdaikljbljcagaa.Mr
open Go Go.RowKit Go.Proofs.Ytdaikljbljcagaa.PAll Go.Proofs.YtdaikljbljcagaaW.PrintWords Go.Proofs.YtdaikljbljcagaaW.PrintLast Go.Proofs.Ytdaikljbljcagaa.Hl Go.Proofs.Ytdaikljbljcagaa.Fv Go.Proofs.Ytdaikljbljcagaa.Mc Go.Proofs.Ytdaikljbljcagaa.Me Go.Proofs.Ytdaikljbljcagaa.Mf Go.Proofs.Ytdaikljbljcagaa.Mg Go.Proofs.Ytdaikljbljcagaa.Mh Go.Proofs.Ytdaikljbljcagaa.Mi Go.Proofs.Ytdaikljbljcagaa.Mj Go.Proofs.Ytdaikljbljcagaa.Mk Go.Proofs.Ytdaikljbljcagaa.Mm Go.Proofs.Ytdaikljbljcagaa.Pn Go.Proofs.Ytdaikljbljcagaa.Pq Go.Proofs.Ytdaikljbljcagaa.Mp Go.Proofs.Ytdaikljbljcagaa.Mq
set_option linter.unusedSimpArgs false
set_option linter.unusedVariables false
set_option maxHeartbeats 16000000 in
set_option maxRecDepth 100000 in
theorem same_v (w : World) (gb gr : Nat) (mo : Int) (l : List S29) (A A2 : Option Addr) (c c2 : Nat) (hB : w.heap[gb]? = some (.cells #[.int .i64 mo, .slice A l.length c] 68 (0, 0))) (hC : Kd.C k29 w A l.length l) (hc : l.length ≤ c) (hR : w.heap[gr]? = some (.cells #[.int .i64 mo, .slice A2 l.length c2] 70 (0, 0))) (hC2 : Kd.C k29 w A2 l.length l) (hc2 : l.length ≤ c2) (hz : l.length < 1000000000) (k : Nat) (hs : shelfmarkref13_SameIntents.f k l l = some true) :
    Calls Try.prog 18 #[.pointer (some ⟨gb, 0, none⟩), .pointer (some ⟨gr, 0, none⟩)] w fun en w' => en = .returned (.bool true) ∧ Below w.heap.size w w' := by
  have hu29 := Try.underlying29
  have hu70 := Try.underlying70
  have hu68 := Try.underlying68
  have mixed : Try.prog.follows Departure.mixedOrders = true := by kernel_rfl
  have BX := Aside0.mk hB
  have RX := Aside0.mk hR
  have HC := Aside0.mk hC
  have HCC := Aside0.mk hc
  have HC2 := Aside0.mk hC2
  have HCC2 := Aside0.mk hc2
  have LZ := Aside0.mk (show l.length < 4398046511104 by omega)
  have DU := Aside0.mk (show l.length = dueN 1099511627776 l.length by
    unfold dueN mn mx
    repeat' split
    all_goals omega)
  have HS := Aside0.mk hs
  have iw : ∀ x : Int, IntKind.i64.wrap x = wrap64 x := fun x => i64_w x
  clear hB hR hC hc hC2 hc2 hz hs
  go_enter Try.func18, Try.ntmps18
  go_upto_region 1 with (fail)
  go_region_held3 (fun W : World => W.cell? ⟨gr, 0, none⟩ = some (.int .i64 mo) ∧ W.cell? ⟨gr, 1, none⟩ = some (.slice A2 l.length c2)) (first | exact ⟨(blk_cell (by with_reducible repeat (first | exact R4.out | refine blk_drewN ?_ _ | refine blk_drew ?_)) 0).trans rfl, (blk_cell (by with_reducible repeat (first | exact R4.out | refine blk_drewN ?_ _ | refine blk_drew ?_)) 1).trans rfl⟩ | exact ⟨(blk_cell (by with_reducible repeat (first | exact R3.out | refine blk_drewN ?_ _ | refine blk_drew ?_)) 0).trans rfl, (blk_cell (by with_reducible repeat (first | exact R3.out | refine blk_drewN ?_ _ | refine blk_drew ?_)) 1).trans rfl⟩ | exact ⟨(blk_cell (by with_reducible repeat (first | exact R2.out | refine blk_drewN ?_ _ | refine blk_drew ?_)) 0).trans rfl, (blk_cell (by with_reducible repeat (first | exact R2.out | refine blk_drewN ?_ _ | refine blk_drew ?_)) 1).trans rfl⟩ | exact ⟨(blk_cell (by with_reducible repeat (first | exact R1.out | refine blk_drewN ?_ _ | refine blk_drew ?_)) 0).trans rfl, (blk_cell (by with_reducible repeat (first | exact R1.out | refine blk_drewN ?_ _ | refine blk_drew ?_)) 1).trans rfl⟩ | exact ⟨(blk_cell (by with_reducible repeat (first | exact RX.out | refine blk_drewN ?_ _ | refine blk_drew ?_)) 0).trans rfl, (blk_cell (by with_reducible repeat (first | exact RX.out | refine blk_drewN ?_ _ | refine blk_drew ?_)) 1).trans rfl⟩) (first
    | (go_at_call 25; (refine (len_v _ gb mo A c l.length (blk_drew BX.out)).mono ?_); rintro en w1 ⟨rfl, hb_⟩; have R1 := Aside0.mk (blk_below (blk_drew RX.out) hb_); have B1 := Aside0.mk (blk_below (blk_drew BX.out) hb_); have HB1 := Aside0.mk (below_step (below_drew (Below.refl _ _)) hb_); clear hb_)
    | (go_at_call 43; (refine (room_v _ gb mo A c l.length B1.out).mono ?_); rintro en w2 ⟨rfl, hb_⟩; have R2 := Aside0.mk (blk_below R1.out hb_); have B2 := Aside0.mk (blk_below B1.out hb_); have HB2 := Aside0.mk (below_step HB1.out hb_); clear hb_)
    | (go_at_call 17; (refine (due_v _ gb mo A c l B2.out (Kd.C_below HC.out HB2.out) HCC.out LZ.out 1099511627776 l.length DU.out).mono ?_); rintro en w3 ⟨v3, rfl, hc_, hb_⟩; have R3 := Aside0.mk (blk_below R2.out hb_); have B3 := Aside0.mk (blk_below B2.out hb_); have HB3 := Aside0.mk (below_step HB2.out hb_); rw [List.take_length] at hc_; obtain ⟨A3, hv_, hC_⟩ := cl_open hc_; subst hv_; have HC3 := Aside0.mk hC_; clear hc_ hC_; clear hb_)
    | (go_at_call 10; (refine (shelfmarkref13_SameIntents.calls k A3 l.length l A2 c2 l true _ HC3.out (Nat.le_refl _) (Kd.C_below HC2.out HB3.out) HCC2.out HS.out).mono ?_); rintro en w4 ⟨rfl, hd_⟩; have hb_ := drawn_below hd_; have R4 := Aside0.mk (blk_below R3.out hb_); have HB4 := Aside0.mk (below_step HB3.out hb_); clear hb_ hd_))
  all_goals (try go_wp2)
  all_goals go_ret
  all_goals exact ⟨rfl, HB4.out⟩
end Go.Proofs.Ytdaikljbljcagaa.Mr
namespace Go.Proofs.Ytdaikljbljcagaa.Ms
open Go Go.RowKit Go.Proofs.Ytdaikljbljcagaa.PAll Go.Proofs.YtdaikljbljcagaaW.PrintWords Go.Proofs.YtdaikljbljcagaaW.PrintLast Go.Proofs.Ytdaikljbljcagaa.Hl Go.Proofs.Ytdaikljbljcagaa.Fv Go.Proofs.Ytdaikljbljcagaa.Mc Go.Proofs.Ytdaikljbljcagaa.Me Go.Proofs.Ytdaikljbljcagaa.Mf Go.Proofs.Ytdaikljbljcagaa.Mg Go.Proofs.Ytdaikljbljcagaa.Mh Go.Proofs.Ytdaikljbljcagaa.Mi Go.Proofs.Ytdaikljbljcagaa.Mj Go.Proofs.Ytdaikljbljcagaa.Mk Go.Proofs.Ytdaikljbljcagaa.Ml Go.Proofs.Ytdaikljbljcagaa.Mm Go.Proofs.Ytdaikljbljcagaa.Mo Go.Proofs.Ytdaikljbljcagaa.Pn Go.Proofs.Ytdaikljbljcagaa.Pq Go.Proofs.Ytdaikljbljcagaa.Mp Go.Proofs.Ytdaikljbljcagaa.Mq Go.Proofs.Ytdaikljbljcagaa.Mr
set_option linter.unusedSimpArgs false
set_option linter.unusedVariables false
/-- A box of the code and one of the reference with the same intents, in blocks of their own. -/
def Pair (w : World) (base : Nat) (S : Nat → Prop) (gb gr : Nat) (mo : Int) (l : List S29) : Prop := ∃ S1 S2, Box 68 w base S1 gb mo l ∧ Box 70 w base S2 gr mo l ∧ (∀ k, S1 k → ¬ S2 k) ∧ (∀ k, S k ↔ S1 k ∨ S2 k)
theorem Pair.frame {w w' : World} {base : Nat} {S T : Nat → Prop} {gb gr : Nat} {mo : Int} {l : List S29} (h : Pair w base S gb gr mo l) (hk : Kept w w' T) (hd : ∀ k, S k → ¬ T k) : Pair w' base S gb gr mo l := by
  obtain ⟨S1, S2, h1, h2, h3, h4⟩ := h
  exact ⟨S1, S2, h1.frame hk (fun k hk1 => hd k ((h4 k).2 (.inl hk1))), h2.frame hk (fun k hk1 => hd k ((h4 k).2 (.inr hk1))), h3, h4⟩
theorem Pair.below {w w' : World} {base : Nat} {S : Nat → Prop} {gb gr : Nat} {mo : Int} {l : List S29} (h : Pair w base S gb gr mo l) (hb : Below w.heap.size w w') : Pair w' base S gb gr mo l :=
  h.frame (Kept.of_below hb (fun _ => False)) (fun _ _ h => h)
end Go.Proofs.Ytdaikljbljcagaa.Ms
