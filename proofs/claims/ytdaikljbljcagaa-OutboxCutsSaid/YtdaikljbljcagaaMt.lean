/- DERIVED. OutboxPlays: the code walked. Conditions: those that each lemma names. -/
import Derived.Test.YtdaikljbljcagaaUj
import Derived.Test.YtdaikljbljcagaaPAllx22
namespace Go.Proofs.Ytdaikljbljcagaa.Mt
open Go Go.RowKit Go.Proofs.Ytdaikljbljcagaa.PAll Go.Proofs.YtdaikljbljcagaaW.PrintWords Go.Proofs.YtdaikljbljcagaaW.PrintLast Go.Proofs.Ytdaikljbljcagaa.Hl Go.Proofs.Ytdaikljbljcagaa.Fv Go.Proofs.Ytdaikljbljcagaa.Mc Go.Proofs.Ytdaikljbljcagaa.Me Go.Proofs.Ytdaikljbljcagaa.Mi Go.Proofs.Ytdaikljbljcagaa.Mj Go.Proofs.Ytdaikljbljcagaa.Mk Go.Proofs.Ytdaikljbljcagaa.Mm Go.Proofs.Ytdaikljbljcagaa.Mr Go.Proofs.Ytdaikljbljcagaa.Ms Go.Proofs.Ytdaikljbljcagaa.Pn Go.Proofs.Ytdaikljbljcagaa.Pq Go.Proofs.Ytdaikljbljcagaa.Uj
set_option linter.unusedSimpArgs false
set_option linter.unusedVariables false
theorem _root_.Go.Proofs.Ytdaikljbljcagaa.Mi.Box.lower {t : TypeId} {w : World} {base base' : Nat} {S : Nat → Prop} {gb : Nat} {mo : Int} {l : List S29} (h : Box t w base S gb mo l) (hb : base' ≤ base) : Box t w base' S gb mo l := by
  obtain ⟨h1, h2, A, c, h3, h4⟩ := h
  exact ⟨h1, fun k hk => ⟨Nat.le_trans hb (h2 k hk).1, (h2 k hk).2⟩, A, c, h3, Kd.R_lower h4 hb⟩
theorem pair_new {w : World} {base b1 b2 gb gr : Nat} {mo : Int} (h1 : Box 68 w b1 (fun k => k = gb) gb mo []) (h2 : Box 70 w b2 (fun k => k = gr) gr mo []) (_hg : base ≤ gb) (hlt : gb < gr) (e1 : base ≤ b1) (e2 : base ≤ b2) : Pair w base (fun k => k = gb ∨ k = gr) gb gr mo [] :=
  ⟨_, _, h1.lower e1, h2.lower e2, fun k h1 h2 => by omega, fun k => Iff.rfl⟩
theorem same_pair (w : World) (base : Nat) (S : Nat → Prop) (gb gr : Nat) (mo : Int) (l : List S29) (h : Pair w base S gb gr mo l) (hz : l.length < 1000000000) (k : Nat) (hs : shelfmarkref13_SameIntents.f k l l = some true) :
    Calls Try.prog 18 #[.pointer (some ⟨gb, 0, none⟩), .pointer (some ⟨gr, 0, none⟩)] w fun en w' => en = .returned (.bool true) ∧ Below w.heap.size w w' := by
  obtain ⟨S1, S2, ⟨_, _, A, c, hB, hR⟩, ⟨_, _, A2, c2, hB2, hR2⟩, _, _⟩ := h
  exact same_v w gb gr mo l A A2 c c2 hB (Kd.R_reads' hR).2.2 (Kd.R_reads' hR).2.1 hB2 (Kd.R_reads' hR2).2.2 (Kd.R_reads' hR2).2.1 hz k hs
/-- What waits after some acts. -/
def runL (mo : Int) (l : List S45) (o : List S29) : List S29 := l.foldl (actL mo) o
theorem runL_snoc (mo : Int) (l : List S45) (a : S45) (o : List S29) : runL mo (l ++ [a]) o = actL mo (runL mo l o) a := by unfold runL; rw [List.foldl_append]; rfl
theorem rd45_at (l : List S45) (i : Nat) (h : i < l.length) : rd_T45 l (i : Int) = l[i] := by
  unfold rd_T45
  rw [Int.toNat_natCast, List.getD_eq_getElem?_getD, List.getElem?_eq_getElem h]
  rfl
/-- All that is asked of the acts of a list. -/
structure ActsOk (k : Nat) (mo : Int) (l : List S45) : Prop where
  len : l.length < 60
  ok : ∀ j (h : j < l.length), ActOk k mo (runL mo (l.take j) []) l[j]
  size : ∀ j (h : j < l.length), (runL mo (l.take j) []).length + l[j].f1.length < 1000000
  wf : ∀ j (h : j < l.length), WfI (runL mo (l.take j) [])
  wf1 : ∀ j (h : j < l.length), WfI l[j].f1
set_option maxHeartbeats 16000000 in
set_option maxRecDepth 100000 in
theorem plays_law (k : Nat) (w : World) (most : Int) (hmo : most < 9223372036854775808) (A : Option Addr) (c : Nat) (l : List S45) (hC : Kd.C k45 w A l.length l) (hc : l.length ≤ c) (lb : Bool) (hl : shelfmarklaw18_light.f k l = some lb) (h : lb = true → ActsOk k (mx most 0) l) :
    Calls Try.prog 5 #[.int .i64 most, .slice A l.length c] w fun en w' => en = .returned (.bool true) ∧ Below w.heap.size w w' := by
  have hu29 := Try.underlying29
  have hu45 := Try.underlying45
  have hu43 := Try.underlying43
  have mixed : Try.prog.follows Departure.mixedOrders = true := by kernel_rfl
  have HC := Aside0.mk hC
  have HCC := Aside0.mk hc
  have HL := Aside0.mk hl
  obtain ⟨mo, hm⟩ : ∃ mo, mo = mx most 0 := ⟨_, rfl⟩
  have M0 := Aside0.mk (show 0 ≤ mo by rw [hm]; unfold mx; split <;> omega)
  have M1 := Aside0.mk (show mo < 9223372036854775808 by rw [hm]; unfold mx; split <;> omega)
  have MO := Aside0.mk hm
  rw [← hm] at h
  clear hC hc hl hm hmo
  cases lb with
  | false =>
    clear h
    go_enter Try.func5, Try.ntmps5
    go_wp2_with (first
          | ((with_reducible refine gate_callee (f := 7) rfl ?_); (try (refine gate_guard (by rfl) ?_; dsimp only)); refine goesL_ (some 8) rfl rfl Try.func7 (by kernel_rfl) rfl #[] rfl (by (try simp only [List.map_toArray, List.map_cons, List.map_nil]); first | done | rfl) ?_; (refine (awake_v w).mono ?_); rintro en w1 ⟨rfl, hb_⟩; refine ⟨_, rfl, ?_⟩; have HB1 := Aside0.mk hb_; clear hb_)
          | ((with_reducible refine gate_callee (f := 19) rfl ?_); (try (refine gate_guard (by rfl) ?_; dsimp only)); refine goesL_ (some 11) rfl rfl Try.func19 (by kernel_rfl) rfl #[.slice A l.length c] rfl (by (try simp only [List.map_toArray, List.map_cons, List.map_nil]); first | done | rfl) ?_; (refine (shelfmarklaw18_light.calls k A c l false w1 (Kd.C_below HC.out HB1.out) HCC.out HL.out).mono ?_); rintro en w2 ⟨rfl, hd_⟩; refine ⟨_, rfl, ?_⟩; have HB2 := Aside0.mk (below_step HB1.out (drawn_below hd_)); clear hd_))
    go_ret
    exact ⟨rfl, HB2.out⟩
  | true =>
    have H := Aside0.mk (h rfl)
    clear h
    go_enter Try.func5, Try.ntmps5
    go_wp2_with (first
          | ((with_reducible refine gate_callee (f := 7) rfl ?_); (try (refine gate_guard (by rfl) ?_; dsimp only)); refine goesL_ (some 8) rfl rfl Try.func7 (by kernel_rfl) rfl #[] rfl (by (try simp only [List.map_toArray, List.map_cons, List.map_nil]); first | done | rfl) ?_; (refine (awake_v w).mono ?_); rintro en w1 ⟨rfl, hb_⟩; refine ⟨_, rfl, ?_⟩; have HB1 := Aside0.mk hb_; clear hb_)
          | ((with_reducible refine gate_callee (f := 19) rfl ?_); (try (refine gate_guard (by rfl) ?_; dsimp only)); refine goesL_ (some 11) rfl rfl Try.func19 (by kernel_rfl) rfl #[.slice A l.length c] rfl (by (try simp only [List.map_toArray, List.map_cons, List.map_nil]); first | done | rfl) ?_; (refine (shelfmarklaw18_light.calls k A c l true w1 (Kd.C_below HC.out HB1.out) HCC.out HL.out).mono ?_); rintro en w2 ⟨rfl, hd_⟩; refine ⟨_, rfl, ?_⟩; have HB2 := Aside0.mk (below_step HB1.out (drawn_below hd_)); clear hd_)
          | ((with_reducible refine gate_callee (f := 13) rfl ?_); (try (refine gate_guard (by rfl) ?_; dsimp only)); refine goesL_ (some 14) rfl rfl Try.func13 (by kernel_rfl) rfl #[.int .i64 most] rfl (by (try simp only [List.map_toArray, List.map_cons, List.map_nil]); first | done | rfl) ?_; (refine (new_v w2 most).mono ?_); rintro en w3 ⟨gb, rfl, hx_, hg_, hb_⟩; refine ⟨_, rfl, ?_⟩; have X3 := Aside0.mk hx_; have HB3 := Aside0.mk (below_step HB2.out hb_); have GB := Aside0.mk hg_; clear hx_ hb_ hg_)
          | ((with_reducible refine gate_callee (f := 14) rfl ?_); (try (refine gate_guard (by rfl) ?_; dsimp only)); refine goesL_ (some 16) rfl rfl Try.func14 (by kernel_rfl) rfl #[.int .i64 most] rfl (by (try simp only [List.map_toArray, List.map_cons, List.map_nil]); first | done | rfl) ?_; (refine (newr_v w3 most).mono ?_); rintro en w4 ⟨gr, rfl, hx_, hg_, hb_⟩; refine ⟨_, rfl, ?_⟩; have P4 := Aside0.mk (pair_new (X3.out.below hb_) hx_ (Nat.le_trans HB2.out.size GB.out) (Nat.lt_of_lt_of_le (X3.out.2.1 gb rfl).2 hg_) HB2.out.size HB3.out.size); have HB4 := Aside0.mk (below_step HB3.out hb_); clear hx_ hb_ hg_))
    rw [← MO.out] at P4
    clear HB1 HB2 HB3 X3 GB HL
    go_loopg [7] l.length (fun kq v7 wr => ∃ (j : Nat) (Sj : Nat → Prop), v7 = .int .i64 (j : Int) ∧ Aside0 (j ≤ l.length ∧ l.length - j ≤ kq) ∧ Aside0 (Below w.heap.size w wr) ∧ Aside0 (Pair wr w.heap.size Sj gb gr mo (runL mo (l.take j) [])))
    case atStart => exact ⟨0, _, rfl, ⟨Nat.zero_le _, Nat.le_refl _⟩, HB4, P4⟩
    case round =>
      obtain ⟨j, Sj, rfl, HI, HBr, HPr⟩ := hrel
      by_cases hlt : j < l.length
      · obtain ⟨ad, A1, c1, hA, hx0, hx1, hx2, hx3, hx4, hm1, hc1⟩ := at_T45 HC.out (j : Int) (by omega) (by omega)
        rw [rd45_at l j hlt, Int.toNat_natCast] at hx0 hx1 hx2 hx3 hx4
        rw [rd45_at l j hlt] at hm1 hc1
        obtain ⟨p_, hp_⟩ : ∃ p_, p_ = l[j] := ⟨_, rfl⟩
        obtain ⟨o, ho⟩ : ∃ o, o = runL mo (l.take j) [] := ⟨_, rfl⟩
        have OK := Aside0.mk (show ActOk k mo o p_ by rw [ho, hp_]; exact H.out.ok j hlt)
        have WO := Aside0.mk (show WfI o by rw [ho]; exact H.out.wf j hlt)
        have WP := Aside0.mk (show WfI p_.f1 by rw [hp_]; exact H.out.wf1 j hlt)
        have LS := Aside0.mk (show o.length + p_.f1.length < 1000000000 by rw [ho, hp_]; have := H.out.size j hlt; omega)
        have LA := Aside0.mk (show (actL mo o p_).length < 1000000000 by have h1 := actL_len mo o p_; have h2 := LS.out; omega)
        have HSn := Aside0.mk (show runL mo (l.take (j + 1)) [] = actL mo o p_ by rw [List.take_add_one, List.getElem?_eq_getElem hlt, Option.toList_some, runL_snoc, ho, hp_])
        rw [← ho] at HPr
        rw [← hp_] at hx0 hx1 hx2 hx3 hx4 hm1 hc1
        have HM1 := Aside0.mk hc1
        have HMC1 := Aside0.mk hm1
        replace hx0 := pw_cell_below HBr.out hx0
        replace hx1 := pw_cell_below HBr.out hx1
        replace hx2 := pw_cell_below HBr.out hx2
        replace hx3 := pw_cell_below HBr.out hx3
        replace hx4 := pw_cell_below HBr.out hx4
        have q1 : decide ((j : Int) < (l.length : Int)) = true := decide_eq_true (by omega)
        have q2 : (j : Int) < (l.length : Int) := by omega
        have HIL := Aside0.mk (show j < l.length from hlt)
        subst hA
        clear hp_ hlt ho hm1 hc1
        go_wp2_with (first
              | ((with_reducible refine gate_callee (f := 20) rfl ?_); (try (refine gate_guard (by rfl) ?_; dsimp only)); refine goesL_ (some 29) rfl rfl Try.func20 (by kernel_rfl) rfl #[.pointer (some ⟨gb, 0, none⟩), .pointer (some ⟨gr, 0, none⟩), .agg #[.int .i64 p_.f0, .slice A1 p_.f1.length c1, .int .i64 p_.f2, .string p_.f3.f0, .string p_.f3.f1]] rfl (by (try simp only [List.map_toArray, List.map_cons, List.map_nil]); first | done | rfl) ?_; (refine (do_v w wr HBr.out gb gr Sj mo o HPr.out p_ A1 c1 HM1.out HMC1.out WO.out WP.out LS.out M0.out M1.out k OK.out).mono ?_); rintro en w5 ⟨rfl, S5, hp_, hu_⟩; refine ⟨_, rfl, ?_⟩; have P5 := Aside0.mk hp_; have HB5 := Aside0.mk (HBr.out.trans hu_.below); clear hp_ hu_ hx0 hx1 hx2 hx3 hx4)
              | ((with_reducible refine gate_callee (f := 18) rfl ?_); (try (refine gate_guard (by rfl) ?_; dsimp only)); refine goesL_ (some 34) rfl rfl Try.func18 (by kernel_rfl) rfl #[.pointer (some ⟨gb, 0, none⟩), .pointer (some ⟨gr, 0, none⟩)] rfl (by (try simp only [List.map_toArray, List.map_cons, List.map_nil]); first | done | rfl) ?_; (refine (same_pair w5 w.heap.size S5 gb gr mo (actL mo o p_) P5.out LA.out k OK.out.same).mono ?_); rintro en w6 ⟨rfl, hb_⟩; refine ⟨_, rfl, ?_⟩; have P6 := Aside0.mk (P5.out.below hb_); have HB6 := Aside0.mk (below_step HB5.out hb_); clear hb_))
        go_roundg (l.length - (j + 1))
        case measure => have := HI.out.2; have := HIL.out; omega
        case rel => exact ⟨j + 1, S5, by first | rfl | (congr 1; exact Go.IntWalk.wrap64_in _ (by have h1 := H.out.len; have h2 := HIL.out; omega)), ⟨HIL.out, Nat.le_refl _⟩, HB6, ⟨by rw [HSn.out]; exact P6.out⟩⟩
      · obtain rfl : j = l.length := by have := HI.out.1; omega
        have q1 : decide ((l.length : Int) < (l.length : Int)) = false := decide_eq_false (by omega)
        clear hlt HI
        go_wp2
        go_ret
        exact ⟨rfl, HBr.out⟩
end Go.Proofs.Ytdaikljbljcagaa.Mt
