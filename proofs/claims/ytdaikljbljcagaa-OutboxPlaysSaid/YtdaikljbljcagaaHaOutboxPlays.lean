/- DERIVED. OutboxPlays: the code walked. Conditions: those that each lemma names. DERIVED. OutboxPlays answers true at all inputs. Conditions: none but those of the statement. -/
import Derived.Test.YtdaikljbljcagaaUj
import Derived.Test.YtdaikljbljcagaaPAllx22
import Derived.Test.YtdaikljbljcagaaRs
namespace Go.Proofs.Ytdaikljbljcagaa.Mt
open Go Go.RowKit Go.Proofs.Ytdaikljbljcagaa.PAll Go.Proofs.YtdaikljbljcagaaW.PrintWords Go.Proofs.YtdaikljbljcagaaW.PrintLast Go.Proofs.Ytdaikljbljcagaa.Hl Go.Proofs.Ytdaikljbljcagaa.Fv Go.Proofs.Ytdaikljbljcagaa.Mc Go.Proofs.Ytdaikljbljcagaa.Me Go.Proofs.Ytdaikljbljcagaa.Mi Go.Proofs.Ytdaikljbljcagaa.Mj Go.Proofs.Ytdaikljbljcagaa.Mk Go.Proofs.Ytdaikljbljcagaa.Mm Go.Proofs.Ytdaikljbljcagaa.Mr Go.Proofs.Ytdaikljbljcagaa.Ms Go.Proofs.Ytdaikljbljcagaa.Pn Go.Proofs.Ytdaikljbljcagaa.Pq Go.Proofs.Ytdaikljbljcagaa.Uj
set_option linter.unusedSimpArgs false
set_option linter.unusedVariables false
theorem _root_.Go.Proofs.Ytdaikljbljcagaa.Mi.Box.lower {t : TypeId} {w : World} {base base' : Nat} {S : Nat → Prop} {gb : Nat} {mo : Int} {l : List S29} (h : Box t w base S gb mo l) (hb : base' ≤ base) : Box t w base' S gb mo l := by
  obtain ⟨h1, h2, A, c, h3, h4⟩ := h
  exact ⟨h1, fun k hk => ⟨Nat.le_trans hb (h2 k hk).1, (h2 k hk).2⟩, A, c, h3, Kd.R_lower h4 hb⟩
theorem pair_new {w : World} {base b1 b2 gb gr : Nat} {mo : Int} (h1 : Box 68 w b1 (fun k => k = gb) gb mo []) (h2 : Box 70 w b2 (fun k => k = gr) gr mo []) (_hg : base ≤ gb) (hlt : gb < gr) (e1 : base ≤ b1) (e2 : base ≤ b2) : Pair w base (fun k => k = gb ∨ k = gr) gb gr mo [] :=
  ⟨_, _, h1.lower e1, h2.lower e2, fun k h1 h2 => by omega, fun k => Iff.rfl⟩
theorem same_pair (w : World) (base : Nat) (S : Nat → Prop) (gb gr : Nat) (mo : Int) (l : List S29) (h : Pair w base S gb gr mo l) (hz : l.length < 1000000000) (k : Nat) (hs : shelfmarkref13_SameIntents.f k l l = some true) :
    Calls Try.prog 18 #[.pointer (some ⟨gb, 0, none⟩), .pointer (some ⟨gr, 0, none⟩)] w fun en w' => en = .returned (.bool true) ∧ Below w.heap.size w w' := by
  obtain ⟨S1, S2, ⟨_, _, A, c, hB, hR⟩, ⟨_, _, A2, c2, hB2, hR2⟩, _, _⟩ := h
  exact same_v w gb gr mo l A A2 c c2 hB (Kd.R_reads' hR).2.2 (Kd.R_reads' hR).2.1 hB2 (Kd.R_reads' hR2).2.2 (Kd.R_reads' hR2).2.1 hz k hs
/-- What waits after some acts. -/
def runL (mo : Int) (l : List S45) (o : List S29) : List S29 := l.foldl (actL mo) o
theorem runL_snoc (mo : Int) (l : List S45) (a : S45) (o : List S29) : runL mo (l ++ [a]) o = actL mo (runL mo l o) a := by unfold runL; rw [List.foldl_append]; rfl
theorem rd45_at (l : List S45) (i : Nat) (h : i < l.length) : rd_T45 l (i : Int) = l[i] := by
  unfold rd_T45
  rw [Int.toNat_natCast, List.getD_eq_getElem?_getD, List.getElem?_eq_getElem h]
  rfl
/-- All that is asked of the acts of a list. -/
structure ActsOk (k : Nat) (mo : Int) (l : List S45) : Prop where
  len : l.length < 60
  ok : ∀ j (h : j < l.length), ActOk k mo (runL mo (l.take j) []) l[j]
  size : ∀ j (h : j < l.length), (runL mo (l.take j) []).length + l[j].f1.length < 1000000
  wf : ∀ j (h : j < l.length), WfI (runL mo (l.take j) [])
  wf1 : ∀ j (h : j < l.length), WfI l[j].f1
set_option maxHeartbeats 16000000 in
set_option maxRecDepth 100000 in
theorem plays_law (k : Nat) (w : World) (most : Int) (hmo : most < 9223372036854775808) (A : Option Addr) (c : Nat) (l : List S45) (hC : Kd.C k45 w A l.length l) (hc : l.length ≤ c) (lb : Bool) (hl : shelfmarklaw18_light.f k l = some lb) (h : lb = true → ActsOk k (mx most 0) l) :
    Calls Try.prog 5 #[.int .i64 most, .slice A l.length c] w fun en w' => en = .returned (.bool true) ∧ Below w.heap.size w w' := by
  have hu29 := Try.underlying29
  have hu45 := Try.underlying45
  have hu43 := Try.underlying43
  have mixed : Try.prog.follows Departure.mixedOrders = true := by kernel_rfl
  have HC := Aside0.mk hC
  have HCC := Aside0.mk hc
  have HL := Aside0.mk hl
  obtain ⟨mo, hm⟩ : ∃ mo, mo = mx most 0 := ⟨_, rfl⟩
  have M0 := Aside0.mk (show 0 ≤ mo by rw [hm]; unfold mx; split <;> omega)
  have M1 := Aside0.mk (show mo < 9223372036854775808 by rw [hm]; unfold mx; split <;> omega)
  have MO := Aside0.mk hm
  rw [← hm] at h
  clear hC hc hl hm hmo
  cases lb with
  | false =>
    clear h
    go_enter Try.func5, Try.ntmps5
    go_wp2_with (first
          | ((with_reducible refine gate_callee (f := 7) rfl ?_); (try (refine gate_guard (by rfl) ?_; dsimp only)); refine goesL_ (some 8) rfl rfl Try.func7 (by kernel_rfl) rfl #[] rfl (by (try simp only [List.map_toArray, List.map_cons, List.map_nil]); first | done | rfl) ?_; (refine (awake_v w).mono ?_); rintro en w1 ⟨rfl, hb_⟩; refine ⟨_, rfl, ?_⟩; have HB1 := Aside0.mk hb_; clear hb_)
          | ((with_reducible refine gate_callee (f := 19) rfl ?_); (try (refine gate_guard (by rfl) ?_; dsimp only)); refine goesL_ (some 11) rfl rfl Try.func19 (by kernel_rfl) rfl #[.slice A l.length c] rfl (by (try simp only [List.map_toArray, List.map_cons, List.map_nil]); first | done | rfl) ?_; (refine (shelfmarklaw18_light.calls k A c l false w1 (Kd.C_below HC.out HB1.out) HCC.out HL.out).mono ?_); rintro en w2 ⟨rfl, hd_⟩; refine ⟨_, rfl, ?_⟩; have HB2 := Aside0.mk (below_step HB1.out (drawn_below hd_)); clear hd_))
    go_ret
    exact ⟨rfl, HB2.out⟩
  | true =>
    have H := Aside0.mk (h rfl)
    clear h
    go_enter Try.func5, Try.ntmps5
    go_wp2_with (first
          | ((with_reducible refine gate_callee (f := 7) rfl ?_); (try (refine gate_guard (by rfl) ?_; dsimp only)); refine goesL_ (some 8) rfl rfl Try.func7 (by kernel_rfl) rfl #[] rfl (by (try simp only [List.map_toArray, List.map_cons, List.map_nil]); first | done | rfl) ?_; (refine (awake_v w).mono ?_); rintro en w1 ⟨rfl, hb_⟩; refine ⟨_, rfl, ?_⟩; have HB1 := Aside0.mk hb_; clear hb_)
          | ((with_reducible refine gate_callee (f := 19) rfl ?_); (try (refine gate_guard (by rfl) ?_; dsimp only)); refine goesL_ (some 11) rfl rfl Try.func19 (by kernel_rfl) rfl #[.slice A l.length c] rfl (by (try simp only [List.map_toArray, List.map_cons, List.map_nil]); first | done | rfl) ?_; (refine (shelfmarklaw18_light.calls k A c l true w1 (Kd.C_below HC.out HB1.out) HCC.out HL.out).mono ?_); rintro en w2 ⟨rfl, hd_⟩; refine ⟨_, rfl, ?_⟩; have HB2 := Aside0.mk (below_step HB1.out (drawn_below hd_)); clear hd_)
          | ((with_reducible refine gate_callee (f := 13) rfl ?_); (try (refine gate_guard (by rfl) ?_; dsimp only)); refine goesL_ (some 14) rfl rfl Try.func13 (by kernel_rfl) rfl #[.int .i64 most] rfl (by (try simp only [List.map_toArray, List.map_cons, List.map_nil]); first | done | rfl) ?_; (refine (new_v w2 most).mono ?_); rintro en w3 ⟨gb, rfl, hx_, hg_, hb_⟩; refine ⟨_, rfl, ?_⟩; have X3 := Aside0.mk hx_; have HB3 := Aside0.mk (below_step HB2.out hb_); have GB := Aside0.mk hg_; clear hx_ hb_ hg_)
          | ((with_reducible refine gate_callee (f := 14) rfl ?_); (try (refine gate_guard (by rfl) ?_; dsimp only)); refine goesL_ (some 16) rfl rfl Try.func14 (by kernel_rfl) rfl #[.int .i64 most] rfl (by (try simp only [List.map_toArray, List.map_cons, List.map_nil]); first | done | rfl) ?_; (refine (newr_v w3 most).mono ?_); rintro en w4 ⟨gr, rfl, hx_, hg_, hb_⟩; refine ⟨_, rfl, ?_⟩; have P4 := Aside0.mk (pair_new (X3.out.below hb_) hx_ (Nat.le_trans HB2.out.size GB.out) (Nat.lt_of_lt_of_le (X3.out.2.1 gb rfl).2 hg_) HB2.out.size HB3.out.size); have HB4 := Aside0.mk (below_step HB3.out hb_); clear hx_ hb_ hg_))
    rw [← MO.out] at P4
    clear HB1 HB2 HB3 X3 GB HL
    go_loopg [7] l.length (fun kq v7 wr => ∃ (j : Nat) (Sj : Nat → Prop), v7 = .int .i64 (j : Int) ∧ Aside0 (j ≤ l.length ∧ l.length - j ≤ kq) ∧ Aside0 (Below w.heap.size w wr) ∧ Aside0 (Pair wr w.heap.size Sj gb gr mo (runL mo (l.take j) [])))
    case atStart => exact ⟨0, _, rfl, ⟨Nat.zero_le _, Nat.le_refl _⟩, HB4, P4⟩
    case round =>
      obtain ⟨j, Sj, rfl, HI, HBr, HPr⟩ := hrel
      by_cases hlt : j < l.length
      · obtain ⟨ad, A1, c1, hA, hx0, hx1, hx2, hx3, hx4, hm1, hc1⟩ := at_T45 HC.out (j : Int) (by omega) (by omega)
        rw [rd45_at l j hlt, Int.toNat_natCast] at hx0 hx1 hx2 hx3 hx4
        rw [rd45_at l j hlt] at hm1 hc1
        obtain ⟨p_, hp_⟩ : ∃ p_, p_ = l[j] := ⟨_, rfl⟩
        obtain ⟨o, ho⟩ : ∃ o, o = runL mo (l.take j) [] := ⟨_, rfl⟩
        have OK := Aside0.mk (show ActOk k mo o p_ by rw [ho, hp_]; exact H.out.ok j hlt)
        have WO := Aside0.mk (show WfI o by rw [ho]; exact H.out.wf j hlt)
        have WP := Aside0.mk (show WfI p_.f1 by rw [hp_]; exact H.out.wf1 j hlt)
        have LS := Aside0.mk (show o.length + p_.f1.length < 1000000000 by rw [ho, hp_]; have := H.out.size j hlt; omega)
        have LA := Aside0.mk (show (actL mo o p_).length < 1000000000 by have h1 := actL_len mo o p_; have h2 := LS.out; omega)
        have HSn := Aside0.mk (show runL mo (l.take (j + 1)) [] = actL mo o p_ by rw [List.take_add_one, List.getElem?_eq_getElem hlt, Option.toList_some, runL_snoc, ho, hp_])
        rw [← ho] at HPr
        rw [← hp_] at hx0 hx1 hx2 hx3 hx4 hm1 hc1
        have HM1 := Aside0.mk hc1
        have HMC1 := Aside0.mk hm1
        replace hx0 := pw_cell_below HBr.out hx0
        replace hx1 := pw_cell_below HBr.out hx1
        replace hx2 := pw_cell_below HBr.out hx2
        replace hx3 := pw_cell_below HBr.out hx3
        replace hx4 := pw_cell_below HBr.out hx4
        have q1 : decide ((j : Int) < (l.length : Int)) = true := decide_eq_true (by omega)
        have q2 : (j : Int) < (l.length : Int) := by omega
        have HIL := Aside0.mk (show j < l.length from hlt)
        subst hA
        clear hp_ hlt ho hm1 hc1
        go_wp2_with (first
              | ((with_reducible refine gate_callee (f := 20) rfl ?_); (try (refine gate_guard (by rfl) ?_; dsimp only)); refine goesL_ (some 29) rfl rfl Try.func20 (by kernel_rfl) rfl #[.pointer (some ⟨gb, 0, none⟩), .pointer (some ⟨gr, 0, none⟩), .agg #[.int .i64 p_.f0, .slice A1 p_.f1.length c1, .int .i64 p_.f2, .string p_.f3.f0, .string p_.f3.f1]] rfl (by (try simp only [List.map_toArray, List.map_cons, List.map_nil]); first | done | rfl) ?_; (refine (do_v w wr HBr.out gb gr Sj mo o HPr.out p_ A1 c1 HM1.out HMC1.out WO.out WP.out LS.out M0.out M1.out k OK.out).mono ?_); rintro en w5 ⟨rfl, S5, hp_, hu_⟩; refine ⟨_, rfl, ?_⟩; have P5 := Aside0.mk hp_; have HB5 := Aside0.mk (HBr.out.trans hu_.below); clear hp_ hu_ hx0 hx1 hx2 hx3 hx4)
              | ((with_reducible refine gate_callee (f := 18) rfl ?_); (try (refine gate_guard (by rfl) ?_; dsimp only)); refine goesL_ (some 34) rfl rfl Try.func18 (by kernel_rfl) rfl #[.pointer (some ⟨gb, 0, none⟩), .pointer (some ⟨gr, 0, none⟩)] rfl (by (try simp only [List.map_toArray, List.map_cons, List.map_nil]); first | done | rfl) ?_; (refine (same_pair w5 w.heap.size S5 gb gr mo (actL mo o p_) P5.out LA.out k OK.out.same).mono ?_); rintro en w6 ⟨rfl, hb_⟩; refine ⟨_, rfl, ?_⟩; have P6 := Aside0.mk (P5.out.below hb_); have HB6 := Aside0.mk (below_step HB5.out hb_); clear hb_))
        go_roundg (l.length - (j + 1))
        case measure => have := HI.out.2; have := HIL.out; omega
        case rel => exact ⟨j + 1, S5, by first | rfl | (congr 1; exact Go.IntWalk.wrap64_in _ (by have h1 := H.out.len; have h2 := HIL.out; omega)), ⟨HIL.out, Nat.le_refl _⟩, HB6, ⟨by rw [HSn.out]; exact P6.out⟩⟩
      · obtain rfl : j = l.length := by have := HI.out.1; omega
        have q1 : decide ((l.length : Int) < (l.length : Int)) = false := decide_eq_false (by omega)
        clear hlt HI
        go_wp2
        go_ret
        exact ⟨rfl, HBr.out⟩
end Go.Proofs.Ytdaikljbljcagaa.Mt
namespace Go.Proofs.Ytdaikljbljcagaa.HaOutboxPlays
open Go.RowKit Go.Proofs.Ytdaikljbljcagaa.Na Go.Proofs.Ytdaikljbljcagaa.Pq Go.Proofs.Ytdaikljbljcagaa.PAll Go.Proofs.YtdaikljbljcagaaW.PrintWords Go.Proofs.YtdaikljbljcagaaW.PrintLast Go.Proofs.Ytdaikljbljcagaa.Mc Go.Proofs.Ytdaikljbljcagaa.Mt Go.Proofs.Ytdaikljbljcagaa.Pv Go.Proofs.Ytdaikljbljcagaa.Uj Go.Proofs.Ytdaikljbljcagaa.Rs
set_option linter.unusedSimpArgs false
set_option linter.unusedVariables false
theorem int_lt {a : Int} (h : (Lit.int .i64 a).wf = true) : a < 9223372036854775808 := by
  simp [Lit.wf, IntKind.wrap, IntKind.bits, IntKind.signed] at h
  omega
theorem rd45 (l : List S45) (i : Nat) (h : i < l.length) : rd_T45 l (i : Int) = l[i] := by
  unfold rd_T45
  rw [Int.toNat_natCast, List.getD_eq_getElem?_getD, List.getElem?_eq_getElem h]; rfl
theorem light_l0 (l : List S45) (hl : l.length < 4611686018427387904) (hm : ∀ a ∈ l, a.f1.length ≤ 9223372036854775807) : ∀ (s i : Nat), l.length - i ≤ s → i ≤ l.length → ∃ b, Ev (fun k => shelfmarklaw18_light.l0 k l (i : Int)) b ∧ (b = true → l.length < 60 ∧ ∀ j (h : j < l.length), i ≤ j → l[j].f1.length ≤ 30 ∧ (∀ x ∈ l[j].f1, x.f0.size ≤ 300) ∧ l[j].f3.f0.size ≤ 300 ∧ l[j].f3.f1.size ≤ 300) := by
  have fin : ∀ (i : Nat) (f : Nat → Option Bool), (∀ k, f (k + 1) = shelfmarklaw18_light.j1 k l (i : Int) false) → Ev f (decide ((l.length : Int) < 60)) := fun i f hf =>
    Ev.step hf (Ev.step (fun _ => shelfmarklaw18_light.j1.eq_2 ..) (Ev.congr (fun k => if_neg (by decide)) (Ev.now _)))
  intro s
  induction s with
  | zero =>
    intro i hs hi
    refine ⟨_, fin i _ (fun k => (shelfmarklaw18_light.l0.eq_2 ..).trans (if_neg (by omega))), fun h => ⟨by have := of_decide_eq_true h; omega, fun j h1 h2 => by omega⟩⟩
  | succ s ih =>
    intro i hs hi
    by_cases hlt : i < l.length
    · by_cases hn : i < 60
      · have go : ∀ b, Ev (fun k => shelfmarklaw18_light.j1 k l (i : Int) true) b → Ev (fun k => shelfmarklaw18_light.l0 k l (i : Int)) b := fun b h => Ev.step (fun _ => shelfmarklaw18_light.l0.eq_2 ..) (Ev.congr (fun k => by rw [if_pos (by omega), decide_eq_true (by omega)]) h)
        obtain ⟨b1, h1, h2⟩ := light_ev l[i].f1 30 (hm _ (List.getElem_mem hlt))
        have hj : ∀ (g : Nat → Bool → Option Bool) b, (∀ k t, g k t = (if t = true then (if (((rd_T45 l (i : Int)).f3.f0).size : Int) > 300 then (some false) else (if (((rd_T45 l (i : Int)).f3.f1).size : Int) > 300 then (some false) else (shelfmarklaw18_light.l0 k l (wrap64 ((i : Int) + 1))))) else (some false))) → Ev (fun k => g k b1) b → Ev (fun k => shelfmarklaw18_light.j1 k l (i : Int) true) b := by
          intro g b hg h
          refine Ev.step (fun _ => shelfmarklaw18_light.j1.eq_2 ..) (Ev.congr (fun k => ?_) (Ev.bind h1 h))
          rw [if_pos rfl, if_pos (by omega), if_pos (by omega), rd45 l i hlt]
          congr 1
          funext t
          rw [hg k t, rd45 l i hlt]
        cases b1 with
        | false => exact ⟨false, go _ (hj _ _ (fun k t => rfl) (Ev.congr (fun k => if_neg (by decide)) (Ev.now _))), fun h => by cases h⟩
        | true =>
          by_cases z1 : ((l[i].f3.f0).size : Int) > 300
          · exact ⟨false, go _ (hj _ _ (fun k t => rfl) (Ev.congr (fun k => by rw [if_pos rfl, rd45 l i hlt, if_pos z1]) (Ev.now _))), fun h => by cases h⟩
          · by_cases z2 : ((l[i].f3.f1).size : Int) > 300
            · exact ⟨false, go _ (hj _ _ (fun k t => rfl) (Ev.congr (fun k => by rw [if_pos rfl, rd45 l i hlt, if_neg z1, if_pos z2]) (Ev.now _))), fun h => by cases h⟩
            · obtain ⟨b, k1, k2⟩ := ih (i + 1) (by omega) (by omega)
              refine ⟨b, go _ (hj _ _ (fun k t => rfl) (Ev.congr (fun k => by rw [if_pos rfl, rd45 l i hlt, if_neg z1, if_neg z2, up1 (by omega)]) k1)), fun h => ⟨(k2 h).1, fun j hj2 hij => ?_⟩⟩
              by_cases e : i = j
              · subst e
                exact ⟨(h2 rfl).1, (h2 rfl).2, by omega, by omega⟩
              · exact (k2 h).2 j hj2 (by omega)
      · refine ⟨_, fin i _ (fun k => (shelfmarklaw18_light.l0.eq_2 ..).trans ((if_pos (by omega)).trans (by rw [decide_eq_false (by omega)]))), fun h => by have := of_decide_eq_true h; omega⟩
    · refine ⟨_, fin i _ (fun k => (shelfmarklaw18_light.l0.eq_2 ..).trans (if_neg (by omega))), fun h => ⟨by have := of_decide_eq_true h; omega, fun j h1 h2 => by omega⟩⟩
theorem acts_ok (mo : Int) (l : List S45) (h60 : l.length < 60) (hl : ∀ j (h : j < l.length), l[j].f1.length ≤ 30 ∧ (∀ x ∈ l[j].f1, x.f0.size ≤ 300)) (hw : ∀ a ∈ l, WfI a.f1) : ∃ N, ∀ k, N ≤ k → ActsOk k mo l := by
  have hlen : ∀ j, j ≤ l.length → (runL mo (l.take j) []).length ≤ 30 * j := by
    intro j
    induction j with
    | zero => intro _; exact Nat.le_refl _
    | succ j ih =>
      intro hj
      rw [List.take_add_one, List.getElem?_eq_getElem (by omega), Option.toList_some, runL_snoc]
      have h1 := actL_len mo (runL mo (l.take j) []) l[j]
      have h2 := ih (by omega)
      have h3 := (hl j (by omega)).1
      omega
  have hwf : ∀ j, j ≤ l.length → WfI (runL mo (l.take j) []) := by
    intro j
    induction j with
    | zero => intro _ x hx; cases hx
    | succ j ih =>
      intro hj x hx
      rw [List.take_add_one, List.getElem?_eq_getElem (by omega), Option.toList_some, runL_snoc] at hx
      rcases actL_mem mo _ _ x hx with h | h
      · exact ih (by omega) x h
      · exact hw _ (List.getElem_mem (by omega)) x h
  have hN : ∀ j (h : j < l.length), ∃ N, ∀ k, N ≤ k → ActOk k mo (runL mo (l.take j) []) l[j] := fun j h => act_ok mo _ _ (by have h1 := hlen j (by omega); have h2 := (hl j h).1; omega) (fun x hx => by have := (hl j h).2 x hx; omega)
  have hall : ∀ n, n ≤ l.length → ∃ N, ∀ k, N ≤ k → ∀ j (h : j < l.length), j < n → ActOk k mo (runL mo (l.take j) []) l[j] := by
    intro n
    induction n with
    | zero => intro _; exact ⟨0, fun k _ j h hj => by omega⟩
    | succ n ih =>
      intro hn
      obtain ⟨N, h1⟩ := ih (by omega)
      obtain ⟨M, h2⟩ := hN n (by omega)
      refine ⟨max N M, fun k hk j h hj => ?_⟩
      by_cases e : j = n
      · subst e
        exact h2 k (by omega)
      · exact h1 k (by omega) j h (by omega)
  obtain ⟨N, h⟩ := hall l.length (Nat.le_refl _)
  exact ⟨N, fun k hk => ⟨h60, fun j hj => h k hk j hj hj, fun j hj => by have h1 := hlen j (by omega); have h2 := (hl j hj).1; omega, fun j hj => hwf j (by omega), fun j hj => hw _ (List.getElem_mem hj)⟩⟩
theorem plain (most : Int) (l : List S45) (hl : l.length < 4611686018427387904) (hm : ∀ a ∈ l, a.f1.length ≤ 9223372036854775807) (hw : ∀ a ∈ l, WfI a.f1) : ∃ (k : Nat) (lb : Bool), shelfmarklaw18_light.f k l = some lb ∧ (lb = true → ActsOk k most l) := by
  obtain ⟨lb, ⟨K, h1⟩, h2⟩ := light_l0 l hl hm l.length 0 (by omega) (by omega)
  cases lb with
  | false => exact ⟨K, false, h1 K (Nat.le_refl _), fun h => by cases h⟩
  | true =>
    obtain ⟨N, h3⟩ := acts_ok most l (h2 rfl).1 (fun j h => ⟨((h2 rfl).2 j h (by omega)).1, ((h2 rfl).2 j h (by omega)).2.1⟩) hw
    exact ⟨K + N, true, h1 (K + N) (by omega), fun _ => h3 (K + N) (by omega)⟩
theorem law (W : World) (a0 : Int) (A1 : Option Addr) (c1 : Nat) (l1 : List S45) (hr1 : Kd.C k45 W A1 l1.length l1) (hc1 : l1.length ≤ c1) (w0 : (Lit.int .i64 a0).wf = true) (w1 : l1.length ≤ maxLen ∧ ∀ x ∈ l1, WF45 x) (y1 : l1.length * 72 ≤ 140737488351232) :
    Calls Try.prog 5 #[.int .i64 a0, .slice A1 l1.length c1] W fun en W' => en = .returned (.bool true) ∧ Below W.heap.size W W' := by
  have hw : ∀ a ∈ l1, WfI a.f1 := fun a ha x hx => ⟨((w1.2 a ha).2.1.2 x hx).1, ((w1.2 a ha).2.1.2 x hx).2.1⟩
  obtain ⟨k, lb, h1, h2⟩ := plain (mx a0 0) l1 (by omega) (fun a ha => (w1.2 a ha).2.1.1) hw
  exact plays_law k W a0 (int_lt w0) A1 c1 l1 hr1 hc1 lb h1 h2
end Go.Proofs.Ytdaikljbljcagaa.HaOutboxPlays
