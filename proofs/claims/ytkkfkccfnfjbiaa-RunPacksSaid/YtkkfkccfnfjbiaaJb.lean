/- DERIVED. run.Unpack: what it computes, and its code walked. Conditions: those that each lemma names. -/
import Derived.Test.YtkkfkccfnfjbiaaJa
import Derived.Test.YtkkfkccfnfjbiaaPAllx5
namespace Go.Proofs.Ytkkfkccfnfjbiaa.Jb
open Go Go.RowKit Go.Proofs.Ytkkfkccfnfjbiaa.PAll Go.Proofs.YtkkfkccfnfjbiaaW.PrintWords Go.Proofs.YtkkfkccfnfjbiaaW.PrintLast Go.Proofs.Ytkkfkccfnfjbiaa.Hl Go.Proofs.Ytkkfkccfnfjbiaa.Ja
set_option linter.unusedSimpArgs false
set_option linter.unusedVariables false
def turnE (e g : Int) : Int := if e = 0 ∧ g > 1 then 3 else e
def unpL : Nat → List Int → Int → Int → Int → List S37 → Option (List S37 × Int × Int)
  | 0, _, _, _, _, _ => none
  | k + 1, bs, n, at_, e, out => if n > 0 ∧ e = 0 then
      (if out.length < 1000000 then
        (textF k bs at_ e).bind fun x => (numF k bs x.2.1 x.2.2).bind fun y => (textF k bs y.2.1 (turnE y.2.2 y.1)).bind fun z => unpL k bs (wrap64 (n - 1)) z.2.1 z.2.2 (out ++ [⟨x.1, z.1, y.1 == 1⟩])
      else none) else some (out, at_, e)
def endL (k : Nat) (bs : List Int) (r : List S37 × Int × Int) : Option (List S37 × Int) := if r.2.2 = 0 then (if r.2.1 = (bs.length : Int) then (run_Right.f k r.1).bind fun b => if b = true then some (r.1, 0) else some ([], 3) else some ([], 3)) else some ([], r.2.2)
def run_Unpack.f (k : Nat) (bs : List Int) : Option (List S37 × Int) := (numF k bs 0 0).bind fun x => (unpL k bs x.1 x.2.1 x.2.2 []).bind fun r => endL k bs r
def gB (e g : Int) : Bool := e == 0 && decide (g > 1)
theorem gB_t {e g : Int} (h : gB e g = true) : turnE e g = 3 := by
  unfold gB at h
  rw [Bool.and_eq_true, decide_eq_true_eq] at h
  unfold turnE
  rw [if_pos ⟨beq_iff_eq.1 h.1, h.2⟩]
theorem gB_f {e g : Int} (h : gB e g = false) : turnE e g = e := by
  unfold turnE
  rw [if_neg]
  rintro ⟨h1, h2⟩
  unfold gB at h
  rw [h1, decide_eq_true h2] at h
  cases h
theorem numF_mono (bs : List Int) (a e : Int) (k : Nat) : LeO (numF k bs a e) (numF (k + 1) bs a e) := by
  unfold numF
  exact LeO.ite (pack_GetNum.mono _ _ _) (LeO.refl _)
theorem textF_mono (bs : List Int) (a e : Int) (k : Nat) : LeO (textF k bs a e) (textF (k + 1) bs a e) := by
  unfold textF
  exact LeO.ite (LeO.map _ (pack_GetText.mono _ _ _ _)) (LeO.refl _)
theorem unpL_mono : ∀ (k : Nat) (bs : List Int) (n a e : Int) (out : List S37), LeO (unpL k bs n a e out) (unpL (k + 1) bs n a e out)
  | 0, bs, n, a, e, out => LeO.none _
  | k + 1, bs, n, a, e, out => by
    rw [unpL, unpL]
    exact LeO.ite (LeO.ite (LeO.bind (textF_mono _ _ _ _) fun x => LeO.bind (numF_mono _ _ _ _) fun y => LeO.bind (textF_mono _ _ _ _) fun z => unpL_mono k _ _ _ _ _) (LeO.refl _)) (LeO.refl _)
theorem run_Unpack.mono (bs : List Int) (k : Nat) : LeO (run_Unpack.f k bs) (run_Unpack.f (k + 1) bs) :=
  LeO.bind (numF_mono _ _ _ _) fun x => LeO.bind (unpL_mono _ _ _ _ _ _) fun r => LeO.ite (LeO.ite (LeO.bind (run_Right.mono _ _) fun b => LeO.refl _) (LeO.refl _)) (LeO.refl _)
/-- A row of one's own behind what turns a reader. -/
theorem R_turned {w w1 : World} {gr base : Nat} {ok : Nat → Prop} {v : Value} {xs : List S37} {cells : Array Value} (h : Kd.R k37 37 w base ok v xs) (hb : w.heap[gr]? = some (.cells cells 69 (0, 0))) (ht : Turned gr w w1) : Kd.R k37 37 w1 base ok v xs :=
  Kd.R_mono (Kd.R_step (Kd.R_types h hb (by decide)) (fun k hk hlt => ht.block k hlt hk.2)) (fun _ hk => hk.1)
set_option maxHeartbeats 8000000 in
set_option maxRecDepth 100000 in
theorem run_Unpack.calls (k : Nat) (A0 : Option Addr) (c0 : Nat) (bs : List Int) (r1 : List S37) (r2 : Int) (w : World) (hr0 : Kd.C (Kd.int .u8) w A0 bs.length bs) (hc0 : bs.length ≤ c0) (h : run_Unpack.f k bs = some (r1, r2)) :
    Calls Try.prog 25 #[.slice A0 bs.length c0] w fun e w' => ∃ v0_ : Value, e = .returned (.tuple #[v0_, .int .i64 r2]) ∧ Kd.R k37 37 w' w.heap.size (fun _ => True) v0_ r1 ∧ Below w.heap.size w w' := by
  have hu69 := Try.underlying69
  have hu37 := Try.underlying37
  have mixed : Try.prog.follows Departure.mixedOrders = true := by kernel_rfl
  unfold run_Unpack.f at h
  obtain ⟨⟨n0, a0, e0⟩, hn, h⟩ := Option.bind_eq_some_iff.1 h
  obtain ⟨res, hu, he⟩ := Option.bind_eq_some_iff.1 h
  have HN := Aside0.mk hn
  have HU := Aside0.mk hu
  have HE := Aside0.mk he
  have HR := Aside0.mk hr0
  have HC := Aside0.mk hc0
  rename_i h0
  clear h hn hu he hr0 hc0 h0
  go_enter Try.func25, Try.ntmps25
  go_wp2_with (first | ((with_reducible refine gate_dst (N := 4) rfl ?_); refine box_event ?hg (N := 4) ?hd (cs := #[.slice none 0 0, .int .i64 0, .int .i64 0]) (t := 69) ?hr ?_; (case hd => rfl); (case hg => rfl); (case hr => first | (go_simp; done) | (go_simp; rfl)); intro gr hg w1 hbox hb; have L1 := Aside0.mk (show w.heap.size ≤ gr by omega); have BX1 := Aside0.mk hbox; have HB1 := Aside0.mk hb; clear hb hbox hg; have hz0 : w1.cell? ⟨gr, 0, none⟩ = some (.slice none 0 0) := (blk_cell BX1.out 0).trans rfl; have hz1 : w1.cell? ⟨gr, 1, none⟩ = some (.int .i64 0) := (blk_cell BX1.out 1).trans rfl; have hz2 : w1.cell? ⟨gr, 2, none⟩ = some (.int .i64 0) := (blk_cell BX1.out 2).trans rfl; have hf0 := blk_frozen BX1.out 0; have hf1 := blk_frozen BX1.out 1; have hf2 := blk_frozen BX1.out 2) | (go_at_call 41; (with_reducible refine (num_v (w0 := w) (Rdr.mk (((HB1.out.setCell (p := ⟨gr, 0, none⟩) L1.out _).setCell (p := ⟨gr, 1, none⟩) L1.out _).setCell (p := ⟨gr, 2, none⟩) L1.out _) L1.out (blk_put (blk_put (blk_put BX1.out 0 _ rfl) 1 _ rfl) 2 _ rfl) HR.out HC.out) k _ _ _ HN.out).mono ?_); rintro e w2 ⟨rfl, hh, ht⟩; have HR2 := Aside0.mk hh; clear hh ht hz0 hz1 hz2 hf0 hf1 hf2))
  go_loopg [5, 6] k (fun kq v5 v6 w' => ∃ (n a e : Int) (out : List S37), v6 = .int .i64 n ∧ Aside0 (Rdr w w' gr A0 c0 bs a e) ∧ Aside0 (Kd.R k37 37 w' w.heap.size (fun _ => True) v5 out) ∧ Aside0 (unpL kq bs n a e out = some res) ∧ Aside0 (kq ≤ k))
  case atStart => exact ⟨n0, a0, e0, [], rfl, HR2, ⟨Kd.R_nil _ _ _ _ _⟩, HU, ⟨Nat.le_refl _⟩⟩
  case round =>
    obtain ⟨n, a, e, out, rfl, HRD, HO, HUR, HKQ⟩ := hrel
    have hur := HUR.out
    rcases gk with _ | kq
    · exact absurd hur (by simp [unpL])
    · have c2 : wr.cell? ⟨gr, 2, none⟩ = some (.int .i64 e) := (blk_cell HRD.out.box 2).trans rfl
      have c1 : wr.cell? ⟨gr, 1, none⟩ = some (.int .i64 a) := (blk_cell HRD.out.box 1).trans rfl
      rw [unpL] at hur
      by_cases hgo : n > 0 ∧ e = 0
      · rw [if_pos hgo] at hur
        by_cases hol : out.length < 1000000
        rotate_left
        · rw [if_neg hol] at hur; cases hur
        rw [if_pos hol] at hur
        obtain ⟨⟨key, a1, e1⟩, hk, hur⟩ := Option.bind_eq_some_iff.1 hur
        obtain ⟨⟨g, a2, e2⟩, hg, hur⟩ := Option.bind_eq_some_iff.1 hur
        obtain ⟨⟨val, a3, e4⟩, hv, hur⟩ := Option.bind_eq_some_iff.1 hur
        obtain ⟨e3, he3⟩ : ∃ e3, turnE e2 g = e3 := ⟨_, rfl⟩
        have hk' : textF k bs a e = some (key, a1, e1) := at_rounds (fun q => textF_mono bs a e q) (show kq ≤ k by have := HKQ.out; omega) hk
        have hg' : numF k bs a1 e1 = some (g, a2, e2) := at_rounds (fun q => numF_mono bs a1 e1 q) (show kq ≤ k by have := HKQ.out; omega) hg
        have hv' : textF k bs a2 (turnE e2 g) = some (val, a3, e4) := at_rounds (fun q => textF_mono bs a2 (turnE e2 g) q) (show kq ≤ k by have := HKQ.out; omega) hv
        rw [he3] at hv'
        have HTK := Aside0.mk (text_v HRD.out k key a1 e1 hk')
        have HNG := Aside0.mk (fun w' (hh : Rdr w w' gr A0 c0 bs a1 e1) => num_v hh k g a2 e2 hg')
        have HTV := Aside0.mk (fun w' (hh : Rdr w w' gr A0 c0 bs a2 e3) => text_v hh k val a3 e4 hv')
        have HUR2 := Aside0.mk hur
        have HE3 := Aside0.mk he3
        have HOL := Aside0.mk hol
        have t1 : decide (n > 0) = true := decide_eq_true hgo.1
        have t2 : (e == 0) = true := beq_iff_eq.2 hgo.2
        clear hk hg hv hur he3 hol hgo hk' hg' hv'
        go_upto_region 8 with (first | (go_at_call 42; (with_reducible refine HTK.out.mono ?_); rintro en w2 ⟨rfl, hh, ht⟩; have HR2 := Aside0.mk hh; have HO2 := Aside0.mk (Kd.R_mono (Kd.R_bound (R_turned HO.out HRD.out.box ht)) (ok' := fun k_ => k_ < w2.heap.size) (fun _ hk => hk.2.2.1)); clear hh ht) | ((with_reducible refine gate_dst (N := 7) rfl ?_); refine box_event ?hg (N := 7) ?hd (cs := #[.string (⟨#[]⟩ : ByteArray), .string (⟨#[]⟩ : ByteArray), .bool false]) (t := 37) ?hr ?_; (case hd => rfl); (case hg => rfl); (case hr => first | (go_simp; done) | (go_simp; rfl)); intro gc hg w3 hbox hb; have L3 := Aside0.mk (show w2.heap.size ≤ gc by omega); have BX3 := Aside0.mk hbox; have HB3 := Aside0.mk hb; clear hb hbox hg; have hz0 : w3.cell? ⟨gc, 0, none⟩ = some (.string (⟨#[]⟩ : ByteArray)) := (blk_cell BX3.out 0).trans rfl; have hz1 : w3.cell? ⟨gc, 1, none⟩ = some (.string (⟨#[]⟩ : ByteArray)) := (blk_cell BX3.out 1).trans rfl; have hz2 : w3.cell? ⟨gc, 2, none⟩ = some (.bool false) := (blk_cell BX3.out 2).trans rfl; have hf0 := blk_frozen BX3.out 0; have hf1 := blk_frozen BX3.out 1; have hf2 := blk_frozen BX3.out 2) | (go_at_call 41; have HB4 := Aside0.mk (((HB3.out.setCell (p := ⟨gc, 0, none⟩) L3.out (.string key)).setCell (p := ⟨gc, 1, none⟩) L3.out (.string (⟨#[]⟩ : ByteArray))).setCell (p := ⟨gc, 2, none⟩) L3.out (.bool false)); have BX4 := Aside0.mk (blk_put (blk_put (blk_put BX3.out 0 (.string key) rfl) 1 (.string (⟨#[]⟩ : ByteArray)) rfl) 2 (.bool false) rfl); (with_reducible refine (HNG.out _ (HR2.out.later HB4.out)).mono ?_); rintro en w5 ⟨rfl, hh, ht⟩; have HR5 := Aside0.mk hh; have HO5 := Aside0.mk (R_turned (Kd.R_below HO2.out HB4.out) (blk_below HR2.out.box HB4.out) ht); have BX5 := Aside0.mk (ht.blk BX4.out (fun e_ => by have h1 := blk_lt HR2.out.box; have h2 := L3.out; omega)); clear hh ht hz0 hz1 hz2 hf0 hf1 hf2))
        have d2 : w5.cell? ⟨gr, 2, none⟩ = some (.int .i64 e2) := (blk_cell HR5.out.box 2).trans rfl
        have g2 := blk_frozen HR5.out.box 2
        go_cut [30] from 12 to 40 (fun v30 wc => v30 = .bool (gB e2 g) ∧ wc = w5)
        case first =>
          by_cases hz : e2 = 0
          · have s1 : (e2 == 0) = true := beq_iff_eq.2 hz
            have HQ := Aside0.mk (show gB e2 g = decide (g > 1) by unfold gB; rw [s1, Bool.true_and])
            cases s2 : decide (g > 1) with
            | true =>
              have HQ2 := Aside0.mk (HQ.out.trans s2)
              clear hz
              go_wp2
              go_meet
              rw [HQ2.out]
              exact ⟨rfl, rfl⟩
            | false =>
              have HQ2 := Aside0.mk (HQ.out.trans s2)
              clear hz
              go_wp2
              go_meet
              rw [HQ2.out]
              exact ⟨rfl, rfl⟩
          · have s1 : (e2 == 0) = false := beq_eq_false_iff_ne.2 hz
            have HQ2 := Aside0.mk (show gB e2 g = false by unfold gB; rw [s1, Bool.false_and])
            clear hz
            go_wp2
            go_meet
            rw [HQ2.out]
            exact ⟨rfl, rfl⟩
        case rest =>
        obtain ⟨rfl, hwc⟩ := hcut
        subst hwc
        go_upto_if 30 with (fail)
        go_cut [31] from 12 to 40 (fun v31 wc => Aside0 (Rdr w wc gr A0 c0 bs a2 e3) ∧ Aside0 (Kd.R k37 37 wc w.heap.size (fun k_ => k_ < w2.heap.size) u5 out) ∧ Aside0 (wc.heap[gc]? = some (.cells #[.string key, .string (⟨#[]⟩ : ByteArray), .bool false] 37 (0, 0))))
        case first =>
          cases hgb : gB e2 g with
          | true =>
            have HQ := Aside0.mk (show e3 = 3 by rw [← HE3.out]; exact gB_t hgb)
            clear hgb
            go_wp2
            go_meet
            rw [HQ.out]
            exact ⟨⟨HR5.out.err 3⟩, ⟨Kd.R_set HO5.out HR5.out.box (by decide) 2 _⟩, ⟨blk_far (p := ⟨gr, 2, none⟩) BX5.out (fun e_ => by have h1 := BX5.out; rw [e_, HR5.out.box] at h1; cases h1) _⟩⟩
          | false =>
            have HQ := Aside0.mk (show e3 = e2 by rw [← HE3.out]; exact gB_f hgb)
            clear hgb
            go_wp2
            go_meet
            rw [HQ.out]
            exact ⟨HR5, HO5, BX5⟩
        case rest =>
          obtain ⟨HR6, HO6, BX6⟩ := hcut
          obtain ⟨w6, hw6⟩ : ∃ u, u = wc := ⟨_, rfl⟩
          subst hw6
          have NGC := Aside0.mk (show gc ≠ gr from fun e_ => by have h1 := BX6.out; rw [e_, HR6.out.box] at h1; cases h1)
          have hgcl : w.heap.size ≤ gc := by have h1 := L3.out; have h2 := HR2.out.below.size; omega
          have HGC := Aside0.mk hgcl
          clear d2 g2 hgcl c1 c2
          go_wp2_with (first | (go_at_call 42; (with_reducible refine (HTV.out _ HR6.out).mono ?_); rintro en w7 ⟨rfl, hh, ht⟩; have HR7 := Aside0.mk hh; have HO7 := Aside0.mk (R_turned HO6.out HR6.out.box ht); have BX7 := Aside0.mk (ht.blk BX6.out NGC.out); clear hh ht; have hz0 : w7.cell? ⟨gc, 0, none⟩ = some (.string key) := (blk_cell BX7.out 0).trans rfl; have hz1 : w7.cell? ⟨gc, 1, none⟩ = some (.string (⟨#[]⟩ : ByteArray)) := (blk_cell BX7.out 1).trans rfl; have hz2 : w7.cell? ⟨gc, 2, none⟩ = some (.bool false) := (blk_cell BX7.out 2).trans rfl; have hf1 := blk_frozen BX7.out 1; have hf2 := blk_frozen BX7.out 2) | ((with_reducible refine gate_builtin (b := .append) (xs := #[.tmp 37, .tmp 39]) rfl ?_); at_builtin; have HR8 := Aside0.mk (Rdr.mk (w0 := w) ((HR7.out.below.setCell (p := ⟨gc, 2, none⟩) HGC.out (.bool (g == 1))).setCell (p := ⟨gc, 1, none⟩) HGC.out (.string val)) HR7.out.hb (blk_far (p := ⟨gc, 1, none⟩) (blk_far (p := ⟨gc, 2, none⟩) HR7.out.box (Ne.symm NGC.out) (.bool (g == 1))) (Ne.symm NGC.out) (.string val)) HR.out HC.out); have HO8 := Aside0.mk (Kd.R_mono (Kd.R_far (p := ⟨gc, 1, none⟩) (Kd.R_far (p := ⟨gc, 2, none⟩) HO7.out (fun _ hk => by have := L3.out; show _ ≠ gc; omega) (.bool (g == 1))) (fun _ hk => by have := L3.out; show _ ≠ gc; omega) (.string val)) (ok' := fun _ => True) (fun _ _ => trivial)); go_loud (refine Kd.R_append k37 (w0 := w) w.heap.size rfl (.tmp 37) (.tmp 39) 25 37 (.agg #[(.string ⟨#[]⟩), (.string ⟨#[]⟩), (.bool false)]) 40 rfl Try.underlying25 info37 rfl (by decide) (by omega) u5 out (⟨key, val, g == 1⟩ : S37) [.string key, .string val, .bool (g == 1)] (fun _ => True) (fun _ => False) rfl (by first | (go_simp; done) | (go_simp; rfl)) ?aP (fun _ hk => hk.elim) ?aF ?aO ?aB ?aS ?aL ?_; (case aP => exact k37_mkM _ _ _ _); (case aB => exact HR8.out.below); (case aF => exact (fun _ _ => trivial)); (case aO => exact HO8.out); (case aS => exact HR8.out.below.size); (case aL => have := HOL.out; omega); intro v9 w9 ho hb hg hat; have HO9 := Aside0.mk ho; have HR9 := Aside0.mk (Rdr.mk (w0 := w) hb HR8.out.hb ((hg.block gr (blk_lt HR8.out.box) (Kd.R_ne HO8.out HR8.out.box (by decide))).trans HR8.out.box) HR.out HC.out); clear ho hb hg hat)))
          go_roundg kq
          case measure => omega
          case rel => exact ⟨wrap64 (n - 1), a3, e4, _, by first | rfl | simp, HR9, HO9, HUR2, ⟨by have := HKQ.out; omega⟩⟩
      · rw [if_neg hgo] at hur
        obtain rfl := Option.some.inj hur
        have hee := HE.out
        unfold endL at hee
        by_cases he0 : e = 0
        · have hn0 : ¬ n > 0 := fun h => hgo ⟨h, he0⟩
          rw [if_pos he0] at hee
          subst he0
          have q1 : decide (n > 0) = false := decide_eq_false hn0
          have f2 := blk_frozen HRD.out.box 2
          by_cases ha : a = (bs.length : Int)
          · rw [if_pos ha] at hee
            obtain ⟨b, hb, hee⟩ := Option.bind_eq_some_iff.1 hee
            obtain ⟨Ao, co, ev5, hco, hCo⟩ := Kd.R_reads HO.out
            subst ev5
            have q2 : (a == (bs.length : Int)) = true := beq_iff_eq.2 ha
            have q3 : (a != (bs.length : Int)) = false := by simp [bne, q2]
            have HRI := Aside0.mk (run_Right.calls k Ao co out b wr hCo hco hb)
            cases b with
            | true =>
              simp only [if_true, Option.some.injEq, Prod.mk.injEq] at hee
              obtain ⟨rfl, rfl⟩ := hee
              clear hgo hn0 ha hb hur hCo hco
              go_wp2_with (first | (go_at_call 28; (with_reducible refine HRI.out.mono ?_); rintro en w5 ⟨rfl, hb⟩; have HB5 := Aside0.mk hb; have c25 : w5.cell? ⟨gr, 2, none⟩ = some (.int .i64 0) := (blk_cell (blk_below HRD.out.box hb) 2).trans rfl; clear hb))
              go_ret2
              exact ⟨_, rfl, Kd.R_below HO.out HB5.out, below_step HRD.out.below HB5.out⟩
            | false =>
              simp only [Bool.false_eq_true, if_false, Option.some.injEq, Prod.mk.injEq] at hee
              obtain ⟨rfl, rfl⟩ := hee
              clear hgo hn0 ha hb hur hCo hco
              go_wp2_with (first | (go_at_call 28; (with_reducible refine HRI.out.mono ?_); rintro en w5 ⟨rfl, hb⟩; have HR5 := Aside0.mk ((HRD.out.later hb).err 3); have c25 : w5.cell? ⟨gr, 2, none⟩ = some (.int .i64 0) := (blk_cell (blk_below HRD.out.box hb) 2).trans rfl; have f25 := blk_frozen (blk_below HRD.out.box hb) 2; clear hb))
              go_quiet (fail)
              go_wp2
              go_ret2
              exact ⟨_, rfl, Kd.R_nil _ _ _ _ _, pw_below_drewN HR5.out.below _⟩
          · rw [if_neg ha] at hee
            simp only [Option.some.injEq, Prod.mk.injEq] at hee
            obtain ⟨rfl, rfl⟩ := hee
            have q2 : (a == (bs.length : Int)) = false := beq_eq_false_iff_ne.2 ha
            have q3 : (a != (bs.length : Int)) = true := by simp [bne, q2]
            have HR5 := Aside0.mk (HRD.out.err 3)
            clear hgo hn0 ha hur
            go_wp2
            go_quiet (fail)
            go_wp2
            go_ret2
            exact ⟨_, rfl, Kd.R_nil _ _ _ _ _, pw_below_drewN HR5.out.below _⟩
        · rw [if_neg he0] at hee
          simp only [Option.some.injEq, Prod.mk.injEq] at hee
          obtain ⟨rfl, rfl⟩ := hee
          have q2 : (e == 0) = false := beq_eq_false_iff_ne.2 he0
          have q3 : (e != 0) = true := bne_iff_ne.2 he0
          clear hgo hur he0
          cases q1 : decide (n > 0) with
          | true =>
            go_wp2
            go_quiet (fail)
            go_wp2
            go_ret2
            exact ⟨_, rfl, Kd.R_nil _ _ _ _ _, pw_below_drewN HRD.out.below _⟩
          | false =>
            go_wp2
            go_quiet (fail)
            go_wp2
            go_ret2
            exact ⟨_, rfl, Kd.R_nil _ _ _ _ _, pw_below_drewN HRD.out.below _⟩
end Go.Proofs.Ytkkfkccfnfjbiaa.Jb
