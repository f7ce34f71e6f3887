/- DERIVED. OutboxLatest: its code walked. Conditions: those that each lemma names. -/
import Derived.Test.YtdaikljbljcagaaMm
import Derived.Test.YtdaikljbljcagaaUi
import Derived.Test.YtdaikljbljcagaaPAllx18
import Derived.Test.YtdaikljbljcagaaPAllx17
import Derived.Test.YtdaikljbljcagaaPAllx16
import Derived.Test.YtdaikljbljcagaaPAllx15
namespace Go.Proofs.Ytdaikljbljcagaa.Mn
open Go Go.RowKit Go.Proofs.Ytdaikljbljcagaa.PAll Go.Proofs.YtdaikljbljcagaaW.PrintWords Go.Proofs.YtdaikljbljcagaaW.PrintLast Go.Proofs.Ytdaikljbljcagaa.Hl Go.Proofs.Ytdaikljbljcagaa.Fv Go.Proofs.Ytdaikljbljcagaa.Mc Go.Proofs.Ytdaikljbljcagaa.Me Go.Proofs.Ytdaikljbljcagaa.Mf Go.Proofs.Ytdaikljbljcagaa.Mj Go.Proofs.Ytdaikljbljcagaa.Mm Go.Proofs.Ytdaikljbljcagaa.Nc Go.Proofs.Ytdaikljbljcagaa.Pn
set_option linter.unusedSimpArgs false
set_option linter.unusedVariables false
theorem drawn_below {w w' : World} (h : Drawn0 w w') : Below w.heap.size w w' := h.below
theorem sz29 : (Option.get (Try.prog.info? 29) (by kernel_rfl)).size = 3 := by kernel_rfl
theorem cells3 {w w' : World} {a b c : Addr} {x y z : Value} (h : w.cell? a = some x ∧ w.cell? b = some y ∧ w.cell? c = some z) (hb : Below w.heap.size w w') : w'.cell? a = some x ∧ w'.cell? b = some y ∧ w'.cell? c = some z :=
  ⟨pw_cell_below hb h.1, pw_cell_below hb h.2.1, pw_cell_below hb h.2.2⟩
set_option maxHeartbeats 16000000 in
set_option maxRecDepth 100000 in
theorem latest_law (k : Nat) (w : World) (A : Option Addr) (c : Nat) (l : List S29) (at_ : Int) (hC : Kd.C k29 w A l.length l) (hc : l.length ≤ c) (lb : Bool) (hl : shelfmarkref18_Light.f k l 60 = some lb)
    (x y x2 t1 t2 : List S29) (h : lb = true → l.length ≤ 60 ∧ Latest_f k l = some x ∧ shelfmarkref18_Latest.f k l = some y ∧ shelfmarkref13_SameIntents.f k x y = some true ∧ Latest_f k x = some x2 ∧ shelfmarkref13_SameIntents.f k x2 x = some true ∧ (∀ j (h : j < l.length), shelfmarkref18_Named.f k (onceF (l.take j)) l[j].f0 l[j].f1 l[j].f2 = some (namedIn (onceF (l.take j)) l[j])) ∧ Latest_f k (turnF at_ (onceF l)) = some t1 ∧ Latest_f k (onceF l) = some t2 ∧ shelfmarkref13_SameIntents.f k t1 t2 = some true) :
    Calls Try.prog 3 #[.slice A l.length c, .int .i64 at_] w fun en w' => en = .returned (.bool true) ∧ Below w.heap.size w w' := by
  have hu29 := Try.underlying29
  have mixed : Try.prog.follows Departure.mixedOrders = true := by kernel_rfl
  have HC := Aside0.mk hC
  have HCC := Aside0.mk hc
  have HL := Aside0.mk hl
  clear hC hc hl
  cases lb with
  | false =>
    clear h
    go_enter Try.func3, Try.ntmps3
    go_wp2_with (first
          | ((with_reducible refine gate_callee (f := 7) rfl ?_); (try (refine gate_guard (by rfl) ?_; dsimp only)); refine goesL_ (some 9) rfl rfl Try.func7 (by kernel_rfl) rfl #[] rfl (by (try simp only [List.map_toArray, List.map_cons, List.map_nil]); first | done | rfl) ?_; (refine (awake_v w).mono ?_); rintro en w1 ⟨rfl, hb_⟩; refine ⟨_, rfl, ?_⟩; have HB1 := Aside0.mk hb_; clear hb_)
          | ((with_reducible refine gate_callee (f := 8) rfl ?_); (try (refine gate_guard (by rfl) ?_; dsimp only)); refine goesL_ (some 12) rfl rfl Try.func8 (by kernel_rfl) rfl #[.slice A l.length c, .int .i64 60] rfl (by (try simp only [List.map_toArray, List.map_cons, List.map_nil]); first | done | rfl) ?_; (refine (shelfmarkref18_Light.calls k A c l 60 false w1 (Kd.C_below HC.out HB1.out) HCC.out HL.out).mono ?_); rintro en w2 ⟨rfl, hd_⟩; refine ⟨_, rfl, ?_⟩; have HB2 := Aside0.mk (below_step HB1.out (drawn_below hd_)); clear hd_))
    go_ret
    exact ⟨rfl, HB2.out⟩
  | true =>
    obtain ⟨h0, h1, h2, h3, h4, h5, h6, h7, h8, h9⟩ := h rfl
    have LZ := Aside0.mk h0
    have FX := Aside0.mk h1
    have FY := Aside0.mk h2
    have FS1 := Aside0.mk h3
    have FX2 := Aside0.mk h4
    have FS2 := Aside0.mk h5
    have FNA := Aside0.mk h6
    have FT1_ := Aside0.mk h7
    have FT2_ := Aside0.mk h8
    have FS3 := Aside0.mk h9
    clear h h0 h1 h2 h3 h4 h5 h6 h7 h8 h9
    go_enter Try.func3, Try.ntmps3
    go_wp2_with (first
          | ((with_reducible refine gate_callee (f := 7) rfl ?_); (try (refine gate_guard (by rfl) ?_; dsimp only)); refine goesL_ (some 9) rfl rfl Try.func7 (by kernel_rfl) rfl #[] rfl (by (try simp only [List.map_toArray, List.map_cons, List.map_nil]); first | done | rfl) ?_; (refine (awake_v w).mono ?_); rintro en w1 ⟨rfl, hb_⟩; refine ⟨_, rfl, ?_⟩; have HB1 := Aside0.mk hb_; clear hb_)
          | ((with_reducible refine gate_callee (f := 8) rfl ?_); (try (refine gate_guard (by rfl) ?_; dsimp only)); refine goesL_ (some 12) rfl rfl Try.func8 (by kernel_rfl) rfl #[.slice A l.length c, .int .i64 60] rfl (by (try simp only [List.map_toArray, List.map_cons, List.map_nil]); first | done | rfl) ?_; (refine (shelfmarkref18_Light.calls k A c l 60 true w1 (Kd.C_below HC.out HB1.out) HCC.out HL.out).mono ?_); rintro en w2 ⟨rfl, hd_⟩; refine ⟨_, rfl, ?_⟩; have HB2 := Aside0.mk (below_step HB1.out (drawn_below hd_)); clear hd_)
          | ((with_reducible refine gate_callee (f := 9) rfl ?_); (try (refine gate_guard (by rfl) ?_; dsimp only)); refine goesL_ (some 15) rfl rfl Try.func9 (by kernel_rfl) rfl #[.slice A l.length c] rfl (by (try simp only [List.map_toArray, List.map_cons, List.map_nil]); first | done | rfl) ?_; (refine (latest_v k A c l x w2 (Kd.C_below HC.out HB2.out) HCC.out FX.out).mono ?_); rintro en w3 ⟨v_, rfl, hc_, hb_⟩; obtain ⟨Ax, hv_, hC_⟩ := cl_open hc_; subst hv_; refine ⟨_, rfl, ?_⟩; have HAx := Aside0.mk hC_; have HB3 := Aside0.mk (below_step HB2.out hb_); clear hc_ hb_ hC_)
          | ((with_reducible refine gate_callee (f := 11) rfl ?_); (try (refine gate_guard (by rfl) ?_; dsimp only)); refine goesL_ (some 18) rfl rfl Try.func11 (by kernel_rfl) rfl #[.slice A l.length c] rfl (by (try simp only [List.map_toArray, List.map_cons, List.map_nil]); first | done | rfl) ?_; (refine (shelfmarkref18_Latest.calls k A c l y w3 (Kd.C_below HC.out HB3.out) HCC.out FY.out).mono ?_); rintro en w4 ⟨v_, rfl, hR_, hb_⟩; obtain ⟨Ay, cy, hv_⟩ := Kd.R_slice hR_; subst hv_; refine ⟨_, rfl, ?_⟩; have HY := Aside0.mk (Kd.R_reads' hR_).2.2; have HYC := Aside0.mk (Kd.R_reads' hR_).2.1; have HB4 := Aside0.mk (below_step HB3.out hb_); have HAx4 := Aside0.mk (Kd.C_below HAx.out hb_); clear hR_ hb_)
          | ((with_reducible refine gate_callee (f := 10) rfl ?_); (try (refine gate_guard (by rfl) ?_; dsimp only)); refine goesL_ (some 19) rfl rfl Try.func10 (by kernel_rfl) rfl #[.slice Ax x.length x.length, .slice Ay y.length cy] rfl (by (try simp only [List.map_toArray, List.map_cons, List.map_nil]); first | done | rfl) ?_; (refine (shelfmarkref13_SameIntents.calls k Ax x.length x Ay cy y true w4 HAx4.out (Nat.le_refl _) HY.out HYC.out FS1.out).mono ?_); rintro en w5 ⟨rfl, hd_⟩; refine ⟨_, rfl, ?_⟩; have hb_ := drawn_below hd_; have HB5 := Aside0.mk (below_step HB4.out hb_); have HAx5 := Aside0.mk (Kd.C_below HAx4.out hb_); clear hb_ hd_)
          | ((with_reducible refine gate_callee (f := 9) rfl ?_); (try (refine gate_guard (by rfl) ?_; dsimp only)); refine goesL_ (some 23) rfl rfl Try.func9 (by kernel_rfl) rfl #[.slice Ax x.length x.length] rfl (by (try simp only [List.map_toArray, List.map_cons, List.map_nil]); first | done | rfl) ?_; (refine (latest_v k Ax x.length x x2 w5 HAx5.out (Nat.le_refl _) FX2.out).mono ?_); rintro en w6 ⟨v_, rfl, hc_, hb_⟩; obtain ⟨Az, hv_, hC_⟩ := cl_open hc_; subst hv_; refine ⟨_, rfl, ?_⟩; have HAz := Aside0.mk hC_; have HB6 := Aside0.mk (below_step HB5.out hb_); have HAx6 := Aside0.mk (Kd.C_below HAx5.out hb_); clear hc_ hb_ hC_)
          | ((with_reducible refine gate_callee (f := 10) rfl ?_); (try (refine gate_guard (by rfl) ?_; dsimp only)); refine goesL_ (some 25) rfl rfl Try.func10 (by kernel_rfl) rfl #[.slice Az x2.length x2.length, .slice Ax x.length x.length] rfl (by (try simp only [List.map_toArray, List.map_cons, List.map_nil]); first | done | rfl) ?_; (refine (shelfmarkref13_SameIntents.calls k Az x2.length x2 Ax x.length x true w6 HAz.out (Nat.le_refl _) HAx6.out (Nat.le_refl _) FS2.out).mono ?_); rintro en w7 ⟨rfl, hd_⟩; refine ⟨_, rfl, ?_⟩; have hb_ := drawn_below hd_; have HB7 := Aside0.mk (below_step HB6.out hb_); clear hb_ hd_))
    have HB := HB7
    clear HB1 HB2 HB3 HB4 HB5 HB6 HB7 HAx HAx4 HAx5 HAx6 HAz HY HYC FX FY FS1 FX2 FS2 HL
    go_loopg [6, 8] l.length (fun kq v6 v8 wr => ∃ (j : Nat) (AO : Option Addr) (cO : Nat), v8 = .int .i64 (j : Int) ∧ v6 = .slice AO (onceF (l.take j)).length cO ∧ Aside0 (j ≤ l.length ∧ l.length - j ≤ kq) ∧ Aside0 (Below w.heap.size w wr) ∧ Aside0 (Kd.R k29 29 wr w.heap.size (fun _ => True) (.slice AO (onceF (l.take j)).length cO) (onceF (l.take j))))
    case atStart => exact ⟨0, none, 0, rfl, rfl, ⟨Nat.zero_le _, Nat.le_refl _⟩, HB, ⟨Kd.R_nil _ _ _ _ _⟩⟩
    case round =>
      obtain ⟨j, AO, cO, rfl, rfl, HI, HBr, HOr⟩ := hrel
      by_cases hlt : j < l.length
      · obtain ⟨ad, hA, hx⟩ := at_T29 (Kd.C_below HC.out HBr.out) (j : Int) (by omega) (by omega)
        rw [rd29_at l j hlt, Int.toNat_natCast] at hx
        obtain ⟨p_, hp_⟩ : ∃ p_, p_ = l[j] := ⟨_, rfl⟩
        obtain ⟨o, ho⟩ : ∃ o, o = onceF (l.take j) := ⟨_, rfl⟩
        obtain ⟨bb, hbb⟩ : ∃ bb, bb = namedIn o p_ := ⟨_, rfl⟩
        have FN := Aside0.mk (show shelfmarkref18_Named.f k o p_.f0 p_.f1 p_.f2 = some bb by rw [hbb, ho, hp_]; exact FNA.out j hlt)
        have HS := Aside0.mk (show onceF (l.take (j + 1)) = if bb = true then o else o ++ [p_] by rw [List.take_add_one, List.getElem?_eq_getElem hlt, Option.toList_some, onceF_snoc, hbb, hp_, ho])
        have LO := Aside0.mk (show o.length ≤ l.length by rw [ho]; exact Nat.le_trans (onceF_len _) (by rw [List.length_take]; omega))
        rw [← ho] at HOr ⊢
        rw [← hp_] at hx
        have HX := Aside0.mk hx
        obtain ⟨hx0, hx1, hx2⟩ := hx
        have q1 : decide ((j : Int) < (l.length : Int)) = true := decide_eq_true (by omega)
        have q2 : (j : Int) < (l.length : Int) := by omega
        have HIL := Aside0.mk (show j < l.length from hlt)
        subst hA
        clear hp_ hlt ho hbb
        cases bb with
        | true =>
          go_wp2_with (first
                | ((with_reducible refine gate_callee (f := 12) rfl ?_); refine goesL_ (some 39) rfl rfl Try.func12 (by kernel_rfl) rfl #[.slice AO o.length cO, .agg #[.string p_.f0, .int .i64 p_.f1, .bool p_.f2]] rfl (by (try simp only [List.map_toArray, List.map_cons, List.map_nil]); first | done | rfl) ?_; (refine (shelfmarkref18_Named.calls k AO cO o p_.f0 p_.f1 p_.f2 true wr (Kd.R_reads' HOr.out).2.2 (Kd.R_reads' HOr.out).2.1 FN.out).mono ?_); rintro en wq ⟨rfl, hb_⟩; refine ⟨_, rfl, ?_⟩; have HBq := Aside0.mk (below_step HBr.out hb_); have HOq := Aside0.mk (Kd.R_below HOr.out hb_); obtain ⟨hz0, hz1, hz2⟩ := (show (wq.cell? (ad.add (j * 3)) = some (.string p_.f0) ∧ wq.cell? ⟨(ad.add (j * 3)).block, (ad.add (j * 3)).off + 1, none⟩ = some (.int .i64 p_.f1) ∧ wq.cell? ⟨(ad.add (j * 3)).block, (ad.add (j * 3)).off + 2, none⟩ = some (.bool p_.f2)) from cells3 HX.out hb_); clear hb_ hx0 hx1 hx2))
          go_roundg (l.length - (j + 1))
          case measure => have := HI.out.2; have := HIL.out; omega
          case rel => exact ⟨j + 1, AO, cO, by first | rfl | (congr 1; exact Go.IntWalk.wrap64_in _ (by have h1 := LZ.out; have h2 := HIL.out; omega)), by rw [HS.out]; rfl, ⟨HIL.out, Nat.le_refl _⟩, HBq, ⟨by rw [HS.out]; exact HOq.out⟩⟩
        | false =>
          have HS3 := Aside0.mk (show onceF (l.take (j + 1)) = o ++ [p_] by rw [HS.out]; rfl)
          go_wp2_with (first
                | ((with_reducible refine gate_callee (f := 12) rfl ?_); refine goesL_ (some 39) rfl rfl Try.func12 (by kernel_rfl) rfl #[.slice AO o.length cO, .agg #[.string p_.f0, .int .i64 p_.f1, .bool p_.f2]] rfl (by (try simp only [List.map_toArray, List.map_cons, List.map_nil]); first | done | rfl) ?_; (refine (shelfmarkref18_Named.calls k AO cO o p_.f0 p_.f1 p_.f2 false wr (Kd.R_reads' HOr.out).2.2 (Kd.R_reads' HOr.out).2.1 FN.out).mono ?_); rintro en wq ⟨rfl, hb_⟩; refine ⟨_, rfl, ?_⟩; have HBq := Aside0.mk (below_step HBr.out hb_); have HOq := Aside0.mk (Kd.R_below HOr.out hb_); obtain ⟨hz0, hz1, hz2⟩ := (show (wq.cell? (ad.add (j * 3)) = some (.string p_.f0) ∧ wq.cell? ⟨(ad.add (j * 3)).block, (ad.add (j * 3)).off + 1, none⟩ = some (.int .i64 p_.f1) ∧ wq.cell? ⟨(ad.add (j * 3)).block, (ad.add (j * 3)).off + 2, none⟩ = some (.bool p_.f2)) from cells3 HX.out hb_); clear hb_ hx0 hx1 hx2)
                | ((with_reducible refine gate_builtin (b := .append) (xs := #[.tmp 41, .tmp 46]) rfl ?_); at_builtin; refine Kd.R_append k29 (w0 := w) w.heap.size rfl (.tmp 41) (.tmp 46) 22 29 (.agg #[(.string ⟨#[]⟩), (.int .i64 0), (.bool false)]) 32 rfl Try.underlying22 info29 rfl (by decide) (by omega) (.slice AO o.length cO) o p_ [.string p_.f0, .int .i64 p_.f1, .bool p_.f2] (fun _ => True) (fun _ => False) rfl rfl ?aP (fun _ hk => hk.elim) ?aF ?aO ?aB ?aS ?aL ?_; (case aP => exact k29_mkM _ _ _ p_); (case aB => exact HBq.out); (case aF => exact (fun _ _ => trivial)); (case aO => exact HOq.out); (case aS => exact HBq.out.size); (case aL => have h1 := LO.out; have h2 := LZ.out; omega); intro v1 w1 ho_ hb_ hg_ hat_; obtain ⟨A1, c1, hv_⟩ := Kd.R_slice ho_; subst hv_; have HN1 := Aside0.mk ho_; have HB1_ := Aside0.mk hb_; clear ho_ hb_ hg_ hat_))
          go_roundg (l.length - (j + 1))
          case measure => have := HI.out.2; have := HIL.out; omega
          case rel => exact ⟨j + 1, A1, c1, by first | rfl | (congr 1; exact Go.IntWalk.wrap64_in _ (by have h1 := LZ.out; have h2 := HIL.out; omega)), by first | (rw [HS3.out]; done) | (rw [HS3.out, List.length_append]; rfl), ⟨HIL.out, Nat.le_refl _⟩, HB1_, ⟨by rw [HS3.out]; exact HN1.out⟩⟩
      · obtain rfl : j = l.length := by have := HI.out.1; omega
        have q1 : decide ((l.length : Int) < (l.length : Int)) = false := decide_eq_false (by omega)
        rw [List.take_length] at HOr ⊢
        obtain ⟨o, ho⟩ : ∃ o, o = onceF l := ⟨_, rfl⟩
        have LO := Aside0.mk (show o.length ≤ l.length by rw [ho]; exact onceF_len _)
        obtain ⟨a, ha⟩ : ∃ a, a = turnN at_ o.length := ⟨_, rfl⟩
        have HAL := Aside0.mk (show a ≤ o.length by rw [ha]; exact turnN_le _ _)
        obtain ⟨dr, hdr⟩ : ∃ dr, dr = o.drop a := ⟨_, rfl⟩
        obtain ⟨tk, htk⟩ : ∃ tk, tk = o.take a := ⟨_, rfl⟩
        have HDK := Aside0.mk hdr
        have HTK := Aside0.mk htk
        have HDL := Aside0.mk (show dr.length = o.length - a by rw [hdr, List.length_drop])
        have HTL := Aside0.mk (show tk.length = a by rw [htk, List.length_take]; have := HAL.out; omega)
        have LD := Aside0.mk (show dr.length ≤ o.length ∧ tk.length ≤ o.length ∧ dr.length + tk.length ≤ o.length by have := HDL.out; have := HTL.out; have := HAL.out; omega)
        have FT1 := Aside0.mk (show Latest_f k (dr ++ tk) = some t1 by
          have := FT1_.out
          unfold turnF at this
          rw [← ho, ← ha, ← hdr, ← htk] at this
          exact this)
        have FT2 := Aside0.mk (show Latest_f k o = some t2 by rw [ho]; exact FT2_.out)
        rw [← ho] at HOr ⊢
        have HOe := HOr
        have HBe := HBr
        obtain ⟨we, hwe⟩ : ∃ we, we = wr := ⟨_, rfl⟩
        rw [← hwe] at HOe HBe ⊢
        clear hlt HI HOr HBr ho hdr htk FT1_ FT2_ FNA hwe HB
        unfold turnN at ha
        by_cases h1 : at_ < 0
        · rw [if_pos h1] at ha
          have q3 : decide (at_ < 0) = true := decide_eq_true h1
          have q4 : ((a : Int)) = 0 := by rw [ha]; rfl
          have hcf := cut_from (P := Try.prog) 22 29 .i64 Try.underlying22 hi29 3 sz29 AO o.length cO (a : Int) (by omega) (by have := HAL.out; omega)
          rw [Int.toNat_natCast] at hcf
          have hct := cut_to (P := Try.prog) 22 29 .i64 Try.underlying22 hi29 AO o.length cO (a : Int) (by omega) (by have := HAL.out; omega) (Kd.R_reads' HOe.out).2.1
          rw [Int.toNat_natCast] at hct
          replace hct : ∀ W : World, (Instr.slice 22 (.slice AO o.length cO) none (some (.int .i64 (a : Int))) none).run Try.prog W = .ok (.slice AO tk.length cO) W := by rw [HTL.out]; exact hct
          rw [← HDL.out] at hcf
          obtain ⟨AD, hAD⟩ : ∃ AD, AD = (if cO = a then AO else AO.map (·.add (a * 3))) := ⟨_, rfl⟩
          rw [← hAD] at hcf
          have HDR := Aside0.mk (show Kd.C k29 we AD dr.length dr by rw [HDK.out, hAD]; exact Kd.C_drop (Kd.R_reads' HOe.out).2.2 HAL.out (Kd.R_reads' HOe.out).2.1)
          clear hAD
          rw [q4] at hcf hct; clear ha q4
          go_wp2_with (first
                | ((with_reducible refine gate_builtin (b := .append) (xs := #[.tmp 56, .tmp 59]) rfl ?_); at_builtin; refine Kd.R_append_rows k29 (w0 := w) w.heap.size rfl (.tmp 56) (.tmp 59) 22 29 (.agg #[(.string ⟨#[]⟩), (.int .i64 0), (.bool false)]) 32 rfl Try.underlying22 info29 rfl (by decide) (by omega) (.slice none 0 0) [] dr AD dr.length (cO - a) (fun _ => True) (fun _ => False) rfl rfl ?aO ?aR (fun _ _ h => h) (fun _ h => h.elim) ?aF ?aB ?aS ?aL ?_; (case aR => exact HDR.out); (case aB => exact HBe.out); (case aF => exact (fun _ _ => trivial)); (case aO => exact (Kd.R_nil _ _ _ _ _)); (case aS => exact HBe.out.size); (case aL => have h1 := LO.out; have h2 := LZ.out; have h3 := LD.out; (try simp only [List.length_nil]); omega); intro v_ u1 ho_ hb_ hg_ hat_; (try rw [List.nil_append] at ho_); obtain ⟨AT, cT, hv_⟩ := Kd.R_slice ho_; subst hv_; have HT1 := Aside0.mk ho_; have HBu1 := Aside0.mk hb_; have HOu := Aside0.mk (Kd.R_grown2 HOe.out rfl hg_ (fun k_ hk_ => by cases hk_)); have HAP := Aside0.mk (apart_app (u := .slice none 0 0) (fun k_ hk_ => by cases hk_) HBe.out.size HOe.out hat_); clear ho_ hb_ hg_ hat_)
                | ((with_reducible refine gate_builtin (b := .append) (xs := #[.tmp 61, .tmp 64]) rfl ?_); at_builtin; refine Kd.R_append_rows k29 (w0 := w) w.heap.size rfl (.tmp 61) (.tmp 64) 22 29 (.agg #[(.string ⟨#[]⟩), (.int .i64 0), (.bool false)]) 32 rfl Try.underlying22 info29 rfl (by decide) (by omega) (.slice AT dr.length cT) dr tk AO tk.length cO (fun _ => True) (fun _ => False) rfl rfl ?aO ?aR (fun _ _ h => h) (fun _ h => h.elim) ?aF ?aB ?aS ?aL ?_; (case aR => exact (by rw [HTK.out]; exact Kd.C_take (Kd.R_reads' HOu.out).2.2 HAL.out)); (case aB => exact HBu1.out); (case aF => exact (fun _ _ => trivial)); (case aO => exact HT1.out); (case aS => exact HBu1.out.size); (case aL => have h1 := LO.out; have h2 := LZ.out; have h3 := LD.out; (try simp only [List.length_nil]); omega); intro v_ u2 ho_ hb_ hg_ hat_; (try rw [List.nil_append] at ho_); obtain ⟨tt, htt⟩ : ∃ tt, tt = dr ++ tk := ⟨_, rfl⟩; rw [← htt] at ho_; have FT1t := Aside0.mk (show Latest_f k tt = some t1 by rw [htt]; exact FT1.out); clear htt; obtain ⟨AU, cU, hv_⟩ := Kd.R_slice ho_; subst hv_; have HT2 := Aside0.mk ho_; have HBu2 := Aside0.mk hb_; have HOv := Aside0.mk (Kd.R_grown2 HOu.out rfl hg_ (fun k_ hk_ e_ => HAP.out k_ hk_ e_.symm)); clear ho_ hb_ hg_ hat_)
                | ((with_reducible refine gate_callee (f := 9) rfl ?_); (try (refine gate_guard (by rfl) ?_; dsimp only)); refine goesL_ (some 67) rfl rfl Try.func9 (by kernel_rfl) rfl #[.slice AU tt.length cU] rfl (by (try simp only [List.map_toArray, List.map_cons, List.map_nil]); first | done | rfl) ?_; (refine (latest_v k AU cU tt t1 u2 (Kd.R_reads' HT2.out).2.2 (Kd.R_reads' HT2.out).2.1 FT1t.out).mono ?_); rintro en u3 ⟨v_, rfl, hc_, hb_⟩; obtain ⟨Ap, hv_, hC_⟩ := cl_open hc_; subst hv_; refine ⟨_, rfl, ?_⟩; have HAp := Aside0.mk hC_; have HBu3 := Aside0.mk (below_step HBu2.out hb_); have HOw := Aside0.mk (Kd.R_below HOv.out hb_); clear hc_ hb_ hC_)
                | ((with_reducible refine gate_callee (f := 9) rfl ?_); (try (refine gate_guard (by rfl) ?_; dsimp only)); refine goesL_ (some 69) rfl rfl Try.func9 (by kernel_rfl) rfl #[.slice AO o.length cO] rfl (by (try simp only [List.map_toArray, List.map_cons, List.map_nil]); first | done | rfl) ?_; (refine (latest_v k AO cO o t2 u3 (Kd.R_reads' HOw.out).2.2 (Kd.R_reads' HOw.out).2.1 FT2.out).mono ?_); rintro en u4 ⟨v_, rfl, hc_, hb_⟩; obtain ⟨Aq, hv_, hC_⟩ := cl_open hc_; subst hv_; refine ⟨_, rfl, ?_⟩; have HAq := Aside0.mk hC_; have HBu4 := Aside0.mk (below_step HBu3.out hb_); have HAp4 := Aside0.mk (Kd.C_below HAp.out hb_); clear hc_ hb_ hC_)
                | ((with_reducible refine gate_callee (f := 10) rfl ?_); (try (refine gate_guard (by rfl) ?_; dsimp only)); refine goesL_ (some 70) rfl rfl Try.func10 (by kernel_rfl) rfl #[.slice Ap t1.length t1.length, .slice Aq t2.length t2.length] rfl (by (try simp only [List.map_toArray, List.map_cons, List.map_nil]); first | done | rfl) ?_; (refine (shelfmarkref13_SameIntents.calls k Ap t1.length t1 Aq t2.length t2 true u4 HAp4.out (Nat.le_refl _) HAq.out (Nat.le_refl _) FS3.out).mono ?_); rintro en u5 ⟨rfl, hd_⟩; refine ⟨_, rfl, ?_⟩; have hb_ := drawn_below hd_; have HBu5 := Aside0.mk (below_step HBu4.out hb_); clear hb_ hd_))
          go_ret
          exact ⟨rfl, HBu5.out⟩
        · rw [if_neg h1] at ha
          have q3 : decide (at_ < 0) = false := decide_eq_false h1
          by_cases h2 : at_ > (o.length : Int)
          · rw [if_pos h2] at ha
            have q4 : decide (at_ > (o.length : Int)) = true := decide_eq_true h2
            have q5 : ((a : Int)) = 0 := by rw [ha]; rfl
            have hcf := cut_from (P := Try.prog) 22 29 .i64 Try.underlying22 hi29 3 sz29 AO o.length cO (a : Int) (by omega) (by have := HAL.out; omega)
            rw [Int.toNat_natCast] at hcf
            have hct := cut_to (P := Try.prog) 22 29 .i64 Try.underlying22 hi29 AO o.length cO (a : Int) (by omega) (by have := HAL.out; omega) (Kd.R_reads' HOe.out).2.1
            rw [Int.toNat_natCast] at hct
            replace hct : ∀ W : World, (Instr.slice 22 (.slice AO o.length cO) none (some (.int .i64 (a : Int))) none).run Try.prog W = .ok (.slice AO tk.length cO) W := by rw [HTL.out]; exact hct
            rw [← HDL.out] at hcf
            obtain ⟨AD, hAD⟩ : ∃ AD, AD = (if cO = a then AO else AO.map (·.add (a * 3))) := ⟨_, rfl⟩
            rw [← hAD] at hcf
            have HDR := Aside0.mk (show Kd.C k29 we AD dr.length dr by rw [HDK.out, hAD]; exact Kd.C_drop (Kd.R_reads' HOe.out).2.2 HAL.out (Kd.R_reads' HOe.out).2.1)
            clear hAD
            rw [q5] at hcf hct; clear ha q5
            go_wp2_with (first
                  | ((with_reducible refine gate_builtin (b := .append) (xs := #[.tmp 56, .tmp 59]) rfl ?_); at_builtin; refine Kd.R_append_rows k29 (w0 := w) w.heap.size rfl (.tmp 56) (.tmp 59) 22 29 (.agg #[(.string ⟨#[]⟩), (.int .i64 0), (.bool false)]) 32 rfl Try.underlying22 info29 rfl (by decide) (by omega) (.slice none 0 0) [] dr AD dr.length (cO - a) (fun _ => True) (fun _ => False) rfl rfl ?aO ?aR (fun _ _ h => h) (fun _ h => h.elim) ?aF ?aB ?aS ?aL ?_; (case aR => exact HDR.out); (case aB => exact HBe.out); (case aF => exact (fun _ _ => trivial)); (case aO => exact (Kd.R_nil _ _ _ _ _)); (case aS => exact HBe.out.size); (case aL => have h1 := LO.out; have h2 := LZ.out; have h3 := LD.out; (try simp only [List.length_nil]); omega); intro v_ u1 ho_ hb_ hg_ hat_; (try rw [List.nil_append] at ho_); obtain ⟨AT, cT, hv_⟩ := Kd.R_slice ho_; subst hv_; have HT1 := Aside0.mk ho_; have HBu1 := Aside0.mk hb_; have HOu := Aside0.mk (Kd.R_grown2 HOe.out rfl hg_ (fun k_ hk_ => by cases hk_)); have HAP := Aside0.mk (apart_app (u := .slice none 0 0) (fun k_ hk_ => by cases hk_) HBe.out.size HOe.out hat_); clear ho_ hb_ hg_ hat_)
                  | ((with_reducible refine gate_builtin (b := .append) (xs := #[.tmp 61, .tmp 64]) rfl ?_); at_builtin; refine Kd.R_append_rows k29 (w0 := w) w.heap.size rfl (.tmp 61) (.tmp 64) 22 29 (.agg #[(.string ⟨#[]⟩), (.int .i64 0), (.bool false)]) 32 rfl Try.underlying22 info29 rfl (by decide) (by omega) (.slice AT dr.length cT) dr tk AO tk.length cO (fun _ => True) (fun _ => False) rfl rfl ?aO ?aR (fun _ _ h => h) (fun _ h => h.elim) ?aF ?aB ?aS ?aL ?_; (case aR => exact (by rw [HTK.out]; exact Kd.C_take (Kd.R_reads' HOu.out).2.2 HAL.out)); (case aB => exact HBu1.out); (case aF => exact (fun _ _ => trivial)); (case aO => exact HT1.out); (case aS => exact HBu1.out.size); (case aL => have h1 := LO.out; have h2 := LZ.out; have h3 := LD.out; (try simp only [List.length_nil]); omega); intro v_ u2 ho_ hb_ hg_ hat_; (try rw [List.nil_append] at ho_); obtain ⟨tt, htt⟩ : ∃ tt, tt = dr ++ tk := ⟨_, rfl⟩; rw [← htt] at ho_; have FT1t := Aside0.mk (show Latest_f k tt = some t1 by rw [htt]; exact FT1.out); clear htt; obtain ⟨AU, cU, hv_⟩ := Kd.R_slice ho_; subst hv_; have HT2 := Aside0.mk ho_; have HBu2 := Aside0.mk hb_; have HOv := Aside0.mk (Kd.R_grown2 HOu.out rfl hg_ (fun k_ hk_ e_ => HAP.out k_ hk_ e_.symm)); clear ho_ hb_ hg_ hat_)
                  | ((with_reducible refine gate_callee (f := 9) rfl ?_); (try (refine gate_guard (by rfl) ?_; dsimp only)); refine goesL_ (some 67) rfl rfl Try.func9 (by kernel_rfl) rfl #[.slice AU tt.length cU] rfl (by (try simp only [List.map_toArray, List.map_cons, List.map_nil]); first | done | rfl) ?_; (refine (latest_v k AU cU tt t1 u2 (Kd.R_reads' HT2.out).2.2 (Kd.R_reads' HT2.out).2.1 FT1t.out).mono ?_); rintro en u3 ⟨v_, rfl, hc_, hb_⟩; obtain ⟨Ap, hv_, hC_⟩ := cl_open hc_; subst hv_; refine ⟨_, rfl, ?_⟩; have HAp := Aside0.mk hC_; have HBu3 := Aside0.mk (below_step HBu2.out hb_); have HOw := Aside0.mk (Kd.R_below HOv.out hb_); clear hc_ hb_ hC_)
                  | ((with_reducible refine gate_callee (f := 9) rfl ?_); (try (refine gate_guard (by rfl) ?_; dsimp only)); refine goesL_ (some 69) rfl rfl Try.func9 (by kernel_rfl) rfl #[.slice AO o.length cO] rfl (by (try simp only [List.map_toArray, List.map_cons, List.map_nil]); first | done | rfl) ?_; (refine (latest_v k AO cO o t2 u3 (Kd.R_reads' HOw.out).2.2 (Kd.R_reads' HOw.out).2.1 FT2.out).mono ?_); rintro en u4 ⟨v_, rfl, hc_, hb_⟩; obtain ⟨Aq, hv_, hC_⟩ := cl_open hc_; subst hv_; refine ⟨_, rfl, ?_⟩; have HAq := Aside0.mk hC_; have HBu4 := Aside0.mk (below_step HBu3.out hb_); have HAp4 := Aside0.mk (Kd.C_below HAp.out hb_); clear hc_ hb_ hC_)
                  | ((with_reducible refine gate_callee (f := 10) rfl ?_); (try (refine gate_guard (by rfl) ?_; dsimp only)); refine goesL_ (some 70) rfl rfl Try.func10 (by kernel_rfl) rfl #[.slice Ap t1.length t1.length, .slice Aq t2.length t2.length] rfl (by (try simp only [List.map_toArray, List.map_cons, List.map_nil]); first | done | rfl) ?_; (refine (shelfmarkref13_SameIntents.calls k Ap t1.length t1 Aq t2.length t2 true u4 HAp4.out (Nat.le_refl _) HAq.out (Nat.le_refl _) FS3.out).mono ?_); rintro en u5 ⟨rfl, hd_⟩; refine ⟨_, rfl, ?_⟩; have hb_ := drawn_below hd_; have HBu5 := Aside0.mk (below_step HBu4.out hb_); clear hb_ hd_))
            go_ret
            exact ⟨rfl, HBu5.out⟩
          · rw [if_neg h2] at ha
            have q4 : decide (at_ > (o.length : Int)) = false := decide_eq_false h2
            obtain rfl : at_ = (a : Int) := by rw [ha]; omega
            clear ha
            have hcf := cut_from (P := Try.prog) 22 29 .i64 Try.underlying22 hi29 3 sz29 AO o.length cO (a : Int) (by omega) (by have := HAL.out; omega)
            rw [Int.toNat_natCast] at hcf
            have hct := cut_to (P := Try.prog) 22 29 .i64 Try.underlying22 hi29 AO o.length cO (a : Int) (by omega) (by have := HAL.out; omega) (Kd.R_reads' HOe.out).2.1
            rw [Int.toNat_natCast] at hct
            replace hct : ∀ W : World, (Instr.slice 22 (.slice AO o.length cO) none (some (.int .i64 (a : Int))) none).run Try.prog W = .ok (.slice AO tk.length cO) W := by rw [HTL.out]; exact hct
            rw [← HDL.out] at hcf
            obtain ⟨AD, hAD⟩ : ∃ AD, AD = (if cO = a then AO else AO.map (·.add (a * 3))) := ⟨_, rfl⟩
            rw [← hAD] at hcf
            have HDR := Aside0.mk (show Kd.C k29 we AD dr.length dr by rw [HDK.out, hAD]; exact Kd.C_drop (Kd.R_reads' HOe.out).2.2 HAL.out (Kd.R_reads' HOe.out).2.1)
            clear hAD
            skip
            go_wp2_with (first
                  | ((with_reducible refine gate_builtin (b := .append) (xs := #[.tmp 56, .tmp 59]) rfl ?_); at_builtin; refine Kd.R_append_rows k29 (w0 := w) w.heap.size rfl (.tmp 56) (.tmp 59) 22 29 (.agg #[(.string ⟨#[]⟩), (.int .i64 0), (.bool false)]) 32 rfl Try.underlying22 info29 rfl (by decide) (by omega) (.slice none 0 0) [] dr AD dr.length (cO - a) (fun _ => True) (fun _ => False) rfl rfl ?aO ?aR (fun _ _ h => h) (fun _ h => h.elim) ?aF ?aB ?aS ?aL ?_; (case aR => exact HDR.out); (case aB => exact HBe.out); (case aF => exact (fun _ _ => trivial)); (case aO => exact (Kd.R_nil _ _ _ _ _)); (case aS => exact HBe.out.size); (case aL => have h1 := LO.out; have h2 := LZ.out; have h3 := LD.out; (try simp only [List.length_nil]); omega); intro v_ u1 ho_ hb_ hg_ hat_; (try rw [List.nil_append] at ho_); obtain ⟨AT, cT, hv_⟩ := Kd.R_slice ho_; subst hv_; have HT1 := Aside0.mk ho_; have HBu1 := Aside0.mk hb_; have HOu := Aside0.mk (Kd.R_grown2 HOe.out rfl hg_ (fun k_ hk_ => by cases hk_)); have HAP := Aside0.mk (apart_app (u := .slice none 0 0) (fun k_ hk_ => by cases hk_) HBe.out.size HOe.out hat_); clear ho_ hb_ hg_ hat_)
                  | ((with_reducible refine gate_builtin (b := .append) (xs := #[.tmp 61, .tmp 64]) rfl ?_); at_builtin; refine Kd.R_append_rows k29 (w0 := w) w.heap.size rfl (.tmp 61) (.tmp 64) 22 29 (.agg #[(.string ⟨#[]⟩), (.int .i64 0), (.bool false)]) 32 rfl Try.underlying22 info29 rfl (by decide) (by omega) (.slice AT dr.length cT) dr tk AO tk.length cO (fun _ => True) (fun _ => False) rfl rfl ?aO ?aR (fun _ _ h => h) (fun _ h => h.elim) ?aF ?aB ?aS ?aL ?_; (case aR => exact (by rw [HTK.out]; exact Kd.C_take (Kd.R_reads' HOu.out).2.2 HAL.out)); (case aB => exact HBu1.out); (case aF => exact (fun _ _ => trivial)); (case aO => exact HT1.out); (case aS => exact HBu1.out.size); (case aL => have h1 := LO.out; have h2 := LZ.out; have h3 := LD.out; (try simp only [List.length_nil]); omega); intro v_ u2 ho_ hb_ hg_ hat_; (try rw [List.nil_append] at ho_); obtain ⟨tt, htt⟩ : ∃ tt, tt = dr ++ tk := ⟨_, rfl⟩; rw [← htt] at ho_; have FT1t := Aside0.mk (show Latest_f k tt = some t1 by rw [htt]; exact FT1.out); clear htt; obtain ⟨AU, cU, hv_⟩ := Kd.R_slice ho_; subst hv_; have HT2 := Aside0.mk ho_; have HBu2 := Aside0.mk hb_; have HOv := Aside0.mk (Kd.R_grown2 HOu.out rfl hg_ (fun k_ hk_ e_ => HAP.out k_ hk_ e_.symm)); clear ho_ hb_ hg_ hat_)
                  | ((with_reducible refine gate_callee (f := 9) rfl ?_); (try (refine gate_guard (by rfl) ?_; dsimp only)); refine goesL_ (some 67) rfl rfl Try.func9 (by kernel_rfl) rfl #[.slice AU tt.length cU] rfl (by (try simp only [List.map_toArray, List.map_cons, List.map_nil]); first | done | rfl) ?_; (refine (latest_v k AU cU tt t1 u2 (Kd.R_reads' HT2.out).2.2 (Kd.R_reads' HT2.out).2.1 FT1t.out).mono ?_); rintro en u3 ⟨v_, rfl, hc_, hb_⟩; obtain ⟨Ap, hv_, hC_⟩ := cl_open hc_; subst hv_; refine ⟨_, rfl, ?_⟩; have HAp := Aside0.mk hC_; have HBu3 := Aside0.mk (below_step HBu2.out hb_); have HOw := Aside0.mk (Kd.R_below HOv.out hb_); clear hc_ hb_ hC_)
                  | ((with_reducible refine gate_callee (f := 9) rfl ?_); (try (refine gate_guard (by rfl) ?_; dsimp only)); refine goesL_ (some 69) rfl rfl Try.func9 (by kernel_rfl) rfl #[.slice AO o.length cO] rfl (by (try simp only [List.map_toArray, List.map_cons, List.map_nil]); first | done | rfl) ?_; (refine (latest_v k AO cO o t2 u3 (Kd.R_reads' HOw.out).2.2 (Kd.R_reads' HOw.out).2.1 FT2.out).mono ?_); rintro en u4 ⟨v_, rfl, hc_, hb_⟩; obtain ⟨Aq, hv_, hC_⟩ := cl_open hc_; subst hv_; refine ⟨_, rfl, ?_⟩; have HAq := Aside0.mk hC_; have HBu4 := Aside0.mk (below_step HBu3.out hb_); have HAp4 := Aside0.mk (Kd.C_below HAp.out hb_); clear hc_ hb_ hC_)
                  | ((with_reducible refine gate_callee (f := 10) rfl ?_); (try (refine gate_guard (by rfl) ?_; dsimp only)); refine goesL_ (some 70) rfl rfl Try.func10 (by kernel_rfl) rfl #[.slice Ap t1.length t1.length, .slice Aq t2.length t2.length] rfl (by (try simp only [List.map_toArray, List.map_cons, List.map_nil]); first | done | rfl) ?_; (refine (shelfmarkref13_SameIntents.calls k Ap t1.length t1 Aq t2.length t2 true u4 HAp4.out (Nat.le_refl _) HAq.out (Nat.le_refl _) FS3.out).mono ?_); rintro en u5 ⟨rfl, hd_⟩; refine ⟨_, rfl, ?_⟩; have hb_ := drawn_below hd_; have HBu5 := Aside0.mk (below_step HBu4.out hb_); clear hb_ hd_))
            go_ret
            exact ⟨rfl, HBu5.out⟩
end Go.Proofs.Ytdaikljbljcagaa.Mn
