/- DERIVED. (*shelfmarkref18.Box).add and Add: the code walked. Conditions: those that each lemma names. -/
import Derived.Test.YtdaikljbljcagaaMm
import Derived.Test.YtdaikljbljcagaaPv
import Derived.Test.YtdaikljbljcagaaPAllx18
import Derived.Test.YtdaikljbljcagaaPAllx21
namespace Go.Proofs.Ytdaikljbljcagaa.Mo
open Go Go.RowKit Go.Proofs.Ytdaikljbljcagaa.PAll Go.Proofs.YtdaikljbljcagaaW.PrintWords Go.Proofs.YtdaikljbljcagaaW.PrintLast Go.Proofs.Ytdaikljbljcagaa.Hl Go.Proofs.Ytdaikljbljcagaa.Fv Go.Proofs.Ytdaikljbljcagaa.Mc Go.Proofs.Ytdaikljbljcagaa.Me Go.Proofs.Ytdaikljbljcagaa.Mi Go.Proofs.Ytdaikljbljcagaa.Mj Go.Proofs.Ytdaikljbljcagaa.Mm Go.Proofs.Ytdaikljbljcagaa.Pn Go.Proofs.Ytdaikljbljcagaa.Pq
set_option linter.unusedSimpArgs false
set_option linter.unusedVariables false
theorem field75_3 (w : World) (a : Int) (b : Option Addr) (n c : Nat) (s : ByteArray) (p : Int) : (Instr.field 75 (.agg #[.int .i64 a, .slice b n c, .string s, .int .i64 p]) 3).run Try.prog w = .ok (.int .i64 p) w := by
  kernel_rfl
theorem field75_2 (w : World) (a : Int) (b : Option Addr) (n c : Nat) (s : ByteArray) (p : Int) : (Instr.field 75 (.agg #[.int .i64 a, .slice b n c, .string s, .int .i64 p]) 2).run Try.prog w = .ok (.string s) w := by
  kernel_rfl
set_option maxHeartbeats 16000000 in
set_option maxRecDepth 100000 in
theorem radd_v (w : World) (base gb : Nat) (S : Nat → Prop) (mo : Int) (l : List S29) (hX : Box 70 w base S gb mo l) (hbase : base ≤ w.heap.size) (AM : Option Addr) (cM : Nat) (m : List S29) (hm : Kd.C k29 w AM m.length m) (k : Nat) (hN : ∀ j (h : j < m.length), shelfmarkref18_Named.f k (onceG l (m.take j)) m[j].f0 m[j].f1 m[j].f2 = some (namedIn (onceG l (m.take j)) m[j])) (hz : l.length + m.length < 1000000000) (L : List S29) (hL : L = if ((onceG l m).length : Int) > mo then l else onceG l m) (ev : Int) (hev : ev = if ((onceG l m).length : Int) > mo then 6 else 0) :
    Calls Try.prog 42 #[.pointer (some ⟨gb, 0, none⟩), .slice AM m.length cM] w fun en w' => en = .returned (.int .i64 ev) ∧ ∃ S', Box 70 w' base S' gb mo L ∧ Upd w w' base S S' := by
  have hu29 := Try.underlying29
  have hu70 := Try.underlying70
  have mixed : Try.prog.follows Departure.mixedOrders = true := by kernel_rfl
  have HX := Aside0.mk hX
  obtain ⟨hS, hSb, A, c, hB, hR⟩ := hX
  have HS := Aside0.mk hS
  have HSB := Aside0.mk hSb
  have BX := Aside0.mk hB
  have HR := Aside0.mk hR
  have HBS := Aside0.mk hbase
  clear hB hR hbase hS hSb
  have HMC := Aside0.mk hm
  have HNA := Aside0.mk hN
  have LZ := Aside0.mk hz
  have HLL := Aside0.mk hL
  have HEV := Aside0.mk hev
  clear hm hN hz hL hev
  have z1 : w.cell? ⟨gb, 1, none⟩ = some (.slice A l.length c) := (blk_cell BX.out 1).trans rfl
  go_enter Try.func42, Try.ntmps42
  go_wp2_with (first
        | ((with_reducible refine gate_builtin (b := .append) (xs := #[.tmp 7, .tmp 11]) rfl ?_); at_builtin; refine Kd.R_append_rows k29 (w0 := w) w.heap.size rfl (.tmp 7) (.tmp 11) 22 29 (.agg #[(.string ⟨#[]⟩), (.int .i64 0), (.bool false)]) 32 rfl Try.underlying22 info29 rfl (by decide) (by omega) (.slice none 0 0) [] l A l.length c (fun _ => True) (fun _ => False) rfl rfl ?aO ?aR (fun _ _ h => h) (fun _ h => h.elim) ?aF ?aB ?aS ?aL ?_; (case aR => exact (Kd.R_reads' HR.out).2.2); (case aB => exact (Below.refl _ _)); (case aF => exact (fun _ _ => trivial)); (case aO => exact (Kd.R_nil _ _ _ _ _)); (case aS => exact (Nat.le_refl _)); (case aL => have h1 := LZ.out; simp only [List.length_nil]; omega); intro v_ w0_ ho_ hb_ hg_ hat_; (try rw [List.nil_append] at ho_); obtain ⟨A0, c0, hv_⟩ := Kd.R_slice ho_; subst hv_; have H0 := Aside0.mk ho_; have HB0 := Aside0.mk hb_; clear ho_ hb_ hg_ hat_))
  clear z1
  go_loopg [5, 6] m.length (fun kq v5 v6 wr => ∃ (j : Nat) (AO : Option Addr) (cO : Nat), v6 = .int .i64 (j : Int) ∧ v5 = .slice AO (onceG l (m.take j)).length cO ∧ Aside0 (j ≤ m.length ∧ m.length - j ≤ kq) ∧ Aside0 (Below w.heap.size w wr) ∧ Aside0 (Kd.R k29 29 wr w.heap.size (fun _ => True) (.slice AO (onceG l (m.take j)).length cO) (onceG l (m.take j))))
  case atStart => exact ⟨0, A0, c0, rfl, rfl, ⟨Nat.zero_le _, Nat.le_refl _⟩, HB0, H0⟩
  case round =>
    obtain ⟨j, AO, cO, rfl, rfl, HI, HBr, HOr⟩ := hrel
    by_cases hlt : j < m.length
    · obtain ⟨ad, hA, hx⟩ := at_T29 (Kd.C_below HMC.out HBr.out) (j : Int) (by omega) (by omega)
      rw [rd29_at m j hlt, Int.toNat_natCast] at hx
      obtain ⟨p_, hp_⟩ : ∃ p_, p_ = m[j] := ⟨_, rfl⟩
      obtain ⟨o, ho⟩ : ∃ o, o = onceG l (m.take j) := ⟨_, rfl⟩
      obtain ⟨bb, hbb⟩ : ∃ bb, bb = namedIn o p_ := ⟨_, rfl⟩
      have FN := Aside0.mk (show shelfmarkref18_Named.f k o p_.f0 p_.f1 p_.f2 = some bb by rw [hbb, ho, hp_]; exact HNA.out j hlt)
      have HSn := Aside0.mk (show onceG l (m.take (j + 1)) = if bb = true then o else o ++ [p_] by rw [List.take_add_one, List.getElem?_eq_getElem hlt, Option.toList_some, onceG_snoc, hbb, hp_, ho])
      have LO := Aside0.mk (show o.length ≤ l.length + m.length by rw [ho]; exact Nat.le_trans (onceG_len _ _) (by rw [List.length_take]; omega))
      rw [← ho] at HOr ⊢
      rw [← hp_] at hx
      have HXc := Aside0.mk hx
      obtain ⟨hx0, hx1, hx2⟩ := hx
      have q1 : decide ((j : Int) < (m.length : Int)) = true := decide_eq_true (by omega)
      have q2 : (j : Int) < (m.length : Int) := by omega
      have HIL := Aside0.mk (show j < m.length from hlt)
      subst hA
      clear hp_ hlt ho hbb
      cases bb with
      | true =>
        go_wp2_with (first
              | ((with_reducible refine gate_callee (f := 12) rfl ?_); (try (refine gate_guard (by rfl) ?_; dsimp only)); refine goesL_ (some 24) rfl rfl Try.func12 (by kernel_rfl) rfl #[.slice AO o.length cO, .agg #[.string p_.f0, .int .i64 p_.f1, .bool p_.f2]] rfl (by (try simp only [List.map_toArray, List.map_cons, List.map_nil]); first | done | rfl) ?_; (refine (shelfmarkref18_Named.calls k AO cO o p_.f0 p_.f1 p_.f2 true wr (Kd.R_reads' HOr.out).2.2 (Kd.R_reads' HOr.out).2.1 FN.out).mono ?_); rintro en wq ⟨rfl, hb_⟩; refine ⟨_, rfl, ?_⟩; have HBq := Aside0.mk (below_step HBr.out hb_); have HOq := Aside0.mk (Kd.R_below HOr.out hb_); obtain ⟨hz0, hz1, hz2⟩ := (show (wq.cell? (ad.add (j * 3)) = some (.string p_.f0) ∧ wq.cell? ⟨(ad.add (j * 3)).block, (ad.add (j * 3)).off + 1, none⟩ = some (.int .i64 p_.f1) ∧ wq.cell? ⟨(ad.add (j * 3)).block, (ad.add (j * 3)).off + 2, none⟩ = some (.bool p_.f2)) from cells3 HXc.out hb_); clear hb_ hx0 hx1 hx2))
        go_roundg (m.length - (j + 1))
        case measure => have := HI.out.2; have := HIL.out; omega
        case rel => exact ⟨j + 1, AO, cO, by first | rfl | (congr 1; exact Go.IntWalk.wrap64_in _ (by have h1 := LZ.out; have h2 := HIL.out; omega)), by rw [HSn.out]; rfl, ⟨HIL.out, Nat.le_refl _⟩, HBq, ⟨by rw [HSn.out]; exact HOq.out⟩⟩
      | false =>
        have HS3 := Aside0.mk (show onceG l (m.take (j + 1)) = o ++ [p_] by rw [HSn.out]; rfl)
        go_wp2_with (first
              | ((with_reducible refine gate_callee (f := 12) rfl ?_); (try (refine gate_guard (by rfl) ?_; dsimp only)); refine goesL_ (some 24) rfl rfl Try.func12 (by kernel_rfl) rfl #[.slice AO o.length cO, .agg #[.string p_.f0, .int .i64 p_.f1, .bool p_.f2]] rfl (by (try simp only [List.map_toArray, List.map_cons, List.map_nil]); first | done | rfl) ?_; (refine (shelfmarkref18_Named.calls k AO cO o p_.f0 p_.f1 p_.f2 false wr (Kd.R_reads' HOr.out).2.2 (Kd.R_reads' HOr.out).2.1 FN.out).mono ?_); rintro en wq ⟨rfl, hb_⟩; refine ⟨_, rfl, ?_⟩; have HBq := Aside0.mk (below_step HBr.out hb_); have HOq := Aside0.mk (Kd.R_below HOr.out hb_); obtain ⟨hz0, hz1, hz2⟩ := (show (wq.cell? (ad.add (j * 3)) = some (.string p_.f0) ∧ wq.cell? ⟨(ad.add (j * 3)).block, (ad.add (j * 3)).off + 1, none⟩ = some (.int .i64 p_.f1) ∧ wq.cell? ⟨(ad.add (j * 3)).block, (ad.add (j * 3)).off + 2, none⟩ = some (.bool p_.f2)) from cells3 HXc.out hb_); clear hb_ hx0 hx1 hx2)
              | ((with_reducible refine gate_builtin (b := .append) (xs := #[.tmp 26, .tmp 31]) rfl ?_); at_builtin; refine Kd.R_append k29 (w0 := w) w.heap.size rfl (.tmp 26) (.tmp 31) 22 29 (.agg #[(.string ⟨#[]⟩), (.int .i64 0), (.bool false)]) 32 rfl Try.underlying22 info29 rfl (by decide) (by omega) (.slice AO o.length cO) o p_ [.string p_.f0, .int .i64 p_.f1, .bool p_.f2] (fun _ => True) (fun _ => False) rfl rfl ?aP (fun _ hk => hk.elim) ?aF ?aO ?aB ?aS ?aL ?_; (case aP => exact k29_mkM _ _ _ p_); (case aB => exact HBq.out); (case aF => exact (fun _ _ => trivial)); (case aO => exact HOq.out); (case aS => exact HBq.out.size); (case aL => have h1 := LO.out; have h2 := LZ.out; omega); intro v_ w1 ho_ hb_ hg_ hat_; obtain ⟨A1, c1, hv_⟩ := Kd.R_slice ho_; subst hv_; have HN1 := Aside0.mk ho_; have HB1_ := Aside0.mk hb_; clear ho_ hb_ hg_ hat_))
        go_roundg (m.length - (j + 1))
        case measure => have := HI.out.2; have := HIL.out; omega
        case rel => exact ⟨j + 1, A1, c1, by first | rfl | (congr 1; exact Go.IntWalk.wrap64_in _ (by have h1 := LZ.out; have h2 := HIL.out; omega)), by first | (rw [HS3.out]; done) | (rw [HS3.out, List.length_append]; rfl), ⟨HIL.out, Nat.le_refl _⟩, HB1_, ⟨by rw [HS3.out]; exact HN1.out⟩⟩
    · obtain rfl : j = m.length := by have := HI.out.1; omega
      have q1 : decide ((m.length : Int) < (m.length : Int)) = false := decide_eq_false (by omega)
      rw [List.take_length] at HOr ⊢
      obtain ⟨o, ho⟩ : ∃ o, o = onceG l m := ⟨_, rfl⟩
      rw [← ho] at HOr HLL HEV ⊢
      have BXe := Aside0.mk (blk_below BX.out HBr.out)
      have HOe := HOr
      have HBe := HBr
      have z0 : wr.cell? ⟨gb, 0, none⟩ = some (.int .i64 mo) := (blk_cell BXe.out 0).trans rfl
      have z1 : wr.cell? ⟨gb, 1, none⟩ = some (.slice A l.length c) := (blk_cell BXe.out 1).trans rfl
      have y1 := blk_frozen BXe.out 1
      clear hlt HI HOr HBr ho HB0 H0 HNA
      by_cases hfull : (o.length : Int) > mo
      · have q3 : decide ((o.length : Int) > mo) = true := decide_eq_true hfull
        have HF := Aside0.mk hfull
        clear hfull
        go_wp2
        go_ret
        refine ⟨by rw [HEV.out, if_pos HF.out]; rfl, S, ?_, Upd.of_below HBe.out HBS.out⟩
        rw [HLL.out, if_pos HF.out]
        exact HX.out.below HBe.out
      · have q3 : decide ((o.length : Int) > mo) = false := decide_eq_false hfull
        have HF := Aside0.mk hfull
        clear hfull
        go_wp2
        go_ret
        rw [HLL.out, if_neg (by have := HF.out; omega), HEV.out, if_neg (by have := HF.out; omega)]
        refine ⟨rfl, fun k => (S k ∨ w.heap.size ≤ k) ∧ k < wr.heap.size, ⟨⟨.inl HS.out, blk_lt BXe.out⟩, ?_, ?_⟩, ⟨Below.setCell (below_low HBe.out HBS.out) (p := ⟨gb, 1, none⟩) (HSB.out gb HS.out).1 _, kept_set (Kept.of_below HBe.out S) (.inl HS.out) _, fun k hk => hk.1⟩⟩
        · intro k hk
          refine ⟨?_, by have := hk.2; simpa [World.setCell] using this⟩
          rcases hk.1 with h1 | h1
          · exact (HSB.out k h1).1
          · exact Nat.le_trans HBS.out h1
        · exact ⟨AO, cO, blk_put BXe.out 1 _ rfl, Kd.R_set (Kd.R_lower (Kd.R_mono (Kd.R_bound HOe.out) (fun k hk => ⟨.inr hk.2.1, hk.2.2.1⟩)) HBS.out) BXe.out (by decide) 1 _⟩
set_option maxHeartbeats 16000000 in
set_option maxRecDepth 100000 in
theorem rAdd_v (w : World) (base gb : Nat) (S : Nat → Prop) (mo : Int) (l : List S29) (hX : Box 70 w base S gb mo l) (hbase : base ≤ w.heap.size) (AM : Option Addr) (cM : Nat) (m : List S29) (hm : Kd.C k29 w AM m.length m) (k : Nat) (pe : S29 → Int) (hP : ∀ x ∈ m, ∃ r1 r2 r3, shelfmarkref04_Parse.f k x.f0 = some (r1, r2, r3, pe x)) (hN : ∀ j (h : j < m.length), shelfmarkref18_Named.f k (onceG l (m.take j)) m[j].f0 m[j].f1 m[j].f2 = some (namedIn (onceG l (m.take j)) m[j])) (hz : l.length + m.length < 1000000000) (bad : Bool) (hbad : bad = m.any (badI pe)) :
    Calls Try.prog 16 #[.pointer (some ⟨gb, 0, none⟩), .slice AM m.length cM] w fun en w' => en = .returned (.int .i64 (raddE mo l m bad)) ∧ ∃ S', Box 70 w' base S' gb mo (raddL mo l m bad) ∧ Upd w w' base S S' := by
  have hu29 := Try.underlying29
  have hu70 := Try.underlying70
  have mixed : Try.prog.follows Departure.mixedOrders = true := by kernel_rfl
  have HX := Aside0.mk hX
  obtain ⟨hS, hSb, A, c, hB, hR⟩ := hX
  have HS := Aside0.mk hS
  have HSB := Aside0.mk hSb
  have BX := Aside0.mk hB
  have HR := Aside0.mk hR
  have HBS := Aside0.mk hbase
  clear hB hR hbase hS hSb
  have HMC := Aside0.mk hm
  have HNA := Aside0.mk hN
  have HPA := Aside0.mk hP
  have LZ := Aside0.mk hz
  have HBD := Aside0.mk hbad
  clear hm hN hz hbad hP
  have hu75 := Try.underlying75
  go_enter Try.func16, Try.ntmps16
  go_wp2
  go_loopg [5] m.length (fun kq v5 wr => ∃ (j : Nat), v5 = .int .i64 (j : Int) ∧ Aside0 (∀ x ∈ m.take j, badI pe x = false) ∧ Aside0 (j ≤ m.length ∧ m.length - j ≤ kq) ∧ Aside0 (Below w.heap.size w wr))
  case atStart => exact ⟨0, rfl, ⟨fun x hx => by simp at hx⟩, ⟨Nat.zero_le _, Nat.le_refl _⟩, ⟨Below.refl _ _⟩⟩
  case round =>
    obtain ⟨j, rfl, HA, HI, HBr⟩ := hrel
    by_cases hlt : j < m.length
    · obtain ⟨ad, hA, hx⟩ := at_T29 (Kd.C_below HMC.out HBr.out) (j : Int) (by omega) (by omega)
      rw [rd29_at m j hlt, Int.toNat_natCast] at hx
      obtain ⟨p_, hp_⟩ : ∃ p_, p_ = m[j] := ⟨_, rfl⟩
      obtain ⟨pp, hpp⟩ : ∃ pp, pp = pe p_ := ⟨_, rfl⟩
      have HPx := Aside0.mk (show ∃ r1 r2 r3, shelfmarkref04_Parse.f k p_.f0 = some (r1, r2, r3, pp) by rw [hpp]; exact HPA.out p_ (by rw [hp_]; exact List.getElem_mem hlt))
      have HBDx := Aside0.mk (show badI pe p_ = (!(pp == 0) || (decide (p_.f1 < 1) || decide (p_.f1 > 1099511627776))) by rw [hpp]; rfl)
      have HIN := Aside0.mk (show p_ ∈ m by rw [hp_]; exact List.getElem_mem hlt)
      have HA2 := Aside0.mk (show badI pe p_ = false → ∀ x ∈ m.take (j + 1), badI pe x = false from fun hb x hx => by
        rw [List.take_add_one, List.getElem?_eq_getElem hlt, Option.toList_some, List.mem_append] at hx
        rcases hx with hx | hx
        · exact HA.out x hx
        · rw [List.mem_singleton.1 hx, ← hp_]; exact hb)
      rw [← hp_] at hx
      have HXc := Aside0.mk hx
      obtain ⟨hx0, hx1, hx2⟩ := hx
      have q1 : decide ((j : Int) < (m.length : Int)) = true := decide_eq_true (by omega)
      have q2 : (j : Int) < (m.length : Int) := by omega
      have HIL := Aside0.mk (show j < m.length from hlt)
      subst hA
      clear hp_ hlt hpp HA
      by_cases h1 : pp = 0
      · have t1 : (pp == 0) = true := beq_iff_eq.2 h1
        have t2 : (pp != 0) = false := by rw [bne, t1]; rfl
        have T1 := Aside0.mk t1
        clear h1
        by_cases h2 : p_.f1 < 1
        · have t3 : decide (p_.f1 < 1) = true := decide_eq_true h2
          have T3 := Aside0.mk t3
          clear h2
          go_wp2_with (first
                | ((with_reducible refine gate_callee (f := 41) rfl ?_); refine goesL_ (some 17) rfl rfl Try.func41 (by kernel_rfl) rfl #[.string p_.f0] rfl (by (try simp only [List.map_toArray, List.map_cons, List.map_nil]); first | done | rfl) ?_; obtain ⟨r1_, r2_, r3_, hp_⟩ := HPx.out; (refine (shelfmarkref04_Parse.calls k p_.f0 r1_ r2_ r3_ pp wr hp_).mono ?_); rintro en wq ⟨v1_, rfl, hR_, hb_⟩; obtain ⟨Av_, cv_, hv_⟩ := Kd.R_slice hR_; subst hv_; have hfl := field75_3 wq r1_ Av_ r2_.length cv_ r3_ pp; refine ⟨_, rfl, ?_⟩; have HBq := Aside0.mk (below_step HBr.out hb_); obtain ⟨hz0, hz1, hz2⟩ := (show (wq.cell? (ad.add (j * 3)) = some (.string p_.f0) ∧ wq.cell? ⟨(ad.add (j * 3)).block, (ad.add (j * 3)).off + 1, none⟩ = some (.int .i64 p_.f1) ∧ wq.cell? ⟨(ad.add (j * 3)).block, (ad.add (j * 3)).off + 2, none⟩ = some (.bool p_.f2)) from cells3 HXc.out hb_); clear hb_ hR_ hx0 hx1 hx2))
          go_ret
          have e0 : bad = true := by rw [HBD.out, List.any_eq_true]; exact ⟨p_, HIN.out, by rw [HBDx.out, T1.out, T3.out]; rfl⟩
          rw [e0]
          exact ⟨rfl, S, HX.out.below HBq.out, Upd.of_below HBq.out HBS.out⟩
        · have t3 : decide (p_.f1 < 1) = false := decide_eq_false h2
          have T3 := Aside0.mk t3
          clear h2
          by_cases h3 : p_.f1 > 1099511627776
          · have t4 : decide (p_.f1 > 1099511627776) = true := decide_eq_true h3
            have T4 := Aside0.mk t4
            clear h3
            go_wp2_with (first
                  | ((with_reducible refine gate_callee (f := 41) rfl ?_); refine goesL_ (some 17) rfl rfl Try.func41 (by kernel_rfl) rfl #[.string p_.f0] rfl (by (try simp only [List.map_toArray, List.map_cons, List.map_nil]); first | done | rfl) ?_; obtain ⟨r1_, r2_, r3_, hp_⟩ := HPx.out; (refine (shelfmarkref04_Parse.calls k p_.f0 r1_ r2_ r3_ pp wr hp_).mono ?_); rintro en wq ⟨v1_, rfl, hR_, hb_⟩; obtain ⟨Av_, cv_, hv_⟩ := Kd.R_slice hR_; subst hv_; have hfl := field75_3 wq r1_ Av_ r2_.length cv_ r3_ pp; refine ⟨_, rfl, ?_⟩; have HBq := Aside0.mk (below_step HBr.out hb_); obtain ⟨hz0, hz1, hz2⟩ := (show (wq.cell? (ad.add (j * 3)) = some (.string p_.f0) ∧ wq.cell? ⟨(ad.add (j * 3)).block, (ad.add (j * 3)).off + 1, none⟩ = some (.int .i64 p_.f1) ∧ wq.cell? ⟨(ad.add (j * 3)).block, (ad.add (j * 3)).off + 2, none⟩ = some (.bool p_.f2)) from cells3 HXc.out hb_); clear hb_ hR_ hx0 hx1 hx2))
            go_ret
            have e0 : bad = true := by rw [HBD.out, List.any_eq_true]; exact ⟨p_, HIN.out, by rw [HBDx.out, T1.out, T3.out, T4.out]; rfl⟩
            rw [e0]
            exact ⟨rfl, S, HX.out.below HBq.out, Upd.of_below HBq.out HBS.out⟩
          · have t4 : decide (p_.f1 > 1099511627776) = false := decide_eq_false h3
            have T4 := Aside0.mk t4
            clear h3
            go_wp2_with (first
                  | ((with_reducible refine gate_callee (f := 41) rfl ?_); refine goesL_ (some 17) rfl rfl Try.func41 (by kernel_rfl) rfl #[.string p_.f0] rfl (by (try simp only [List.map_toArray, List.map_cons, List.map_nil]); first | done | rfl) ?_; obtain ⟨r1_, r2_, r3_, hp_⟩ := HPx.out; (refine (shelfmarkref04_Parse.calls k p_.f0 r1_ r2_ r3_ pp wr hp_).mono ?_); rintro en wq ⟨v1_, rfl, hR_, hb_⟩; obtain ⟨Av_, cv_, hv_⟩ := Kd.R_slice hR_; subst hv_; have hfl := field75_3 wq r1_ Av_ r2_.length cv_ r3_ pp; refine ⟨_, rfl, ?_⟩; have HBq := Aside0.mk (below_step HBr.out hb_); obtain ⟨hz0, hz1, hz2⟩ := (show (wq.cell? (ad.add (j * 3)) = some (.string p_.f0) ∧ wq.cell? ⟨(ad.add (j * 3)).block, (ad.add (j * 3)).off + 1, none⟩ = some (.int .i64 p_.f1) ∧ wq.cell? ⟨(ad.add (j * 3)).block, (ad.add (j * 3)).off + 2, none⟩ = some (.bool p_.f2)) from cells3 HXc.out hb_); clear hb_ hR_ hx0 hx1 hx2))
            go_roundg (m.length - (j + 1))
            case measure => have := HI.out.2; have := HIL.out; omega
            case rel => exact ⟨j + 1, by first | rfl | (congr 1; exact Go.IntWalk.wrap64_in _ (by have h1 := LZ.out; have h2 := HIL.out; omega)), ⟨HA2.out (by rw [HBDx.out, T1.out, T3.out, T4.out]; rfl)⟩, ⟨HIL.out, Nat.le_refl _⟩, HBq⟩
      · have t1 : (pp == 0) = false := beq_eq_false_iff_ne.2 h1
        have t2 : (pp != 0) = true := by rw [bne, t1]; rfl
        have T1 := Aside0.mk t1
        clear h1
        go_wp2_with (first
              | ((with_reducible refine gate_callee (f := 41) rfl ?_); refine goesL_ (some 17) rfl rfl Try.func41 (by kernel_rfl) rfl #[.string p_.f0] rfl (by (try simp only [List.map_toArray, List.map_cons, List.map_nil]); first | done | rfl) ?_; obtain ⟨r1_, r2_, r3_, hp_⟩ := HPx.out; (refine (shelfmarkref04_Parse.calls k p_.f0 r1_ r2_ r3_ pp wr hp_).mono ?_); rintro en wq ⟨v1_, rfl, hR_, hb_⟩; obtain ⟨Av_, cv_, hv_⟩ := Kd.R_slice hR_; subst hv_; have hfl := field75_3 wq r1_ Av_ r2_.length cv_ r3_ pp; refine ⟨_, rfl, ?_⟩; have HBq := Aside0.mk (below_step HBr.out hb_); obtain ⟨hz0, hz1, hz2⟩ := (show (wq.cell? (ad.add (j * 3)) = some (.string p_.f0) ∧ wq.cell? ⟨(ad.add (j * 3)).block, (ad.add (j * 3)).off + 1, none⟩ = some (.int .i64 p_.f1) ∧ wq.cell? ⟨(ad.add (j * 3)).block, (ad.add (j * 3)).off + 2, none⟩ = some (.bool p_.f2)) from cells3 HXc.out hb_); clear hb_ hR_ hx0 hx1 hx2))
        go_ret
        have e0 : bad = true := by rw [HBD.out, List.any_eq_true]; exact ⟨p_, HIN.out, by rw [HBDx.out, T1.out]; rfl⟩
        rw [e0]
        exact ⟨rfl, S, HX.out.below HBq.out, Upd.of_below HBq.out HBS.out⟩
    · obtain rfl : j = m.length := by have := HI.out.1; omega
      have q1 : decide ((m.length : Int) < (m.length : Int)) = false := decide_eq_false (by omega)
      have HBDf := Aside0.mk (show bad = false by
        rw [HBD.out, List.any_eq_false]
        intro x hx
        have := HA.out x (by rw [List.take_length]; exact hx)
        rw [this]; decide)
      obtain ⟨ev, hev⟩ : ∃ ev : Int, ev = (if ((onceG l m).length : Int) > mo then (6 : Int) else 0) := ⟨_, rfl⟩
      have HEV := Aside0.mk hev
      clear hlt HI HA hev
      go_wp2_with (first
            | ((with_reducible refine gate_callee (f := 42) rfl ?_); (try (refine gate_guard (by rfl) ?_; dsimp only)); refine goesL_ (some 38) rfl rfl Try.func42 (by kernel_rfl) rfl #[.pointer (some ⟨gb, 0, none⟩), .slice AM m.length cM] rfl (by (try simp only [List.map_toArray, List.map_cons, List.map_nil]); first | done | rfl) ?_; (refine (radd_v wr base gb S mo l (HX.out.below HBr.out) (Nat.le_trans HBS.out HBr.out.size) AM cM m (Kd.C_below HMC.out HBr.out) k HNA.out LZ.out _ rfl ev HEV.out).mono ?_); rintro en wz ⟨rfl, S2, hx_, hu_⟩; refine ⟨_, rfl, ?_⟩; have HXz := Aside0.mk hx_; have HUz := Aside0.mk ((Upd.of_below HBr.out HBS.out).trans hu_); clear hx_ hu_))
      go_ret
      rw [HBDf.out]
      have e1 : (if ((onceG l m).length : Int) > mo then (6 : Int) else 0) = raddE mo l m false := rfl
      refine ⟨by rw [← e1, ← HEV.out]; rfl, S2, ?_, HUz.out⟩
      have e2 : (if ((onceG l m).length : Int) > mo then l else onceG l m) = raddL mo l m false := by
        unfold raddL
        rw [← e1]
        split <;> simp
      rw [← e2]
      exact HXz.out
end Go.Proofs.Ytdaikljbljcagaa.Mo
