/- DERIVED. (*shelfmarkref18.Box).Done, Due, Of, Drop: the code walked. Conditions: those that each lemma names. -/
import Derived.Test.YtdaikljbljcagaaMo
import Derived.Deep.RegionHeld3
import Derived.Test.YtdaikljbljcagaaPAllx22
namespace Go.Proofs.Ytdaikljbljcagaa.Mp
open Go Go.RowKit Go.Proofs.Ytdaikljbljcagaa.PAll Go.Proofs.YtdaikljbljcagaaW.PrintWords Go.Proofs.YtdaikljbljcagaaW.PrintLast Go.Proofs.Ytdaikljbljcagaa.Hl Go.Proofs.Ytdaikljbljcagaa.Fv Go.Proofs.Ytdaikljbljcagaa.Mc Go.Proofs.Ytdaikljbljcagaa.Me Go.Proofs.Ytdaikljbljcagaa.Mf Go.Proofs.Ytdaikljbljcagaa.Mi Go.Proofs.Ytdaikljbljcagaa.Mj Go.Proofs.Ytdaikljbljcagaa.Mm Go.Proofs.Ytdaikljbljcagaa.Pn Go.Proofs.Ytdaikljbljcagaa.Pq
set_option linter.unusedSimpArgs false
set_option linter.unusedVariables false
/-- Is an intent's entry in a range? -/
def inR (lo hi : ByteArray) (x : S29) : Bool := !(Op.bytesLess x.f0.toList lo.toList) && (decide (hi.toList = []) || Op.bytesLess x.f0.toList hi.toList)
theorem within_eq (lo hi : ByteArray) (x : S29) : shelfmarkref04_Within.f x.f0 lo hi = some (inR lo hi x) := by
  unfold shelfmarkref04_Within.f inR
  by_cases h : Op.bytesLess x.f0.toList lo.toList = true
  · rw [if_pos h, h]; rfl
  · rw [if_neg h]
    replace h : Op.bytesLess x.f0.toList lo.toList = false := by simpa using h
    rw [h]
    by_cases h2 : hi.toList = []
    · rw [if_pos h2, decide_eq_true h2]; rfl
    · rw [if_neg h2, decide_eq_false h2]; simp
set_option maxHeartbeats 16000000 in
set_option maxRecDepth 100000 in
theorem rDone_v (w : World) (base gb : Nat) (S : Nat → Prop) (mo : Int) (l : List S29) (hX : Box 70 w base S gb mo l) (hbase : base ≤ w.heap.size) (AM : Option Addr) (cM : Nat) (m : List S29) (hm : Kd.C k29 w AM m.length m) (hcm : m.length ≤ cM) (k : Nat) (hN : ∀ x ∈ l, shelfmarkref18_Named.f k m x.f0 x.f1 x.f2 = some (namedIn m x)) (hz : l.length < 1000000000) (left : List S29) (hleft : left = l.filter (fun x => !namedIn m x)) :
    Calls Try.prog 44 #[.pointer (some ⟨gb, 0, none⟩), .slice AM m.length cM] w fun en w' => en = .returned (.int .i64 (wrap64 ((l.length : Int) - (left.length : Int)))) ∧ ∃ S', Box 70 w' base S' gb mo left ∧ Upd w w' base S S' := by
  have hu29 := Try.underlying29
  have hu70 := Try.underlying70
  have mixed : Try.prog.follows Departure.mixedOrders = true := by kernel_rfl
  have HX := Aside0.mk hX
  obtain ⟨hS, hSb, A, c, hB, hR⟩ := hX
  have HS := Aside0.mk hS
  have HSB := Aside0.mk hSb
  have BX := Aside0.mk hB
  have HR := Aside0.mk hR
  have HBS := Aside0.mk hbase
  clear hB hR hbase hS hSb
  have HMC := Aside0.mk hm
  have HCM := Aside0.mk hcm
  have HNA := Aside0.mk hN
  have LZ := Aside0.mk hz
  have HLL := Aside0.mk hleft
  clear hm hN hz hleft hcm
  go_enter Try.func44, Try.ntmps44
  go_wp2
  go_loopg [5, 6] l.length (fun kq v5 v6 wr => ∃ (j : Nat) (AO : Option Addr) (cO : Nat), v6 = .int .i64 (j : Int) ∧ v5 = .slice AO ((l.take j).filter (fun x => !namedIn m x)).length cO ∧ Aside0 (j ≤ l.length ∧ l.length - j ≤ kq) ∧ Aside0 (Below w.heap.size w wr) ∧ Aside0 (Kd.R k29 29 wr w.heap.size (fun _ => True) (.slice AO ((l.take j).filter (fun x => !namedIn m x)).length cO) ((l.take j).filter (fun x => !namedIn m x))))
  case atStart => exact ⟨0, none, 0, rfl, rfl, ⟨Nat.zero_le _, Nat.le_refl _⟩, ⟨Below.refl _ _⟩, ⟨Kd.R_nil _ _ _ _ _⟩⟩
  case round =>
    obtain ⟨j, AO, cO, rfl, rfl, HI, HBr, HOr⟩ := hrel
    by_cases hlt : j < l.length
    · obtain ⟨ad, hA, hx⟩ := at_T29 (Kd.C_below (Kd.R_reads' HR.out).2.2 HBr.out) (j : Int) (by omega) (by omega)
      rw [rd29_at l j hlt, Int.toNat_natCast] at hx
      obtain ⟨p_, hp_⟩ : ∃ p_, p_ = l[j] := ⟨_, rfl⟩
      obtain ⟨o, ho⟩ : ∃ o, o = (l.take j).filter (fun x => !namedIn m x) := ⟨_, rfl⟩
      obtain ⟨bb, hbb⟩ : ∃ bb, bb = namedIn m p_ := ⟨_, rfl⟩
      have HSn := Aside0.mk (show (l.take (j + 1)).filter (fun x => !namedIn m x) = o ++ (if (!bb) = true then [p_] else []) by rw [filter_step (fun x => !namedIn m x) l j hlt, ho, hbb, hp_])
      have LO := Aside0.mk (show o.length ≤ l.length by
        rw [ho]
        have h1 := List.length_filter_le (fun x => !namedIn m x) (l.take j)
        rw [List.length_take] at h1
        omega)
      rw [← ho] at HOr ⊢
      have BXr := Aside0.mk (blk_below BX.out HBr.out)
      have z1 : wr.cell? ⟨gb, 1, none⟩ = some (.slice A l.length c) := (blk_cell BXr.out 1).trans rfl
      have HIN := Aside0.mk (show p_ ∈ l by rw [hp_]; exact List.getElem_mem hlt)
      rw [← hp_] at hx
      have HXc := Aside0.mk hx
      obtain ⟨hx0, hx1, hx2⟩ := hx
      have q1 : decide ((j : Int) < (l.length : Int)) = true := decide_eq_true (by omega)
      have q2 : (j : Int) < (l.length : Int) := by omega
      have q5 : (0 : Int) ≤ (j : Int) := by omega
      have HIL := Aside0.mk (show j < l.length from hlt)
      subst hA
      have FN := Aside0.mk (show shelfmarkref18_Named.f k m p_.f0 p_.f1 p_.f2 = some bb by rw [hbb]; exact HNA.out p_ HIN.out)
      clear hp_ hlt ho hbb
      cases bb with
      | true =>
        go_wp2_with (first
              | ((with_reducible refine gate_callee (f := 12) rfl ?_); (try (refine gate_guard (by rfl) ?_; dsimp only)); refine goesL_ (some 25) rfl rfl Try.func12 (by kernel_rfl) rfl #[.slice AM m.length cM, .agg #[.string p_.f0, .int .i64 p_.f1, .bool p_.f2]] rfl (by (try simp only [List.map_toArray, List.map_cons, List.map_nil]); first | done | rfl) ?_; (refine (shelfmarkref18_Named.calls k AM cM m p_.f0 p_.f1 p_.f2 true wr (Kd.C_below HMC.out HBr.out) HCM.out FN.out).mono ?_); rintro en wq ⟨rfl, hb_⟩; refine ⟨_, rfl, ?_⟩; have HBq := Aside0.mk (below_step HBr.out hb_); have HOq := Aside0.mk (Kd.R_below HOr.out hb_); have BXq := Aside0.mk (blk_below BXr.out hb_); obtain ⟨hz0, hz1, hz2⟩ := (show (wq.cell? (ad.add (j * 3)) = some (.string p_.f0) ∧ wq.cell? ⟨(ad.add (j * 3)).block, (ad.add (j * 3)).off + 1, none⟩ = some (.int .i64 p_.f1) ∧ wq.cell? ⟨(ad.add (j * 3)).block, (ad.add (j * 3)).off + 2, none⟩ = some (.bool p_.f2)) from cells3 HXc.out hb_); clear hb_ hx0 hx1 hx2 z1; have z1 : wq.cell? ⟨gb, 1, none⟩ = some (.slice (some ad) l.length c) := (blk_cell BXq.out 1).trans rfl))
        go_roundg (l.length - (j + 1))
        case measure => have := HI.out.2; have := HIL.out; omega
        case rel => exact ⟨j + 1, AO, cO, by first | rfl | (congr 1; exact Go.IntWalk.wrap64_in _ (by have h1 := LZ.out; have h2 := HIL.out; omega)), by rw [HSn.out]; first | rfl | simp, ⟨HIL.out, Nat.le_refl _⟩, HBq, ⟨by rw [HSn.out]; simpa using HOq.out⟩⟩
      | false =>
        have HS3 := Aside0.mk (show (l.take (j + 1)).filter (fun x => !namedIn m x) = o ++ [p_] by rw [HSn.out]; rfl)
        go_wp2_with (first
              | ((with_reducible refine gate_callee (f := 12) rfl ?_); (try (refine gate_guard (by rfl) ?_; dsimp only)); refine goesL_ (some 25) rfl rfl Try.func12 (by kernel_rfl) rfl #[.slice AM m.length cM, .agg #[.string p_.f0, .int .i64 p_.f1, .bool p_.f2]] rfl (by (try simp only [List.map_toArray, List.map_cons, List.map_nil]); first | done | rfl) ?_; (refine (shelfmarkref18_Named.calls k AM cM m p_.f0 p_.f1 p_.f2 false wr (Kd.C_below HMC.out HBr.out) HCM.out FN.out).mono ?_); rintro en wq ⟨rfl, hb_⟩; refine ⟨_, rfl, ?_⟩; have HBq := Aside0.mk (below_step HBr.out hb_); have HOq := Aside0.mk (Kd.R_below HOr.out hb_); have BXq := Aside0.mk (blk_below BXr.out hb_); obtain ⟨hz0, hz1, hz2⟩ := (show (wq.cell? (ad.add (j * 3)) = some (.string p_.f0) ∧ wq.cell? ⟨(ad.add (j * 3)).block, (ad.add (j * 3)).off + 1, none⟩ = some (.int .i64 p_.f1) ∧ wq.cell? ⟨(ad.add (j * 3)).block, (ad.add (j * 3)).off + 2, none⟩ = some (.bool p_.f2)) from cells3 HXc.out hb_); clear hb_ hx0 hx1 hx2 z1; have z1 : wq.cell? ⟨gb, 1, none⟩ = some (.slice (some ad) l.length c) := (blk_cell BXq.out 1).trans rfl)
              | ((with_reducible refine gate_builtin (b := .append) (xs := #[.tmp 27, .tmp 35]) rfl ?_); at_builtin; refine Kd.R_append k29 (w0 := w) w.heap.size rfl (.tmp 27) (.tmp 35) 22 29 (.agg #[(.string ⟨#[]⟩), (.int .i64 0), (.bool false)]) 32 rfl Try.underlying22 info29 rfl (by decide) (by omega) (.slice AO o.length cO) o p_ [.string p_.f0, .int .i64 p_.f1, .bool p_.f2] (fun _ => True) (fun _ => False) rfl rfl ?aP (fun _ hk => hk.elim) ?aF ?aO ?aB ?aS ?aL ?_; (case aP => exact k29_mkM _ _ _ p_); (case aB => exact HBq.out); (case aF => exact (fun _ _ => trivial)); (case aO => exact HOq.out); (case aS => exact HBq.out.size); (case aL => have h1 := LO.out; have h2 := LZ.out; omega); intro v_ w1 ho_ hb_ hg_ hat_; obtain ⟨A1, c1, hv_⟩ := Kd.R_slice ho_; subst hv_; have HN1 := Aside0.mk ho_; have HB1_ := Aside0.mk hb_; clear ho_ hb_ hg_ hat_))
        go_roundg (l.length - (j + 1))
        case measure => have := HI.out.2; have := HIL.out; omega
        case rel => exact ⟨j + 1, A1, c1, by first | rfl | (congr 1; exact Go.IntWalk.wrap64_in _ (by have h1 := LZ.out; have h2 := HIL.out; omega)), by first | (rw [HS3.out]; done) | (rw [HS3.out, List.length_append]; rfl), ⟨HIL.out, Nat.le_refl _⟩, HB1_, ⟨by rw [HS3.out]; exact HN1.out⟩⟩
    · obtain rfl : j = l.length := by have := HI.out.1; omega
      have q1 : decide ((l.length : Int) < (l.length : Int)) = false := decide_eq_false (by omega)
      rw [List.take_length, ← HLL.out] at HOr ⊢
      have BXe := Aside0.mk (blk_below BX.out HBr.out)
      have HOe := HOr
      have HBe := HBr
      have z1 : wr.cell? ⟨gb, 1, none⟩ = some (.slice A l.length c) := (blk_cell BXe.out 1).trans rfl
      have y1 := blk_frozen BXe.out 1
      have LO := Aside0.mk (show left.length ≤ l.length by rw [HLL.out]; exact List.length_filter_le _ _)
      clear hlt HI HOr HBr
      go_wp2
      go_ret
      refine ⟨rfl, fun k => (S k ∨ w.heap.size ≤ k) ∧ k < wr.heap.size, ⟨⟨.inl HS.out, blk_lt BXe.out⟩, ?_, ?_⟩, ⟨Below.setCell (below_low HBe.out HBS.out) (p := ⟨gb, 1, none⟩) (HSB.out gb HS.out).1 _, kept_set (Kept.of_below HBe.out S) (.inl HS.out) _, fun k hk => hk.1⟩⟩
      · intro k hk
        refine ⟨?_, by have := hk.2; simpa [World.setCell] using this⟩
        rcases hk.1 with h1 | h1
        · exact (HSB.out k h1).1
        · exact Nat.le_trans HBS.out h1
      · exact ⟨AO, cO, blk_put BXe.out 1 _ rfl, Kd.R_set (Kd.R_lower (Kd.R_mono (Kd.R_bound HOe.out) (fun k hk => ⟨.inr hk.2.1, hk.2.2.1⟩)) HBS.out) BXe.out (by decide) 1 _⟩
set_option maxHeartbeats 16000000 in
set_option maxRecDepth 100000 in
theorem rDue_v (w : World) (base gb : Nat) (S : Nat → Prop) (mo : Int) (l : List S29) (hX : Box 70 w base S gb mo l) (hbase : base ≤ w.heap.size) (n : Int) (d : Nat) (hd : d = dueN n l.length) (hz : l.length < 1000000000) :
    Calls Try.prog 45 #[.pointer (some ⟨gb, 0, none⟩), .int .i64 n] w fun en w' => ∃ A' c', en = .returned (.slice A' (l.take d).length c') ∧ (l.take d).length ≤ c' ∧ Kd.C k29 w' A' (l.take d).length (l.take d) ∧ Below w.heap.size w w' := by
  have hu29 := Try.underlying29
  have hu70 := Try.underlying70
  have mixed : Try.prog.follows Departure.mixedOrders = true := by kernel_rfl
  have HX := Aside0.mk hX
  obtain ⟨hS, hSb, A, c, hB, hR⟩ := hX
  have HS := Aside0.mk hS
  have HSB := Aside0.mk hSb
  have BX := Aside0.mk hB
  have HR := Aside0.mk hR
  have HBS := Aside0.mk hbase
  clear hB hR hbase hS hSb
  have hi29_ := Mf.hi29
  have z1 : w.cell? ⟨gb, 1, none⟩ = some (.slice A l.length c) := (blk_cell BX.out 1).trans rfl
  by_cases h1 : n < 1
  · have e : d = 0 := by
      rw [hd]
      unfold dueN mn mx
      repeat' split
      all_goals omega
    have q1 : decide (n < 1) = true := decide_eq_true h1
    rw [e]
    clear h1 hd
    go_enter Try.func45, Try.ntmps45
    go_wp2
    go_ret
    exact ⟨none, 0, rfl, Nat.le_refl _, Kd.C_nil _ _, Below.refl _ _⟩
  · have q1 : decide (n < 1) = false := decide_eq_false h1
    by_cases h2 : n > (l.length : Int)
    · have e : d = l.length := by
        rw [hd]
        unfold dueN mn mx
        repeat' split
        all_goals omega
      have q2 : decide (n > (l.length : Int)) = true := decide_eq_true h2
      rw [e, List.take_length]
      clear h1 h2 hd
      go_enter Try.func45, Try.ntmps45
      go_wp2
      go_ret
      exact ⟨A, c, rfl, (Kd.R_reads' HR.out).2.1, (Kd.R_reads' HR.out).2.2, Below.refl _ _⟩
    · have e : n = (d : Int) := by
        rw [hd]
        unfold dueN mn mx
        repeat' split
        all_goals omega
      have hdl : d ≤ l.length := by omega
      have q2 : decide (n > (l.length : Int)) = false := decide_eq_false h2
      have hct := cut_to (P := Try.prog) 22 29 .i64 Try.underlying22 hi29_ A l.length c n (by omega) (by omega) (Kd.R_reads' HR.out).2.1
      have hn : n.toNat = d := by omega
      rw [hn] at hct
      have HDL := Aside0.mk hdl
      clear h1 h2 hd e hn hdl
      go_enter Try.func45, Try.ntmps45
      go_wp2
      go_ret
      have hl : (l.take d).length = d := by rw [List.length_take]; have := HDL.out; omega
      exact ⟨A, c, by rw [hl]; rfl, by rw [hl]; have := (Kd.R_reads' HR.out).2.1; have := HDL.out; omega, Kd.C_take (Kd.R_reads' HR.out).2.2 HDL.out, Below.refl _ _⟩
set_option maxHeartbeats 16000000 in
set_option maxRecDepth 100000 in
theorem rOf_v (w : World) (base gb : Nat) (S : Nat → Prop) (mo : Int) (l : List S29) (hX : Box 70 w base S gb mo l) (hbase : base ≤ w.heap.size) (lo hi : ByteArray) (hz : l.length < 1000000000) :
    Calls Try.prog 47 #[.pointer (some ⟨gb, 0, none⟩), .agg #[.string lo, .string hi]] w fun en w' => ∃ v, en = .returned v ∧ Kd.R k29 29 w' w.heap.size (fun _ => True) v (l.filter (inR lo hi)) ∧ Below w.heap.size w w' := by
  have hu29 := Try.underlying29
  have hu70 := Try.underlying70
  have mixed : Try.prog.follows Departure.mixedOrders = true := by kernel_rfl
  have HX := Aside0.mk hX
  obtain ⟨hS, hSb, A, c, hB, hR⟩ := hX
  have HS := Aside0.mk hS
  have HSB := Aside0.mk hSb
  have BX := Aside0.mk hB
  have HR := Aside0.mk hR
  have HBS := Aside0.mk hbase
  clear hB hR hbase hS hSb
  have hu43 := Try.underlying43
  have LZ := Aside0.mk hz
  clear hz
  go_enter Try.func47, Try.ntmps47
  go_wp2_with (first
        | ((with_reducible refine gate_dst (N := 3) rfl ?_); refine box_event ?hg (N := 3) ?hd (cs := #[.string lo, .string hi]) (t := 43) ?hr ?_; (case hd => rfl); (case hg => rfl); (case hr => first | (go_simp; done) | (go_simp; rfl)); intro g3 hg_ wA hbox_ hb_; have BXa := Aside0.mk hbox_; have HBa := Aside0.mk hb_; clear hb_ hbox_ hg_))
  go_loopg [5, 6] l.length (fun kq v5 v6 wr => ∃ (j : Nat) (AO : Option Addr) (cO : Nat), v6 = .int .i64 (j : Int) ∧ v5 = .slice AO ((l.take j).filter (inR lo hi)).length cO ∧ Aside0 (j ≤ l.length ∧ l.length - j ≤ kq) ∧ Aside0 (Below w.heap.size w wr) ∧ Aside0 (Kd.R k29 29 wr w.heap.size (fun _ => True) (.slice AO ((l.take j).filter (inR lo hi)).length cO) ((l.take j).filter (inR lo hi))) ∧ Aside0 (wr.heap[g3]? = some (.cells #[.string lo, .string hi] 43 (0, 0))))
  case atStart => exact ⟨0, none, 0, rfl, rfl, ⟨Nat.zero_le _, Nat.le_refl _⟩, HBa, ⟨Kd.R_nil _ _ _ _ _⟩, BXa⟩
  case round =>
    obtain ⟨j, AO, cO, rfl, rfl, HI, HBr, HOr, B3r⟩ := hrel
    by_cases hlt : j < l.length
    · obtain ⟨ad, hA, hx⟩ := at_T29 (Kd.C_below (Kd.R_reads' HR.out).2.2 HBr.out) (j : Int) (by omega) (by omega)
      rw [rd29_at l j hlt, Int.toNat_natCast] at hx
      obtain ⟨p_, hp_⟩ : ∃ p_, p_ = l[j] := ⟨_, rfl⟩
      obtain ⟨o, ho⟩ : ∃ o, o = (l.take j).filter (inR lo hi) := ⟨_, rfl⟩
      obtain ⟨bb, hbb⟩ : ∃ bb, bb = inR lo hi p_ := ⟨_, rfl⟩
      have HSn := Aside0.mk (show (l.take (j + 1)).filter (inR lo hi) = o ++ (if bb = true then [p_] else []) by rw [filter_step (inR lo hi) l j hlt, ho, hbb, hp_])
      have LO := Aside0.mk (show o.length ≤ l.length by
        rw [ho]
        have h1 := List.length_filter_le (inR lo hi) (l.take j)
        rw [List.length_take] at h1
        omega)
      rw [← ho] at HOr ⊢
      have BXr := Aside0.mk (blk_below BX.out HBr.out)
      have z1 : wr.cell? ⟨gb, 1, none⟩ = some (.slice A l.length c) := (blk_cell BXr.out 1).trans rfl
      have HIN := Aside0.mk (show p_ ∈ l by rw [hp_]; exact List.getElem_mem hlt)
      rw [← hp_] at hx
      have HXc := Aside0.mk hx
      obtain ⟨hx0, hx1, hx2⟩ := hx
      have q1 : decide ((j : Int) < (l.length : Int)) = true := decide_eq_true (by omega)
      have q2 : (j : Int) < (l.length : Int) := by omega
      have q5 : (0 : Int) ≤ (j : Int) := by omega
      have HIL := Aside0.mk (show j < l.length from hlt)
      subst hA
      have FN := Aside0.mk (show shelfmarkref04_Within.f p_.f0 lo hi = some bb by rw [hbb]; exact within_eq lo hi p_)
      clear hp_ hlt ho hbb
      go_upto_region 5 with (fail)
      go_cut [25] from 16 to 25 (fun v25 wq => v25 = .bool bb ∧ Aside0 (Below w.heap.size w wq) ∧ Aside0 (Kd.R k29 29 wq w.heap.size (fun _ => True) (.slice AO o.length cO) o) ∧ Aside0 (wq.heap[gb]? = some (.cells #[.int .i64 mo, .slice (some ad) l.length c] 70 (0, 0))) ∧ Aside0 (wq.heap[g3]? = some (.cells #[.string lo, .string hi] 43 (0, 0))) ∧ Aside0 (wq.cell? (ad.add (j * 3)) = some (.string p_.f0) ∧ wq.cell? ⟨(ad.add (j * 3)).block, (ad.add (j * 3)).off + 1, none⟩ = some (.int .i64 p_.f1) ∧ wq.cell? ⟨(ad.add (j * 3)).block, (ad.add (j * 3)).off + 2, none⟩ = some (.bool p_.f2)))
      case first =>
        go_region_held3 (fun W : World => W.cell? ⟨gb, 1, none⟩ = some (.slice (some ad) l.length c) ∧ W.cell? (ad.add (j * 3)) = some (.string p_.f0) ∧ W.cell? ⟨g3, 0, none⟩ = some (.string lo) ∧ W.cell? ⟨g3, 1, none⟩ = some (.string hi)) (first | exact ⟨(blk_cell BXq.out 1).trans rfl, hz0_, (blk_cell B3q.out 0).trans rfl, (blk_cell B3q.out 1).trans rfl⟩ | exact ⟨(blk_cell (by with_reducible repeat (first | exact BXr.out | refine blk_drewN ?_ _ | refine blk_drew ?_)) 1).trans rfl, pw_cell_below (by with_reducible repeat (first | exact Below.refl _ _ | refine below_drew ?_ | refine pw_below_drewN ?_ _)) HXc.out.1, (blk_cell (by with_reducible repeat (first | exact B3r.out | refine blk_drewN ?_ _ | refine blk_drew ?_)) 0).trans rfl, (blk_cell (by with_reducible repeat (first | exact B3r.out | refine blk_drewN ?_ _ | refine blk_drew ?_)) 1).trans rfl⟩) (first
          | (go_at_call 65; (refine (shelfmarkref04_Within.calls p_.f0 lo hi bb _ FN.out).mono ?_); rintro en wq ⟨rfl, hb_⟩; have HBq := Aside0.mk (below_step (below_drew HBr.out) hb_); have HOq := Aside0.mk (Kd.R_below (Kd.R_drew HOr.out) hb_); have BXq := Aside0.mk (blk_below (blk_drew BXr.out) hb_); have B3q := Aside0.mk (blk_below (blk_drew B3r.out) hb_); have HXq := Aside0.mk (cells3 (cells3 HXc.out (below_drew (Below.refl _ _))) hb_); have hz0_ := HXq.out.1; clear hb_))
        all_goals (try go_wp2)
        all_goals go_meet
        all_goals exact ⟨rfl, HBq, HOq, BXq, B3q, HXq⟩
      case rest =>
        obtain ⟨rfl, HBq, HOq, BXq, B3q, HXq⟩ := hcut
        clear HBr HOr BXr B3r HXc hx0 hx1 hx2 z1
        obtain ⟨hz0, hz1, hz2⟩ := HXq.out
        have z1 := (blk_cell BXq.out 1).trans (show _ = some (Value.slice (some ad) l.length c) from rfl)
        cases bb with
        | false =>
          go_wp2
          go_roundg (l.length - (j + 1))
          case measure => have := HI.out.2; have := HIL.out; omega
          case rel => exact ⟨j + 1, AO, cO, by first | rfl | (congr 1; exact Go.IntWalk.wrap64_in _ (by have h1 := LZ.out; have h2 := HIL.out; omega)), by rw [HSn.out]; first | rfl | simp, ⟨HIL.out, Nat.le_refl _⟩, HBq, ⟨by rw [HSn.out]; simpa using HOq.out⟩, B3q⟩
        | true =>
          have HS3 := Aside0.mk (show (l.take (j + 1)).filter (inR lo hi) = o ++ [p_] by rw [HSn.out]; rfl)
          go_wp2_with (first
                | ((with_reducible refine gate_builtin (b := .append) (xs := #[.tmp 26, .tmp 34]) rfl ?_); at_builtin; refine Kd.R_append k29 (w0 := w) w.heap.size rfl (.tmp 26) (.tmp 34) 22 29 (.agg #[(.string ⟨#[]⟩), (.int .i64 0), (.bool false)]) 32 rfl Try.underlying22 info29 rfl (by decide) (by omega) (.slice AO o.length cO) o p_ [.string p_.f0, .int .i64 p_.f1, .bool p_.f2] (fun _ => True) (fun _ => False) rfl rfl ?aP (fun _ hk => hk.elim) ?aF ?aO ?aB ?aS ?aL ?_; (case aP => exact k29_mkM _ _ _ p_); (case aB => exact HBq.out); (case aF => exact (fun _ _ => trivial)); (case aO => exact HOq.out); (case aS => exact HBq.out.size); (case aL => have h1 := LO.out; have h2 := LZ.out; omega); intro v_ w1 ho_ hb_ hg_ hat_; obtain ⟨A1, c1, hv_⟩ := Kd.R_slice ho_; subst hv_; have HN1 := Aside0.mk ho_; have HB1_ := Aside0.mk hb_; have hg__ := Aside0.mk hg_; clear ho_ hb_ hg_ hat_))
          go_roundg (l.length - (j + 1))
          case measure => have := HI.out.2; have := HIL.out; omega
          case rel => exact ⟨j + 1, A1, c1, by first | rfl | (congr 1; exact Go.IntWalk.wrap64_in _ (by have h1 := LZ.out; have h2 := HIL.out; omega)), by first | (rw [HS3.out]; done) | (rw [HS3.out, List.length_append]; rfl), ⟨HIL.out, Nat.le_refl _⟩, HB1_, ⟨by rw [HS3.out]; exact HN1.out⟩, ⟨blk_grown B3q.out hg__.out (Kd.R_ne HOq.out B3q.out (by decide))⟩⟩
    · obtain rfl : j = l.length := by have := HI.out.1; omega
      have q1 : decide ((l.length : Int) < (l.length : Int)) = false := decide_eq_false (by omega)
      have BXe := Aside0.mk (blk_below BX.out HBr.out)
      have z1 : wr.cell? ⟨gb, 1, none⟩ = some (.slice A l.length c) := (blk_cell BXe.out 1).trans rfl
      rw [List.take_length] at HOr ⊢
      clear hlt HI
      go_wp2
      go_ret
      exact ⟨_, rfl, HOr.out, HBr.out⟩
set_option maxHeartbeats 16000000 in
set_option maxRecDepth 100000 in
theorem rDrop_v (w : World) (base gb : Nat) (S : Nat → Prop) (mo : Int) (l : List S29) (hX : Box 70 w base S gb mo l) (hbase : base ≤ w.heap.size) (lo hi : ByteArray) (k : Nat) (hN : ∀ x ∈ l, shelfmarkref18_Named.f k (l.filter (inR lo hi)) x.f0 x.f1 x.f2 = some (namedIn (l.filter (inR lo hi)) x)) (hz : l.length < 1000000000) (left : List S29) (hleft : left = l.filter (fun x => !namedIn (l.filter (inR lo hi)) x)) :
    Calls Try.prog 49 #[.pointer (some ⟨gb, 0, none⟩), .agg #[.string lo, .string hi]] w fun en w' => en = .returned (.int .i64 (wrap64 ((l.length : Int) - (left.length : Int)))) ∧ ∃ S', Box 70 w' base S' gb mo left ∧ Upd w w' base S S' := by
  have hu29 := Try.underlying29
  have hu70 := Try.underlying70
  have mixed : Try.prog.follows Departure.mixedOrders = true := by kernel_rfl
  have HX := Aside0.mk hX
  obtain ⟨hS, hSb, A, c, hB, hR⟩ := hX
  have HS := Aside0.mk hS
  have HSB := Aside0.mk hSb
  have BX := Aside0.mk hB
  have HR := Aside0.mk hR
  have HBS := Aside0.mk hbase
  clear hB hR hbase hS hSb
  have hu43 := Try.underlying43
  have LZ := Aside0.mk hz
  have HNA := Aside0.mk hN
  have HLL := Aside0.mk hleft
  obtain ⟨m, hm⟩ : ∃ m, m = l.filter (inR lo hi) := ⟨_, rfl⟩
  rw [← hm] at HNA HLL
  have HMM := Aside0.mk hm
  clear hz hN hleft hm
  go_enter Try.func49, Try.ntmps49
  go_wp2_with (first
        | ((with_reducible refine gate_dst (N := 3) rfl ?_); refine box_event ?hg (N := 3) ?hd (cs := #[.string lo, .string hi]) (t := 43) ?hr ?_; (case hd => rfl); (case hg => rfl); (case hr => first | (go_simp; done) | (go_simp; rfl)); intro g3 hg_ wA hbox_ hb_; have BXa := Aside0.mk hbox_; have HBa := Aside0.mk hb_; have y0 : wA.cell? ⟨g3, 0, none⟩ = some (.string lo) := (blk_cell BXa.out 0).trans rfl; have y1 : wA.cell? ⟨g3, 1, none⟩ = some (.string hi) := (blk_cell BXa.out 1).trans rfl; clear hb_ hbox_ hg_)
        | ((with_reducible refine gate_callee (f := 47) rfl ?_); (try (refine gate_guard (by rfl) ?_; dsimp only)); refine goesL_ (some 8) rfl rfl Try.func47 (by kernel_rfl) rfl #[.pointer (some ⟨gb, 0, none⟩), .agg #[.string lo, .string hi]] rfl (by (try simp only [List.map_toArray, List.map_cons, List.map_nil]); first | done | rfl) ?_; (refine (rOf_v wA base gb S mo l (HX.out.below HBa.out) (Nat.le_trans HBS.out HBa.out.size) lo hi LZ.out).mono ?_); rintro en wB ⟨v_, rfl, hR_, hb_⟩; rw [← HMM.out] at hR_; obtain ⟨Am, cm, hv_⟩ := Kd.R_slice hR_; subst hv_; refine ⟨_, rfl, ?_⟩; have HRm := Aside0.mk hR_; have HBb := Aside0.mk (below_step HBa.out hb_); clear hR_ hb_ y0 y1)
        | ((with_reducible refine gate_callee (f := 44) rfl ?_); (try (refine gate_guard (by rfl) ?_; dsimp only)); refine goesL_ (some 9) rfl rfl Try.func44 (by kernel_rfl) rfl #[.pointer (some ⟨gb, 0, none⟩), .slice Am m.length cm] rfl (by (try simp only [List.map_toArray, List.map_cons, List.map_nil]); first | done | rfl) ?_; (refine (rDone_v wB base gb S mo l (HX.out.below HBb.out) (Nat.le_trans HBS.out HBb.out.size) Am cm m (Kd.R_reads' HRm.out).2.2 (Kd.R_reads' HRm.out).2.1 k HNA.out LZ.out left HLL.out).mono ?_); rintro en wz ⟨rfl, S2, hx_, hu_⟩; refine ⟨_, rfl, ?_⟩; have HXz := Aside0.mk hx_; have HUz := Aside0.mk ((Upd.of_below HBb.out HBS.out).trans hu_); clear hx_ hu_))
  go_ret
  exact ⟨rfl, S2, HXz.out, HUz.out⟩
end Go.Proofs.Ytdaikljbljcagaa.Mp
