/- DERIVED. The document's reader: its methods. Conditions: those that each lemma names. -/
import Derived.Test.YthghacojbhjeaaaLd
import Derived.Test.YthghacojbhjeaaaPKpx3
import Derived.Test.YthghacojbhjeaaaPKpx4
namespace Go.Proofs.Ythghacojbhjeaaa.Lf
open Go Go.RowKit Go.Proofs.Ythghacojbhjeaaa.PKp Go.Proofs.YthghacojbhjeaaaW.PrintWords Go.Proofs.YthghacojbhjeaaaW.PrintLast Go.Proofs.Ythghacojbhjeaaa.Hl Go.Proofs.Ythghacojbhjeaaa.La
set_option linter.unusedSimpArgs false
set_option linter.unusedVariables false
def refN (k : Nat) : List Int → Int → Option (Int × Int × Int) := fun bs p => (shelfmarkref01_GetNum.f k bs p).map fun r => (r.1, r.2.2.2.1, r.2.2.2.2)
def refT (k : Nat) : List Int → Int → Option (ByteArray × Int × Int) := fun bs p => (shelfmarkref01_GetText.f k bs p 9223372036854775807).map fun r => (r.2.1, r.2.2.2.1, r.2.2.2.2)
theorem shelfmarkref01_GetNum_s (k : Nat) (A0 : Option Addr) (c0 : Nat) (l0 : List Int) (a1 : Int) (r1 : Int) (r2 : ByteArray) (r3 : List ByteArray) (r4 : Int) (r5 : Int) (w : World) (hr0 : Kd.C (Kd.int .u8) w A0 l0.length l0) (hc0 : l0.length ≤ c0) (h : shelfmarkref01_GetNum.f k l0 a1 = some (r1, r2, r3, r4, r5)) :
    Calls Try.prog 47 #[.slice A0 l0.length c0, .int .i64 a1] w fun e w' => ∃ A c, e = .returned (.agg #[.int .i64 r1, .string r2, .slice A r3.length c, .int .i64 r4, .int .i64 r5]) ∧ Below w.heap.size w w' :=
  (shelfmarkref01_GetNum.calls k A0 c0 l0 a1 r1 r2 r3 r4 r5 w hr0 hc0 h).mono fun e w' hh => by
    obtain ⟨v, he, hr, hb⟩ := hh
    obtain ⟨A, c, rfl⟩ := Kd.R_slice hr
    exact ⟨A, c, he, hb⟩
theorem shelfmarkref01_GetText_s (k : Nat) (A0 : Option Addr) (c0 : Nat) (l0 : List Int) (a1 : Int) (a2 : Int) (r1 : Int) (r2 : ByteArray) (r3 : List ByteArray) (r4 : Int) (r5 : Int) (w : World) (hr0 : Kd.C (Kd.int .u8) w A0 l0.length l0) (hc0 : l0.length ≤ c0) (h : shelfmarkref01_GetText.f k l0 a1 a2 = some (r1, r2, r3, r4, r5)) :
    Calls Try.prog 48 #[.slice A0 l0.length c0, .int .i64 a1, .int .i64 a2] w fun e w' => ∃ A c, e = .returned (.agg #[.int .i64 r1, .string r2, .slice A r3.length c, .int .i64 r4, .int .i64 r5]) ∧ Below w.heap.size w w' :=
  (shelfmarkref01_GetText.calls k A0 c0 l0 a1 a2 r1 r2 r3 r4 r5 w hr0 hc0 h).mono fun e w' hh => by
    obtain ⟨v, he, hr, hb⟩ := hh
    obtain ⟨A, c, rfl⟩ := Kd.R_slice hr
    exact ⟨A, c, he, hb⟩
set_option maxHeartbeats 8000000 in
set_option maxRecDepth 100000 in
theorem num_r {w0 w : World} {gr : Nat} {A : Option Addr} {c : Nat} {bs : List Int} {at_ e : Int} (h : Rdr 61 w0 w gr A c bs at_ e) (k : Nat) (most other n a1 e1 : Int) (hf : numG (refN k) bs at_ e most other = some (n, a1, e1)) :
    Calls Try.prog 25 #[.pointer (some ⟨gr, 0, none⟩), .int .i64 most, .int .i64 other] w fun en w' => en = .returned (.int .i64 n) ∧ Rdr 61 w0 w' gr A c bs a1 e1 ∧ Turned gr w w' := by
  have mixed : Try.prog.follows Departure.mixedOrders = true := by kernel_rfl
  have hu82 := Try.underlying82
  have H0 := Aside0.mk h
  have c0 : w.cell? ⟨gr, 0, none⟩ = some (.slice A bs.length c) := (blk_cell h.box 0).trans rfl
  have c1 : w.cell? ⟨gr, 1, none⟩ = some (.int .i64 at_) := (blk_cell h.box 1).trans rfl
  have c2 : w.cell? ⟨gr, 2, none⟩ = some (.int .i64 e) := (blk_cell h.box 2).trans rfl
  unfold numG at hf
  by_cases he : e = 0
  · rw [if_pos he] at hf
    subst he
    replace hf := Option.map_eq_some_iff.1 hf
    obtain ⟨y, hf, hr⟩ := hf
    unfold refN at hf
    obtain ⟨⟨x1, x2, x3, x4, x5⟩, hg, hy⟩ := Option.map_eq_some_iff.1 hf
    clear hf
    subst hy
    have HF := Aside0.mk hg
    have HR := Aside0.mk hr
    clear h hg hr
    have ca0 : (w.alloc (.cells #[.int .i64 0, .string (⟨#[]⟩ : ByteArray), .slice none 0 0, .int .i64 0, .int .i64 0] 82 (0, 0))).cell? ⟨gr, 0, none⟩ = some (.slice A bs.length c) := (blk_cell (blk_alloc H0.out.box _) 0).trans rfl
    have ca1 : (w.alloc (.cells #[.int .i64 0, .string (⟨#[]⟩ : ByteArray), .slice none 0 0, .int .i64 0, .int .i64 0] 82 (0, 0))).cell? ⟨gr, 1, none⟩ = some (.int .i64 at_) := (blk_cell (blk_alloc H0.out.box _) 1).trans rfl
    have hgw : gr ≠ w.heap.size := Nat.ne_of_lt (blk_lt H0.out.box)
    have hgw2 : w.heap.size ≠ gr := Ne.symm hgw
    go_enter Try.func25, Try.ntmps25
    go_upto_region 3 with (fail)
    go_cut [7] from 7 to 46 (fun v7 wc => ∃ gx vx, v7 = .pointer (some ⟨gx, 0, none⟩) ∧ Aside0 (Below w.heap.size w wc) ∧ Aside0 (w.heap.size ≤ gx) ∧ Aside0 (wc.heap[gx]? = some (.cells #[.int .i64 x1, .string x2, vx, .int .i64 x4, .int .i64 x5] 82 (0, 0))))
    case first =>
      go_region_with (first
        | (go_at_call 47; (with_reducible refine (shelfmarkref01_GetNum_s k _ _ bs at_  x1 x2 x3 x4 x5 _ ?side1 ?side2 HF.out).mono ?_); (case side1 => repeat (first | exact Kd.C_below H0.out.reads H0.out.below | (with_reducible refine Kd.C_alloc ?_ _) | (with_reducible refine Kd.C_drewN ?_ _) | (with_reducible refine Kd.C_drew ?_))); (case side2 => exact H0.out.room); rintro e w5 ⟨Ax, cx, rfl, hB⟩; have BX5 := Aside0.mk (show w5.heap[w.heap.size]? = some (.cells #[.int .i64 0, .string (⟨#[]⟩ : ByteArray), .slice none 0 0, .int .i64 0, .int .i64 0] 82 (0, 0)) from blk_below (blk_drew (blk_new w _)) hB); have z0 : w5.cell? ⟨w.heap.size, 0, none⟩ = some (.int .i64 0) := (blk_cell BX5.out 0).trans rfl; have y0 := blk_frozen BX5.out 0; have z1 : w5.cell? ⟨w.heap.size, 1, none⟩ = some (.string (⟨#[]⟩ : ByteArray)) := (blk_cell BX5.out 1).trans rfl; have y1 := blk_frozen BX5.out 1; have z2 : w5.cell? ⟨w.heap.size, 2, none⟩ = some (.slice none 0 0) := (blk_cell BX5.out 2).trans rfl; have y2 := blk_frozen BX5.out 2; have z3 : w5.cell? ⟨w.heap.size, 3, none⟩ = some (.int .i64 0) := (blk_cell BX5.out 3).trans rfl; have y3 := blk_frozen BX5.out 3; have z4 : w5.cell? ⟨w.heap.size, 4, none⟩ = some (.int .i64 0) := (blk_cell BX5.out 4).trans rfl; have y4 := blk_frozen BX5.out 4; have HB5 : Aside0 (Below w.heap.size w w5) := ⟨by refine below_step ?_ hB; with_reducible repeat (first | exact Below.refl _ _ | refine pw_below_drewN ?_ _ | refine below_drew ?_ | refine below_alloc ?_ _)⟩; have HX5 : Aside0 (w5.heap[gr]? = some (.cells #[.slice A bs.length c, .int .i64 at_, .int .i64 0] 61 (0, 0))) := ⟨by refine blk_below ?_ hB; with_reducible repeat (first | exact H0.out.box | refine blk_drewN ?_ _ | refine blk_drew ?_ | refine blk_alloc ?_ _)⟩; clear hB)
        | (go_at_call 47; (with_reducible refine (shelfmarkref01_GetNum_s k _ _ bs at_  x1 x2 x3 x4 x5 _ ?side1 ?side2 HF.out).mono ?_); (case side1 => repeat (first | exact Kd.C_below H0.out.reads H0.out.below | (with_reducible refine Kd.C_alloc ?_ _) | (with_reducible refine Kd.C_drewN ?_ _) | (with_reducible refine Kd.C_drew ?_))); (case side2 => exact H0.out.room); rintro e w5 ⟨Ax, cx, rfl, hB⟩; have HB5 : Aside0 (Below w.heap.size w w5) := ⟨by refine below_step ?_ hB; with_reducible repeat (first | exact Below.refl _ _ | refine pw_below_drewN ?_ _ | refine below_drew ?_ | refine below_alloc ?_ _)⟩; have HX5 : Aside0 (w5.heap[gr]? = some (.cells #[.slice A bs.length c, .int .i64 at_, .int .i64 0] 61 (0, 0))) := ⟨by refine blk_below ?_ hB; with_reducible repeat (first | exact H0.out.box | refine blk_drewN ?_ _ | refine blk_drew ?_ | refine blk_alloc ?_ _)⟩; clear hB))
      all_goals (try go_wp2)
      all_goals go_meet
      all_goals refine ⟨_, .slice Ax x3.length cx, rfl, ⟨?_⟩, ⟨?_⟩, ⟨?_⟩⟩
      all_goals first
        | with_reducible exact below_alloc HB5.out _
        | with_reducible exact blk_new w5 _
        | with_reducible exact HB5.out.size
        | with_reducible exact Nat.le_refl _
        | with_reducible exact (Below.setCell (Below.setCell (Below.setCell (Below.setCell (Below.setCell HB5.out (p := ⟨w.heap.size, 0, none⟩) (Nat.le_refl _) _) (p := ⟨w.heap.size, 1, none⟩) (Nat.le_refl _) _) (p := ⟨w.heap.size, 2, none⟩) (Nat.le_refl _) _) (p := ⟨w.heap.size, 3, none⟩) (Nat.le_refl _) _) (p := ⟨w.heap.size, 4, none⟩) (Nat.le_refl _) _)
        | with_reducible exact (blk_put (cs' := #[.int .i64 x1, .string x2, .slice Ax x3.length cx, .int .i64 x4, .int .i64 x5]) (blk_put (cs' := #[.int .i64 x1, .string x2, .slice Ax x3.length cx, .int .i64 x4, .int .i64 0]) (blk_put (cs' := #[.int .i64 x1, .string x2, .slice Ax x3.length cx, .int .i64 0, .int .i64 0]) (blk_put (cs' := #[.int .i64 x1, .string x2, .slice none 0 0, .int .i64 0, .int .i64 0]) (blk_put (cs' := #[.int .i64 x1, .string (⟨#[]⟩ : ByteArray), .slice none 0 0, .int .i64 0, .int .i64 0]) BX5.out 0 (.int .i64 x1) rfl) 1 (.string x2) rfl) 2 (.slice Ax x3.length cx) rfl) 3 (.int .i64 x4) rfl) 4 (.int .i64 x5) rfl)
    case rest =>
      obtain ⟨gx, vx, rfl, HB, HG, HX⟩ := hcut
      have H1 := Aside0.mk (H0.out.later HB.out)
      have hn1 : gx ≠ gr := blk_ne HX.out H1.out.box (by decide)
      have hn2 := Ne.symm hn1
      clear c0 c1 c2 ca0 ca1 hgw hgw2
      have c1 : wc.cell? ⟨gr, 1, none⟩ = some (.int .i64 at_) := (blk_cell H1.out.box 1).trans rfl
      have c2 : wc.cell? ⟨gr, 2, none⟩ = some (.int .i64 0) := (blk_cell H1.out.box 2).trans rfl
      have f1 := blk_frozen H1.out.box 1
      have f2 := blk_frozen H1.out.box 2
      have d0 : wc.cell? ⟨gx, 0, none⟩ = some (.int .i64 x1) := (blk_cell HX.out 0).trans rfl
      have d1 : wc.cell? ⟨gx, 1, none⟩ = some (.string x2) := (blk_cell HX.out 1).trans rfl
      have d3 : wc.cell? ⟨gx, 3, none⟩ = some (.int .i64 x4) := (blk_cell HX.out 3).trans rfl
      have d4 : wc.cell? ⟨gx, 4, none⟩ = some (.int .i64 x5) := (blk_cell HX.out 4).trans rfl
      by_cases h4 : x5 = 0
      · have q1 : (x5 == 0) = true := beq_iff_eq.2 h4
        by_cases h5 : x1 > most
        · have q2 : decide (x1 > most) = true := decide_eq_true h5
          have HQ := Aside0.mk (show ((0 : Int), x4, other) = (n, a1, e1) by rw [← HR.out]; exact (if_pos ⟨h4, h5⟩).symm)
          clear h4 h5
          go_wp2
          go_ret
          have hq := HQ.out
          simp only [Prod.mk.injEq] at hq
          obtain ⟨rfl, rfl, rfl⟩ := hq
          exact ⟨rfl, (H1.out.put x4 x5).err _, (((Turned.of_below HB.out).set (p := ⟨gr, 1, none⟩) (.inr rfl) _).set (p := ⟨gr, 2, none⟩) (.inr rfl) _).set (p := ⟨gr, 2, none⟩) (.inr rfl) _⟩
        · have q2 : decide (x1 > most) = false := decide_eq_false h5
          have HQ := Aside0.mk (show (x1, x4, x5) = (n, a1, e1) by rw [← HR.out]; exact (if_neg (fun h => h5 h.2)).symm)
          clear h4 h5
          go_wp2
          go_ret
          have hq := HQ.out
          simp only [Prod.mk.injEq] at hq
          obtain ⟨rfl, rfl, rfl⟩ := hq
          exact ⟨rfl, H1.out.put _ _, ((Turned.of_below HB.out).set (p := ⟨gr, 1, none⟩) (.inr rfl) _).set (p := ⟨gr, 2, none⟩) (.inr rfl) _⟩
      · have q1 : (x5 == 0) = false := beq_eq_false_iff_ne.2 h4
        have HQ := Aside0.mk (show (x1, x4, x5) = (n, a1, e1) by rw [← HR.out]; exact (if_neg (fun h => h4 h.1)).symm)
        clear h4
        go_wp2
        go_ret
        have hq := HQ.out
        simp only [Prod.mk.injEq] at hq
        obtain ⟨rfl, rfl, rfl⟩ := hq
        exact ⟨rfl, H1.out.put _ _, ((Turned.of_below HB.out).set (p := ⟨gr, 1, none⟩) (.inr rfl) _).set (p := ⟨gr, 2, none⟩) (.inr rfl) _⟩
  · rw [if_neg he] at hf
    simp only [Option.some.injEq, Prod.mk.injEq] at hf
    obtain ⟨rfl, rfl, rfl⟩ := hf
    have q1 : (e != 0) = true := bne_iff_ne.2 he
    clear he h
    go_enter Try.func25, Try.ntmps25
    go_wp2
    go_ret
    exact ⟨rfl, H0.out, Turned.refl _ _⟩
set_option maxHeartbeats 8000000 in
set_option maxRecDepth 100000 in
theorem text_r {w0 w : World} {gr : Nat} {A : Option Addr} {c : Nat} {bs : List Int} {at_ e : Int} (h : Rdr 61 w0 w gr A c bs at_ e) (k : Nat) (s : ByteArray) (a1 e1 : Int) (hf : textG (refT k) bs at_ e = some (s, a1, e1)) :
    Calls Try.prog 26 #[.pointer (some ⟨gr, 0, none⟩)] w fun en w' => en = .returned (.string s) ∧ Rdr 61 w0 w' gr A c bs a1 e1 ∧ Turned gr w w' := by
  have mixed : Try.prog.follows Departure.mixedOrders = true := by kernel_rfl
  have hu82 := Try.underlying82
  have H0 := Aside0.mk h
  have c0 : w.cell? ⟨gr, 0, none⟩ = some (.slice A bs.length c) := (blk_cell h.box 0).trans rfl
  have c1 : w.cell? ⟨gr, 1, none⟩ = some (.int .i64 at_) := (blk_cell h.box 1).trans rfl
  have c2 : w.cell? ⟨gr, 2, none⟩ = some (.int .i64 e) := (blk_cell h.box 2).trans rfl
  unfold textG at hf
  by_cases he : e = 0
  · rw [if_pos he] at hf
    subst he
    obtain ⟨y, hr⟩ : ∃ y, y = (s, a1, e1) := ⟨_, rfl⟩
    rw [← hr] at hf
    unfold refT at hf
    obtain ⟨⟨x1, x2, x3, x4, x5⟩, hg, hy⟩ := Option.map_eq_some_iff.1 hf
    clear hf
    subst hy
    have HF := Aside0.mk hg
    have HR := Aside0.mk hr
    clear h hg hr
    have ca0 : (w.alloc (.cells #[.int .i64 0, .string (⟨#[]⟩ : ByteArray), .slice none 0 0, .int .i64 0, .int .i64 0] 82 (0, 0))).cell? ⟨gr, 0, none⟩ = some (.slice A bs.length c) := (blk_cell (blk_alloc H0.out.box _) 0).trans rfl
    have ca1 : (w.alloc (.cells #[.int .i64 0, .string (⟨#[]⟩ : ByteArray), .slice none 0 0, .int .i64 0, .int .i64 0] 82 (0, 0))).cell? ⟨gr, 1, none⟩ = some (.int .i64 at_) := (blk_cell (blk_alloc H0.out.box _) 1).trans rfl
    have hgw : gr ≠ w.heap.size := Nat.ne_of_lt (blk_lt H0.out.box)
    have hgw2 : w.heap.size ≠ gr := Ne.symm hgw
    go_enter Try.func26, Try.ntmps26
    go_upto_region 3 with (fail)
    go_cut [3] from 3 to 29 (fun v3 wc => ∃ gx vx, v3 = .pointer (some ⟨gx, 0, none⟩) ∧ Aside0 (Below w.heap.size w wc) ∧ Aside0 (w.heap.size ≤ gx) ∧ Aside0 (wc.heap[gx]? = some (.cells #[.int .i64 x1, .string x2, vx, .int .i64 x4, .int .i64 x5] 82 (0, 0))))
    case first =>
      go_region_with (first
        | (go_at_call 48; (with_reducible refine (shelfmarkref01_GetText_s k _ _ bs at_ 9223372036854775807 x1 x2 x3 x4 x5 _ ?side1 ?side2 HF.out).mono ?_); (case side1 => repeat (first | exact Kd.C_below H0.out.reads H0.out.below | (with_reducible refine Kd.C_alloc ?_ _) | (with_reducible refine Kd.C_drewN ?_ _) | (with_reducible refine Kd.C_drew ?_))); (case side2 => exact H0.out.room); rintro e w5 ⟨Ax, cx, rfl, hB⟩; have BX5 := Aside0.mk (show w5.heap[w.heap.size]? = some (.cells #[.int .i64 0, .string (⟨#[]⟩ : ByteArray), .slice none 0 0, .int .i64 0, .int .i64 0] 82 (0, 0)) from blk_below (blk_drew (blk_new w _)) hB); have z0 : w5.cell? ⟨w.heap.size, 0, none⟩ = some (.int .i64 0) := (blk_cell BX5.out 0).trans rfl; have y0 := blk_frozen BX5.out 0; have z1 : w5.cell? ⟨w.heap.size, 1, none⟩ = some (.string (⟨#[]⟩ : ByteArray)) := (blk_cell BX5.out 1).trans rfl; have y1 := blk_frozen BX5.out 1; have z2 : w5.cell? ⟨w.heap.size, 2, none⟩ = some (.slice none 0 0) := (blk_cell BX5.out 2).trans rfl; have y2 := blk_frozen BX5.out 2; have z3 : w5.cell? ⟨w.heap.size, 3, none⟩ = some (.int .i64 0) := (blk_cell BX5.out 3).trans rfl; have y3 := blk_frozen BX5.out 3; have z4 : w5.cell? ⟨w.heap.size, 4, none⟩ = some (.int .i64 0) := (blk_cell BX5.out 4).trans rfl; have y4 := blk_frozen BX5.out 4; have HB5 : Aside0 (Below w.heap.size w w5) := ⟨by refine below_step ?_ hB; with_reducible repeat (first | exact Below.refl _ _ | refine pw_below_drewN ?_ _ | refine below_drew ?_ | refine below_alloc ?_ _)⟩; have HX5 : Aside0 (w5.heap[gr]? = some (.cells #[.slice A bs.length c, .int .i64 at_, .int .i64 0] 61 (0, 0))) := ⟨by refine blk_below ?_ hB; with_reducible repeat (first | exact H0.out.box | refine blk_drewN ?_ _ | refine blk_drew ?_ | refine blk_alloc ?_ _)⟩; clear hB)
        | (go_at_call 48; (with_reducible refine (shelfmarkref01_GetText_s k _ _ bs at_ 9223372036854775807 x1 x2 x3 x4 x5 _ ?side1 ?side2 HF.out).mono ?_); (case side1 => repeat (first | exact Kd.C_below H0.out.reads H0.out.below | (with_reducible refine Kd.C_alloc ?_ _) | (with_reducible refine Kd.C_drewN ?_ _) | (with_reducible refine Kd.C_drew ?_))); (case side2 => exact H0.out.room); rintro e w5 ⟨Ax, cx, rfl, hB⟩; have HB5 : Aside0 (Below w.heap.size w w5) := ⟨by refine below_step ?_ hB; with_reducible repeat (first | exact Below.refl _ _ | refine pw_below_drewN ?_ _ | refine below_drew ?_ | refine below_alloc ?_ _)⟩; have HX5 : Aside0 (w5.heap[gr]? = some (.cells #[.slice A bs.length c, .int .i64 at_, .int .i64 0] 61 (0, 0))) := ⟨by refine blk_below ?_ hB; with_reducible repeat (first | exact H0.out.box | refine blk_drewN ?_ _ | refine blk_drew ?_ | refine blk_alloc ?_ _)⟩; clear hB))
      all_goals (try go_wp2)
      all_goals go_meet
      all_goals refine ⟨_, .slice Ax x3.length cx, rfl, ⟨?_⟩, ⟨?_⟩, ⟨?_⟩⟩
      all_goals first
        | with_reducible exact below_alloc HB5.out _
        | with_reducible exact blk_new w5 _
        | with_reducible exact HB5.out.size
        | with_reducible exact Nat.le_refl _
        | with_reducible exact (Below.setCell (Below.setCell (Below.setCell (Below.setCell (Below.setCell HB5.out (p := ⟨w.heap.size, 0, none⟩) (Nat.le_refl _) _) (p := ⟨w.heap.size, 1, none⟩) (Nat.le_refl _) _) (p := ⟨w.heap.size, 2, none⟩) (Nat.le_refl _) _) (p := ⟨w.heap.size, 3, none⟩) (Nat.le_refl _) _) (p := ⟨w.heap.size, 4, none⟩) (Nat.le_refl _) _)
        | with_reducible exact (blk_put (cs' := #[.int .i64 x1, .string x2, .slice Ax x3.length cx, .int .i64 x4, .int .i64 x5]) (blk_put (cs' := #[.int .i64 x1, .string x2, .slice Ax x3.length cx, .int .i64 x4, .int .i64 0]) (blk_put (cs' := #[.int .i64 x1, .string x2, .slice Ax x3.length cx, .int .i64 0, .int .i64 0]) (blk_put (cs' := #[.int .i64 x1, .string x2, .slice none 0 0, .int .i64 0, .int .i64 0]) (blk_put (cs' := #[.int .i64 x1, .string (⟨#[]⟩ : ByteArray), .slice none 0 0, .int .i64 0, .int .i64 0]) BX5.out 0 (.int .i64 x1) rfl) 1 (.string x2) rfl) 2 (.slice Ax x3.length cx) rfl) 3 (.int .i64 x4) rfl) 4 (.int .i64 x5) rfl)
    case rest =>
      obtain ⟨gx, vx, rfl, HB, HG, HX⟩ := hcut
      have H1 := Aside0.mk (H0.out.later HB.out)
      have hn1 : gx ≠ gr := blk_ne HX.out H1.out.box (by decide)
      have hn2 := Ne.symm hn1
      clear c0 c1 c2 ca0 ca1 hgw hgw2
      have c1 : wc.cell? ⟨gr, 1, none⟩ = some (.int .i64 at_) := (blk_cell H1.out.box 1).trans rfl
      have c2 : wc.cell? ⟨gr, 2, none⟩ = some (.int .i64 0) := (blk_cell H1.out.box 2).trans rfl
      have f1 := blk_frozen H1.out.box 1
      have f2 := blk_frozen H1.out.box 2
      have d0 : wc.cell? ⟨gx, 0, none⟩ = some (.int .i64 x1) := (blk_cell HX.out 0).trans rfl
      have d1 : wc.cell? ⟨gx, 1, none⟩ = some (.string x2) := (blk_cell HX.out 1).trans rfl
      have d3 : wc.cell? ⟨gx, 3, none⟩ = some (.int .i64 x4) := (blk_cell HX.out 3).trans rfl
      have d4 : wc.cell? ⟨gx, 4, none⟩ = some (.int .i64 x5) := (blk_cell HX.out 4).trans rfl
      go_wp2
      go_ret
      have hq := HR.out
      simp only [Prod.mk.injEq] at hq
      obtain ⟨rfl, rfl, rfl⟩ := hq
      exact ⟨rfl, H1.out.put _ _, ((Turned.of_below HB.out).set (p := ⟨gr, 1, none⟩) (.inr rfl) _).set (p := ⟨gr, 2, none⟩) (.inr rfl) _⟩
  · rw [if_neg he] at hf
    simp only [Option.some.injEq, Prod.mk.injEq] at hf
    obtain ⟨rfl, rfl, rfl⟩ := hf
    have q1 : (e != 0) = true := bne_iff_ne.2 he
    clear he h
    go_enter Try.func26, Try.ntmps26
    go_wp2
    go_ret
    exact ⟨rfl, H0.out, Turned.refl _ _⟩
end Go.Proofs.Ythghacojbhjeaaa.Lf
