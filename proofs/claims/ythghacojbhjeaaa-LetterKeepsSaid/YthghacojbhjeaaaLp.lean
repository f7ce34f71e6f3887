/- DERIVED. letter.Same: what it computes, and its code walked. Conditions: those that each lemma names. DERIVED. slices.Clip and letter.Copy: their code walked. Conditions: those that each lemma names. DERIVED. A region of LetterKeeps that makes two copies and two variables in whatever order. Conditions: those that each lemma names. -/
import Derived.Test.YthghacojbhjeaaaLj
import Derived.BigQuiet
import Derived.Test.YthghacojbhjeaaaPKpx15
import Derived.Orders
import Derived.Laws.Tables
namespace Go.Proofs.Ythghacojbhjeaaa.Lm
open Go Go.RowKit Go.Proofs.Ythghacojbhjeaaa.PKp Go.Proofs.YthghacojbhjeaaaW.PrintWords Go.Proofs.YthghacojbhjeaaaW.PrintLast Go.Proofs.Ythghacojbhjeaaa.Hl Go.Proofs.Ythghacojbhjeaaa.Fv Go.Proofs.Ythghacojbhjeaaa.La Go.Proofs.Ythghacojbhjeaaa.Lc Go.Proofs.Ythghacojbhjeaaa.Ld Go.Proofs.Ythghacojbhjeaaa.Le Go.Proofs.Ythghacojbhjeaaa.Lh Go.Proofs.Ythghacojbhjeaaa.Lj
set_option linter.unusedSimpArgs false
set_option linter.unusedVariables false
/-- A letter's cells. -/
def LS (x : S27) (A9 : Option Addr) (c9 : Nat) (A10 : Option Addr) (c10 : Nat) : Array Value := #[.int .i64 x.f0, .int .i64 x.f1, .int .i64 x.f2, .int .i64 x.f3, .int .i64 x.f4, .int .i64 x.f5, .int .i64 x.f6, .string x.f7, .string x.f8, .slice A9 x.f9.length c9, .slice A10 x.f10.length c10, .int .i64 x.f11, .bool x.f12, .string x.f13]
def g0F (a b : S27) : Bool := (a.f0 == b.f0 && a.f11 == b.f11) && a.f12 == b.f12
def eqN (a b : Int) : Bool := a == b
def eqT (a b : ByteArray) : Bool := a.toList == b.toList
/-- The first i of two lists are the same. -/
def allEq {α : Type} (e : α → α → Bool) (x y : List α) (i : Nat) : Bool := ((x.zip y).take i).all fun p => e p.1 p.2
theorem allEq_step {α : Type} (e : α → α → Bool) (x y : List α) (i : Nat) (h : i < x.length) (k : i < y.length) : allEq e x y (i + 1) = (allEq e x y i && e x[i] y[i]) := by
  unfold allEq
  rw [all_step _ (x.zip y) i (by rw [List.length_zip]; omega), List.getElem_zip]
def nsS (x : S27) : List Int := [x.f1, x.f2, x.f3, x.f4, x.f5, x.f6]
def tsS (x : S27) : List ByteArray := [x.f7, x.f8, x.f13]
theorem LS_num (x : S27) (A9 : Option Addr) (c9 : Nat) (A10 : Option Addr) (c10 : Nat) : ∀ (i : Nat) (h : i < 6), (LS x A9 c9 A10 c10)[1 + i]? = some (.int .i64 ((nsS x)[i]'h))
  | 0, _ | 1, _ | 2, _ | 3, _ | 4, _ | 5, _ => rfl
  | n + 6, h => by omega
def fT : Nat → Nat := fun i => if i = 0 then 7 else if i = 1 then 8 else 13
theorem LS_txt (x : S27) (A9 : Option Addr) (c9 : Nat) (A10 : Option Addr) (c10 : Nat) : ∀ (i : Nat) (h : i < 3), (LS x A9 c9 A10 c10)[fT i]? = some (.string ((tsS x)[i]'h))
  | 0, _ | 1, _ | 2, _ => rfl
  | n + 3, h => by omega
theorem txt_field : ∀ (i : Nat) (h : i < 3), [7, 8, 13][i]? = some (fT i)
  | 0, _ | 1, _ | 2, _ => rfl
  | n + 3, h => by omega
/-- What letter.Same answers; ep, ei: what Equal says of the pairs and of the intents. -/
def sameF (a b : S27) (ep ei : Bool) : Bool := ((g0F a b && allEq eqN (nsS a) (nsS b) 6) && allEq eqT (tsS a) (tsS b) 3) && (ep && ei)
set_option maxHeartbeats 16000000 in
set_option maxRecDepth 100000 in
theorem same_v (k : Nat) (w : World) (a b : S27) (A9 A10 B9 B10 : Option Addr) (c9 c10 d9 d10 : Nat) (ep ei : Bool) (hp : Kd.C k39 w A9 a.f9.length a.f9) (hc9 : a.f9.length ≤ c9) (hq : Kd.C k41 w A10 a.f10.length a.f10) (hc10 : a.f10.length ≤ c10) (hp2 : Kd.C k39 w B9 b.f9.length b.f9) (hd9 : b.f9.length ≤ d9) (hq2 : Kd.C k41 w B10 b.f10.length b.f10) (hd10 : b.f10.length ≤ d10)
    (hep : slices_Equal_api_Pair_api_Pair.f k a.f9 b.f9 = some ep) (hei : slices_Equal_api_Intent_api_Intent.f k a.f10 b.f10 = some ei) :
    Calls Try.prog 15 #[.agg #[.int .i64 a.f0, .int .i64 a.f1, .int .i64 a.f2, .int .i64 a.f3, .int .i64 a.f4, .int .i64 a.f5, .int .i64 a.f6, .string a.f7, .string a.f8, .slice A9 a.f9.length c9, .slice A10 a.f10.length c10, .int .i64 a.f11, .bool a.f12, .string a.f13], .agg #[.int .i64 b.f0, .int .i64 b.f1, .int .i64 b.f2, .int .i64 b.f3, .int .i64 b.f4, .int .i64 b.f5, .int .i64 b.f6, .string b.f7, .string b.f8, .slice B9 b.f9.length d9, .slice B10 b.f10.length d10, .int .i64 b.f11, .bool b.f12, .string b.f13]] w fun en w' => en = .returned (.bool (sameF a b ep ei)) ∧ Below w.heap.size w w' := by
  have hu27 := Try.underlying27
  have hu39 := Try.underlying39
  have hu41 := Try.underlying41
  have mixed : Try.prog.follows Departure.mixedOrders = true := by kernel_rfl
  have HP := Aside0.mk hp
  have HQ := Aside0.mk hq
  have HP2 := Aside0.mk hp2
  have HQ2 := Aside0.mk hq2
  have HC := Aside0.mk (And.intro (And.intro hc9 hc10) (And.intro hd9 hd10))
  have HEP := Aside0.mk hep
  have HEI := Aside0.mk hei
  clear hp hq hp2 hq2 hc9 hc10 hd9 hd10 hep hei
  go_enter Try.func15, Try.ntmps15
  go_upto_region 1 with (first
      | ((with_reducible refine gate_dst (N := 2) rfl ?_); refine box_event ?hg (N := 2) ?hd (cs := #[.int .i64 a.f0, .int .i64 a.f1, .int .i64 a.f2, .int .i64 a.f3, .int .i64 a.f4, .int .i64 a.f5, .int .i64 a.f6, .string a.f7, .string a.f8, .slice A9 a.f9.length c9, .slice A10 a.f10.length c10, .int .i64 a.f11, .bool a.f12, .string a.f13]) (t := 27) ?hr ?_; (case hd => rfl); (case hg => rfl); (case hr => first | (go_simp; done) | (go_simp; rfl)); intro g1 hg_ wa hbox_ hb_; have B1 := Aside0.mk (show wa.heap[g1]? = some (.cells (LS a A9 c9 A10 c10) 27 (0, 0)) from hbox_); have HB1 := Aside0.mk hb_; have LG1 := Aside0.mk (show w.heap.size ≤ g1 by omega); clear hb_ hbox_ hg_)
      | ((with_reducible refine gate_dst (N := 3) rfl ?_); refine box_event ?hg (N := 3) ?hd (cs := #[.int .i64 b.f0, .int .i64 b.f1, .int .i64 b.f2, .int .i64 b.f3, .int .i64 b.f4, .int .i64 b.f5, .int .i64 b.f6, .string b.f7, .string b.f8, .slice B9 b.f9.length d9, .slice B10 b.f10.length d10, .int .i64 b.f11, .bool b.f12, .string b.f13]) (t := 27) ?hr ?_; (case hd => rfl); (case hg => rfl); (case hr => first | (go_simp; done) | (go_simp; rfl)); intro g2 hg_ wb hbox_ hb_; have B2 := Aside0.mk (show wb.heap[g2]? = some (.cells (LS b B9 d9 B10 d10) 27 (0, 0)) from hbox_); have HB2 := Aside0.mk (below_step HB1.out hb_); have B1b := Aside0.mk (blk_below B1.out hb_); clear hb_ hbox_ hg_))
  have e0 : wb.cell? ⟨g1, 0, none⟩ = some (.int .i64 a.f0) := (blk_cell B1b.out 0).trans rfl
  have e11 : wb.cell? ⟨g1, 11, none⟩ = some (.int .i64 a.f11) := (blk_cell B1b.out 11).trans rfl
  have e12 : wb.cell? ⟨g1, 12, none⟩ = some (.bool a.f12) := (blk_cell B1b.out 12).trans rfl
  have s0 : wb.cell? ⟨g2, 0, none⟩ = some (.int .i64 b.f0) := (blk_cell B2.out 0).trans rfl
  have s11 : wb.cell? ⟨g2, 11, none⟩ = some (.int .i64 b.f11) := (blk_cell B2.out 11).trans rfl
  have s12 : wb.cell? ⟨g2, 12, none⟩ = some (.bool b.f12) := (blk_cell B2.out 12).trans rfl
  go_cut [5] from 12 to 30 (fun v5 wc => v5 = .bool (g0F a b) ∧ Aside0 (Below w.heap.size w wc) ∧ Aside0 (wc.heap[g1]? = some (.cells (LS a A9 c9 A10 c10) 27 (0, 0))) ∧ Aside0 (wc.heap[g2]? = some (.cells (LS b B9 d9 B10 d10) 27 (0, 0))))
  case first =>
    cases h0 : (a.f0 == b.f0) with
    | true =>
      cases h1 : (a.f11 == b.f11) with
      | true =>
        have HG := Aside0.mk (show g0F a b = (a.f12 == b.f12) by unfold g0F; rw [h0, h1]; rfl)
        go_wp2
        go_meet
        exact ⟨by rw [HG.out], HB2, B1b, B2⟩
      | false =>
        have HG := Aside0.mk (show g0F a b = false by unfold g0F; rw [h0, h1]; rfl)
        go_wp2
        go_meet
        exact ⟨by rw [HG.out], HB2, B1b, B2⟩
    | false =>
      have HG := Aside0.mk (show g0F a b = false by unfold g0F; rw [h0]; rfl)
      go_wp2
      go_meet
      exact ⟨by rw [HG.out], HB2, B1b, B2⟩
  case rest =>
    obtain ⟨rfl, HBc, B1c, B2c⟩ := hcut
    obtain ⟨g0, hg0⟩ : ∃ g0, g0 = g0F a b := ⟨_, rfl⟩
    rw [← hg0]
    have HG0 := Aside0.mk hg0
    clear hg0 e0 e11 e12 s0 s11 s12 HB1 HB2
    go_wp2_with (first
          | ((with_reducible refine gate_callee (f := 18) rfl ?_); refine goesL_ (some 31) rfl rfl Try.func18 (by kernel_rfl) rfl #[.pointer (some ⟨g1, 0, none⟩)] rfl (by (try simp only [List.map_toArray, List.map_cons, List.map_nil]); first | done | rfl) ?_; (refine (numbers_v B1c.out).mono ?_); rintro en wd ⟨gp, rfl, hge_, hbp_, hb_⟩; refine ⟨_, rfl, ?_⟩; have GP := Aside0.mk hbp_; have HBd := Aside0.mk (below_step HBc.out hb_); have B1d := Aside0.mk (blk_below B1c.out hb_); have B2d := Aside0.mk (blk_below B2c.out hb_); clear hge_ hbp_ hb_)
          | ((with_reducible refine gate_callee (f := 18) rfl ?_); refine goesL_ (some 32) rfl rfl Try.func18 (by kernel_rfl) rfl #[.pointer (some ⟨g2, 0, none⟩)] rfl (by (try simp only [List.map_toArray, List.map_cons, List.map_nil]); first | done | rfl) ?_; (refine (numbers_v B2d.out).mono ?_); rintro en we ⟨gq, rfl, hge_, hbp_, hb_⟩; refine ⟨_, rfl, ?_⟩; have GQ := Aside0.mk hbp_; have GPe := Aside0.mk (blk_below GP.out hb_); have HBe := Aside0.mk (below_step HBd.out hb_); have B1e := Aside0.mk (blk_below B1d.out hb_); have B2e := Aside0.mk (blk_below B2d.out hb_); clear hge_ hbp_ hb_))
    clear GP HBd B1d B2d HBc B1c B2c
    go_loopg [5, 35] 6 (fun kq v5 v35 wr => ∃ (i : Nat) (gb : Bool), v35 = .int .i64 (i : Int) ∧ v5 = .bool gb ∧ Aside0 (i ≤ 6 ∧ 6 - i ≤ kq) ∧ Aside0 (gb = (g0 && allEq eqN (nsS a) (nsS b) i)) ∧ Aside0 (Below w.heap.size w wr) ∧ Aside0 (wr.heap[g1]? = some (.cells (LS a A9 c9 A10 c10) 27 (0, 0))) ∧ Aside0 (wr.heap[g2]? = some (.cells (LS b B9 d9 B10 d10) 27 (0, 0))) ∧ Aside0 (wr.heap[gp]? = some (.cells (ptrs g1 [1, 2, 3, 4, 5, 6]) 50 (0, 0))) ∧ Aside0 (wr.heap[gq]? = some (.cells (ptrs g2 [1, 2, 3, 4, 5, 6]) 50 (0, 0))))
    case atStart => exact ⟨0, g0, rfl, rfl, ⟨by decide⟩, ⟨by rw [show allEq eqN (nsS a) (nsS b) 0 = true from rfl, Bool.and_true]⟩, HBe, B1e, B2e, GPe, GQ⟩
    case round =>
      obtain ⟨i, gb, rfl, rfl, HI, HGB, HBr, B1r, B2r, GPr, GQr⟩ := hrel
      by_cases hlt : i < 6
      · obtain ⟨x, hx⟩ : ∃ x, x = ((nsS a))[i]'hlt := ⟨_, rfl⟩
        obtain ⟨y, hy⟩ : ∃ y, y = ((nsS b))[i]'hlt := ⟨_, rfl⟩
        have p1 : wr.cell? ⟨gp, i, none⟩ = some (.pointer (some ⟨g1, 1 + i, none⟩)) := ptrs_at GPr.out (num_field i hlt)
        have p2 : wr.cell? ⟨gq, i, none⟩ = some (.pointer (some ⟨g2, 1 + i, none⟩)) := ptrs_at GQr.out (num_field i hlt)
        have p3 : wr.cell? ⟨g1, 1 + i, none⟩ = some (.int .i64 x) := (blk_cell B1r.out _).trans (hx ▸ LS_num _ _ _ _ _ i hlt)
        have p4 : wr.cell? ⟨g2, 1 + i, none⟩ = some (.int .i64 y) := (blk_cell B2r.out _).trans (hy ▸ LS_num _ _ _ _ _ i hlt)
        have HS := Aside0.mk (show (g0 && allEq eqN (nsS a) (nsS b) (i + 1)) = (gb && eqN x y) by rw [allEq_step eqN (nsS a) (nsS b) i hlt hlt, ← Bool.and_assoc, ← HGB.out, hx, hy])
        have q1 : decide ((i : Int) < 6) = true := decide_eq_true (by omega)
        clear hx hy
        cases gb with
        | true =>
          go_wp2
          go_quiet (fail)
          go_wp2
          go_roundg (6 - (i + 1))
          case measure => have := HI.out.2; omega
          case rel => exact ⟨i + 1, _, by first | rfl | (congr 1; exact Go.IntWalk.wrap64_in _ (by omega)), rfl, ⟨by omega, Nat.le_refl _⟩, ⟨by rw [HS.out, Bool.true_and]; rfl⟩, ⟨pw_below_drewN HBr.out _⟩, ⟨blk_drewN B1r.out _⟩, ⟨blk_drewN B2r.out _⟩, ⟨blk_drewN GPr.out _⟩, ⟨blk_drewN GQr.out _⟩⟩
        | false =>
          go_wp2
          go_quiet (fail)
          go_wp2
          go_roundg (6 - (i + 1))
          case measure => have := HI.out.2; omega
          case rel => exact ⟨i + 1, false, by first | rfl | (congr 1; exact Go.IntWalk.wrap64_in _ (by omega)), rfl, ⟨by omega, Nat.le_refl _⟩, ⟨by rw [HS.out, Bool.false_and]⟩, ⟨pw_below_drewN HBr.out _⟩, ⟨blk_drewN B1r.out _⟩, ⟨blk_drewN B2r.out _⟩, ⟨blk_drewN GPr.out _⟩, ⟨blk_drewN GQr.out _⟩⟩
      · obtain rfl : i = 6 := by have := HI.out.1; omega
        have HBs := HBr
        have B1s := B1r
        have B2s := B2r
        have HGs := Aside0.mk (show gb = (g0 && allEq eqN (nsS a) (nsS b) 6) from HGB.out)
        clear HBr B1r B2r GPr GQr HGB hlt HI
        obtain ⟨g1_, hg1_⟩ : ∃ g, g = gb := ⟨_, rfl⟩
        rw [← hg1_] at HGs ⊢
        have HGn := HGs
        clear HGs hg1_
        go_wp2_with (first
              | ((with_reducible refine gate_callee (f := 19) rfl ?_); refine goesL_ (some 55) rfl rfl Try.func19 (by kernel_rfl) rfl #[.pointer (some ⟨g1, 0, none⟩)] rfl (by (try simp only [List.map_toArray, List.map_cons, List.map_nil]); first | done | rfl) ?_; (refine (texts_v B1s.out).mono ?_); rintro en wd ⟨gp, rfl, hge_, hbp_, hb_⟩; refine ⟨_, rfl, ?_⟩; have GP := Aside0.mk hbp_; have HBd := Aside0.mk (below_step HBs.out hb_); have B1d := Aside0.mk (blk_below B1s.out hb_); have B2d := Aside0.mk (blk_below B2s.out hb_); clear hge_ hbp_ hb_)
              | ((with_reducible refine gate_callee (f := 19) rfl ?_); refine goesL_ (some 56) rfl rfl Try.func19 (by kernel_rfl) rfl #[.pointer (some ⟨g2, 0, none⟩)] rfl (by (try simp only [List.map_toArray, List.map_cons, List.map_nil]); first | done | rfl) ?_; (refine (texts_v B2d.out).mono ?_); rintro en we ⟨gq, rfl, hge_, hbp_, hb_⟩; refine ⟨_, rfl, ?_⟩; have GQ := Aside0.mk hbp_; have GPe := Aside0.mk (blk_below GP.out hb_); have HBe := Aside0.mk (below_step HBd.out hb_); have B1e := Aside0.mk (blk_below B1d.out hb_); have B2e := Aside0.mk (blk_below B2d.out hb_); clear hge_ hbp_ hb_))
        clear GP HBd B1d B2d HBs B1s B2s
        go_loopg [5, 59] 3 (fun kq v5 v59 wr => ∃ (i : Nat) (gb : Bool), v59 = .int .i64 (i : Int) ∧ v5 = .bool gb ∧ Aside0 (i ≤ 3 ∧ 3 - i ≤ kq) ∧ Aside0 (gb = (g1_ && allEq eqT (tsS a) (tsS b) i)) ∧ Aside0 (Below w.heap.size w wr) ∧ Aside0 (wr.heap[g1]? = some (.cells (LS a A9 c9 A10 c10) 27 (0, 0))) ∧ Aside0 (wr.heap[g2]? = some (.cells (LS b B9 d9 B10 d10) 27 (0, 0))) ∧ Aside0 (wr.heap[gp]? = some (.cells (ptrs g1 [7, 8, 13]) 53 (0, 0))) ∧ Aside0 (wr.heap[gq]? = some (.cells (ptrs g2 [7, 8, 13]) 53 (0, 0))))
        case atStart => exact ⟨0, g1_, rfl, rfl, ⟨by decide⟩, ⟨by rw [show allEq eqT (tsS a) (tsS b) 0 = true from rfl, Bool.and_true]⟩, HBe, B1e, B2e, GPe, GQ⟩
        case round =>
          obtain ⟨i, gb, rfl, rfl, HI, HGB, HBr, B1r, B2r, GPr, GQr⟩ := hrel
          by_cases hlt : i < 3
          · obtain ⟨x, hx⟩ : ∃ x, x = ((tsS a))[i]'hlt := ⟨_, rfl⟩
            obtain ⟨y, hy⟩ : ∃ y, y = ((tsS b))[i]'hlt := ⟨_, rfl⟩
            have p1 : wr.cell? ⟨gp, i, none⟩ = some (.pointer (some ⟨g1, fT i, none⟩)) := ptrs_at GPr.out (txt_field i hlt)
            have p2 : wr.cell? ⟨gq, i, none⟩ = some (.pointer (some ⟨g2, fT i, none⟩)) := ptrs_at GQr.out (txt_field i hlt)
            have p3 : wr.cell? ⟨g1, fT i, none⟩ = some (.string x) := (blk_cell B1r.out _).trans (hx ▸ LS_txt _ _ _ _ _ i hlt)
            have p4 : wr.cell? ⟨g2, fT i, none⟩ = some (.string y) := (blk_cell B2r.out _).trans (hy ▸ LS_txt _ _ _ _ _ i hlt)
            have HS := Aside0.mk (show (g1_ && allEq eqT (tsS a) (tsS b) (i + 1)) = (gb && eqT x y) by rw [allEq_step eqT (tsS a) (tsS b) i hlt hlt, ← Bool.and_assoc, ← HGB.out, hx, hy])
            have q1 : decide ((i : Int) < 3) = true := decide_eq_true (by omega)
            clear hx hy
            cases gb with
            | true =>
              go_wp2
              go_quiet (fail)
              go_wp2
              go_roundg (3 - (i + 1))
              case measure => have := HI.out.2; omega
              case rel => exact ⟨i + 1, _, by first | rfl | (congr 1; exact Go.IntWalk.wrap64_in _ (by omega)), rfl, ⟨by omega, Nat.le_refl _⟩, ⟨by rw [HS.out, Bool.true_and]; rfl⟩, ⟨pw_below_drewN HBr.out _⟩, ⟨blk_drewN B1r.out _⟩, ⟨blk_drewN B2r.out _⟩, ⟨blk_drewN GPr.out _⟩, ⟨blk_drewN GQr.out _⟩⟩
            | false =>
              go_wp2
              go_quiet (fail)
              go_wp2
              go_roundg (3 - (i + 1))
              case measure => have := HI.out.2; omega
              case rel => exact ⟨i + 1, false, by first | rfl | (congr 1; exact Go.IntWalk.wrap64_in _ (by omega)), rfl, ⟨by omega, Nat.le_refl _⟩, ⟨by rw [HS.out, Bool.false_and]⟩, ⟨pw_below_drewN HBr.out _⟩, ⟨blk_drewN B1r.out _⟩, ⟨blk_drewN B2r.out _⟩, ⟨blk_drewN GPr.out _⟩, ⟨blk_drewN GQr.out _⟩⟩
          · obtain rfl : i = 3 := by have := HI.out.1; omega
            have HBs := HBr
            have B1s := B1r
            have B2s := B2r
            have HGs := Aside0.mk (show gb = (g1_ && allEq eqT (tsS a) (tsS b) 3) from HGB.out)
            clear HBr B1r B2r GPr GQr HGB hlt HI
            have HG2 := Aside0.mk (show gb = ((g0 && allEq eqN (nsS a) (nsS b) 6) && allEq eqT (tsS a) (tsS b) 3) from HGs.out.trans (by rw [HGn.out]))
            clear HGs HGn
            have e9 : wr.cell? ⟨g1, 9, none⟩ = some (.slice A9 a.f9.length c9) := (blk_cell B1s.out 9).trans rfl
            have s9 : wr.cell? ⟨g2, 9, none⟩ = some (.slice B9 b.f9.length d9) := (blk_cell B2s.out 9).trans rfl
            have e10 : wr.cell? ⟨g1, 10, none⟩ = some (.slice A10 a.f10.length c10) := (blk_cell B1s.out 10).trans rfl
            have s10 : wr.cell? ⟨g2, 10, none⟩ = some (.slice B10 b.f10.length d10) := (blk_cell B2s.out 10).trans rfl
            cases gb with
            | false =>
              go_wp2
              go_ret
              exact ⟨by unfold sameF; rw [← HG0.out, ← HG2.out]; rfl, HBs.out⟩
            | true =>
              cases hP : ep with
              | false =>
                have HPv := Aside0.mk hP
                clear hP
                go_wp2_with (first
                      | ((with_reducible refine gate_callee (f := 39) rfl ?_); (try (refine gate_guard (by rfl) ?_; dsimp only)); refine goesL_ (some 85) rfl rfl Try.func39 (by kernel_rfl) rfl #[.slice A9 a.f9.length c9, .slice B9 b.f9.length d9] rfl (by (try simp only [List.map_toArray, List.map_cons, List.map_nil]); first | done | rfl) ?_; (refine (slices_Equal_api_Pair_api_Pair.calls k A9 c9 a.f9 B9 d9 b.f9 _ _ (Kd.C_below HP.out HBs.out) HC.out.1.1 (Kd.C_below HP2.out HBs.out) HC.out.2.1 (HEP.out.trans (congrArg some HPv.out))).mono ?_); rintro en wx ⟨rfl, hb_⟩; refine ⟨_, rfl, ?_⟩; have HBx := Aside0.mk (below_step HBs.out hb_.below); have B1wx := Aside0.mk (blk_below B1s.out hb_.below); have B2wx := Aside0.mk (blk_below B2s.out hb_.below); clear e9 s9 e10 s10; have e10 : wx.cell? ⟨g1, 10, none⟩ = some (.slice A10 a.f10.length c10) := (blk_cell B1wx.out 10).trans rfl; have s10 : wx.cell? ⟨g2, 10, none⟩ = some (.slice B10 b.f10.length d10) := (blk_cell B2wx.out 10).trans rfl; clear hb_)
                      | ((with_reducible refine gate_callee (f := 40) rfl ?_); (try (refine gate_guard (by rfl) ?_; dsimp only)); refine goesL_ (some 92) rfl rfl Try.func40 (by kernel_rfl) rfl #[.slice A10 a.f10.length c10, .slice B10 b.f10.length d10] rfl (by (try simp only [List.map_toArray, List.map_cons, List.map_nil]); first | done | rfl) ?_; (refine (slices_Equal_api_Intent_api_Intent.calls k A10 c10 a.f10 B10 d10 b.f10 _ _ (Kd.C_below HQ.out HBx.out) HC.out.1.2 (Kd.C_below HQ2.out HBx.out) HC.out.2.2 (HEI.out.trans (congrArg some HIv.out))).mono ?_); rintro en wy ⟨rfl, hb_⟩; refine ⟨_, rfl, ?_⟩; have HBy := Aside0.mk (below_step HBx.out hb_.below); have B1wy := Aside0.mk (blk_below B1wx.out hb_.below); have B2wy := Aside0.mk (blk_below B2wx.out hb_.below); clear hb_))
                go_ret
                exact ⟨by unfold sameF; rw [← HG0.out, ← HG2.out, HPv.out]; rfl, HBx.out⟩
              | true =>
                have HPv := Aside0.mk hP
                clear hP
                cases hI : ei with
                | false =>
                  have HIv := Aside0.mk hI
                  clear hI
                  go_wp2_with (first
                        | ((with_reducible refine gate_callee (f := 39) rfl ?_); (try (refine gate_guard (by rfl) ?_; dsimp only)); refine goesL_ (some 85) rfl rfl Try.func39 (by kernel_rfl) rfl #[.slice A9 a.f9.length c9, .slice B9 b.f9.length d9] rfl (by (try simp only [List.map_toArray, List.map_cons, List.map_nil]); first | done | rfl) ?_; (refine (slices_Equal_api_Pair_api_Pair.calls k A9 c9 a.f9 B9 d9 b.f9 _ _ (Kd.C_below HP.out HBs.out) HC.out.1.1 (Kd.C_below HP2.out HBs.out) HC.out.2.1 (HEP.out.trans (congrArg some HPv.out))).mono ?_); rintro en wx ⟨rfl, hb_⟩; refine ⟨_, rfl, ?_⟩; have HBx := Aside0.mk (below_step HBs.out hb_.below); have B1wx := Aside0.mk (blk_below B1s.out hb_.below); have B2wx := Aside0.mk (blk_below B2s.out hb_.below); clear e9 s9 e10 s10; have e10 : wx.cell? ⟨g1, 10, none⟩ = some (.slice A10 a.f10.length c10) := (blk_cell B1wx.out 10).trans rfl; have s10 : wx.cell? ⟨g2, 10, none⟩ = some (.slice B10 b.f10.length d10) := (blk_cell B2wx.out 10).trans rfl; clear hb_)
                        | ((with_reducible refine gate_callee (f := 40) rfl ?_); (try (refine gate_guard (by rfl) ?_; dsimp only)); refine goesL_ (some 92) rfl rfl Try.func40 (by kernel_rfl) rfl #[.slice A10 a.f10.length c10, .slice B10 b.f10.length d10] rfl (by (try simp only [List.map_toArray, List.map_cons, List.map_nil]); first | done | rfl) ?_; (refine (slices_Equal_api_Intent_api_Intent.calls k A10 c10 a.f10 B10 d10 b.f10 _ _ (Kd.C_below HQ.out HBx.out) HC.out.1.2 (Kd.C_below HQ2.out HBx.out) HC.out.2.2 (HEI.out.trans (congrArg some HIv.out))).mono ?_); rintro en wy ⟨rfl, hb_⟩; refine ⟨_, rfl, ?_⟩; have HBy := Aside0.mk (below_step HBx.out hb_.below); have B1wy := Aside0.mk (blk_below B1wx.out hb_.below); have B2wy := Aside0.mk (blk_below B2wx.out hb_.below); clear hb_))
                  go_ret
                  exact ⟨by unfold sameF; rw [← HG0.out, ← HG2.out, HPv.out, HIv.out]; rfl, HBy.out⟩
                | true =>
                  have HIv := Aside0.mk hI
                  clear hI
                  go_wp2_with (first
                        | ((with_reducible refine gate_callee (f := 39) rfl ?_); (try (refine gate_guard (by rfl) ?_; dsimp only)); refine goesL_ (some 85) rfl rfl Try.func39 (by kernel_rfl) rfl #[.slice A9 a.f9.length c9, .slice B9 b.f9.length d9] rfl (by (try simp only [List.map_toArray, List.map_cons, List.map_nil]); first | done | rfl) ?_; (refine (slices_Equal_api_Pair_api_Pair.calls k A9 c9 a.f9 B9 d9 b.f9 _ _ (Kd.C_below HP.out HBs.out) HC.out.1.1 (Kd.C_below HP2.out HBs.out) HC.out.2.1 (HEP.out.trans (congrArg some HPv.out))).mono ?_); rintro en wx ⟨rfl, hb_⟩; refine ⟨_, rfl, ?_⟩; have HBx := Aside0.mk (below_step HBs.out hb_.below); have B1wx := Aside0.mk (blk_below B1s.out hb_.below); have B2wx := Aside0.mk (blk_below B2s.out hb_.below); clear e9 s9 e10 s10; have e10 : wx.cell? ⟨g1, 10, none⟩ = some (.slice A10 a.f10.length c10) := (blk_cell B1wx.out 10).trans rfl; have s10 : wx.cell? ⟨g2, 10, none⟩ = some (.slice B10 b.f10.length d10) := (blk_cell B2wx.out 10).trans rfl; clear hb_)
                        | ((with_reducible refine gate_callee (f := 40) rfl ?_); (try (refine gate_guard (by rfl) ?_; dsimp only)); refine goesL_ (some 92) rfl rfl Try.func40 (by kernel_rfl) rfl #[.slice A10 a.f10.length c10, .slice B10 b.f10.length d10] rfl (by (try simp only [List.map_toArray, List.map_cons, List.map_nil]); first | done | rfl) ?_; (refine (slices_Equal_api_Intent_api_Intent.calls k A10 c10 a.f10 B10 d10 b.f10 _ _ (Kd.C_below HQ.out HBx.out) HC.out.1.2 (Kd.C_below HQ2.out HBx.out) HC.out.2.2 (HEI.out.trans (congrArg some HIv.out))).mono ?_); rintro en wy ⟨rfl, hb_⟩; refine ⟨_, rfl, ?_⟩; have HBy := Aside0.mk (below_step HBx.out hb_.below); have B1wy := Aside0.mk (blk_below B1wx.out hb_.below); have B2wy := Aside0.mk (blk_below B2wx.out hb_.below); clear hb_))
                  go_ret
                  exact ⟨by unfold sameF; rw [← HG0.out, ← HG2.out, HPv.out, HIv.out]; rfl, HBy.out⟩
end Go.Proofs.Ythghacojbhjeaaa.Lm
namespace Go.Proofs.Ythghacojbhjeaaa.Ln
open Go Go.RowKit Go.Proofs.Ythghacojbhjeaaa.PKp Go.Proofs.YthghacojbhjeaaaW.PrintWords Go.Proofs.YthghacojbhjeaaaW.PrintLast Go.Proofs.Ythghacojbhjeaaa.Hl Go.Proofs.Ythghacojbhjeaaa.Fv Go.Proofs.Ythghacojbhjeaaa.La Go.Proofs.Ythghacojbhjeaaa.Lc Go.Proofs.Ythghacojbhjeaaa.Ld Go.Proofs.Ythghacojbhjeaaa.Le Go.Proofs.Ythghacojbhjeaaa.Lh Go.Proofs.Ythghacojbhjeaaa.Lj Go.Proofs.Ythghacojbhjeaaa.Lm
set_option linter.unusedSimpArgs false
set_option linter.unusedVariables false
theorem cut_cap {P : Program} (t e : TypeId) (kh km : IntKind) {i : TypeInfo} (ht : P.underlying t = some (.slice e)) (hi : P.info? e = some i) (A : Option Addr) (n c : Nat) (hc : n ≤ c) :
    ∀ W : World, (Instr.slice t (.slice A n c) none (some (.int kh (n : Int))) (some (.int km (n : Int)))).run P W = .ok (.slice A n n) W := by
  intro W
  have hel : P.elem t = e := by simp [Program.elem, ht]
  have hu : P.underlying t = some (.slice (P.elem t)) := by rw [hel]; exact ht
  have ha : (A.map fun x => x.add 0) = A := by cases A <;> simp [Addr.add]
  rw [run_slice_hm W t A n c hu kh km (n : Int) (n : Int) (by omega) (by omega) (by omega), hel]
  simp [sizeOf, typeInfo, hi, sliced, Result.andThen, ha]
theorem hi39 : Try.prog.info? 39 = some (Option.get (Try.prog.info? 39) (by kernel_rfl)) := by kernel_rfl
theorem hi41 : Try.prog.info? 41 = some (Option.get (Try.prog.info? 41) (by kernel_rfl)) := by kernel_rfl

set_option maxHeartbeats 4000000 in
theorem clip39 (A : Option Addr) (n c : Nat) (h : n ≤ c) (w : World) : Calls Try.prog 41 #[.slice A n c] w fun en w' => en = .returned (.slice A n n) ∧ Below w.heap.size w w' := by
  have hu39 := Try.underlying39
  have mixed : Try.prog.follows Departure.mixedOrders = true := by kernel_rfl
  have hcut := cut_cap (P := Try.prog) 23 39 .i64 .i64 Try.underlying23 hi39 A n c h
  go_enter Try.func41, Try.ntmps41
  go_wp2
  go_ret
  exact ⟨rfl, Below.refl _ _⟩
set_option maxHeartbeats 4000000 in
theorem clip41 (A : Option Addr) (n c : Nat) (h : n ≤ c) (w : World) : Calls Try.prog 43 #[.slice A n c] w fun en w' => en = .returned (.slice A n n) ∧ Below w.heap.size w w' := by
  have hu41 := Try.underlying41
  have mixed : Try.prog.follows Departure.mixedOrders = true := by kernel_rfl
  have hcut := cut_cap (P := Try.prog) 24 41 .i64 .i64 Try.underlying24 hi41 A n c h
  go_enter Try.func43, Try.ntmps43
  go_wp2
  go_ret
  exact ⟨rfl, Below.refl _ _⟩
/-- A letter's cells, the two rows as they lie. -/
def LV (x : S27) (P I : Value) : Array Value := #[.int .i64 x.f0, .int .i64 x.f1, .int .i64 x.f2, .int .i64 x.f3, .int .i64 x.f4, .int .i64 x.f5, .int .i64 x.f6, .string x.f7, .string x.f8, P, I, .int .i64 x.f11, .bool x.f12, .string x.f13]
/-- A row whose capacity has been cut. -/
def Cl {α : Type} (d : Kd α) (e : Nat) (w : World) (base : Nat) (v : Value) (xs : List α) : Prop := ∃ A c, v = .slice A xs.length xs.length ∧ xs.length ≤ c ∧ Kd.R d e w base (fun _ => True) (.slice A xs.length c) xs
theorem cl_of {α : Type} {d : Kd α} {e : Nat} {w : World} {base : Nat} {A : Option Addr} {c : Nat} {xs : List α} (h : Kd.R d e w base (fun _ => True) (.slice A xs.length c) xs) : Cl d e w base (.slice A xs.length xs.length) xs := ⟨A, c, rfl, (Kd.R_reads' h).2.1, h⟩
theorem Cl.below {α : Type} {d : Kd α} {e : Nat} {w w1 : World} {base : Nat} {v : Value} {xs : List α} (h : Cl d e w base v xs) (hb : Below w.heap.size w w1) : Cl d e w1 base v xs := by
  obtain ⟨A, c, rfl, hc, hR⟩ := h
  exact ⟨A, c, rfl, hc, Kd.R_below hR hb⟩
theorem Cl.lower {α : Type} {d : Kd α} {e : Nat} {w : World} {base b1 : Nat} {v : Value} {xs : List α} (h : Cl d e w base v xs) (hb : b1 ≤ base) : Cl d e w b1 v xs := by
  obtain ⟨A, c, rfl, hc, hR⟩ := h
  exact ⟨A, c, rfl, hc, Kd.R_lower hR hb⟩
/-- What letter.Copy hands back. -/
def CopyOut (a : S27) (w : World) (en : Ending) (w' : World) : Prop := ∃ P I, en = .returned (.agg (LV a P I)) ∧ Cl k39 39 w' w.heap.size P a.f9 ∧ Cl k41 41 w' w.heap.size I a.f10 ∧ Below w.heap.size w w'
theorem Cl.far {α : Type} {d : Kd α} (hE : d.E = []) {e : Nat} {w : World} {base : Nat} {v : Value} {xs : List α} (h : Cl d e w base v xs) {p : Addr} (hp : some p.block ≠ v.ownBlock) (u : Value) : Cl d e (w.setCell p u) base v xs := by
  obtain ⟨A, c, rfl, hc, hR⟩ := h
  have hp2 : some p.block ≠ (Value.slice A xs.length c).ownBlock := by cases A <;> exact hp
  exact ⟨A, c, rfl, hc, Kd.R_mono (Kd.R_far (Kd.R_far1 hR hE hp2) (fun k hk => hk.2) u) (fun _ _ => trivial)⟩
theorem Cl.typed {α : Type} {d : Kd α} {e : Nat} {w : World} {base : Nat} {v : Value} {xs : List α} (h : Cl d e w base v xs) {g t : Nat} {cells : Array Value} (hb : w.heap[g]? = some (.cells cells t (0, 0))) (ht : e ≠ t) : some g ≠ v.ownBlock := by
  obtain ⟨A, c, rfl, hc, hR⟩ := h
  intro h2
  have h3 : (Value.slice A xs.length c).ownBlock = some g := by cases A <;> exact h2.symm
  obtain ⟨inner, ho⟩ := Kd.R_own hR
  obtain ⟨cells', hc'⟩ := own_typed ho g h3
  rw [hb] at hc'
  injection hc' with h4
  injection h4 with _ h5 _
  exact ht h5.symm
set_option maxHeartbeats 16000000 in
set_option maxRecDepth 100000 in
theorem copy_v (w : World) (a : S27) (A9 A10 : Option Addr) (c9 c10 : Nat) (hp : Kd.C k39 w A9 a.f9.length a.f9) (hc9 : a.f9.length ≤ c9) (hq : Kd.C k41 w A10 a.f10.length a.f10) (hc10 : a.f10.length ≤ c10) (h9 : a.f9.length < 4398046511104) (h10 : a.f10.length < 4398046511104) :
    Calls Try.prog 16 #[.agg #[.int .i64 a.f0, .int .i64 a.f1, .int .i64 a.f2, .int .i64 a.f3, .int .i64 a.f4, .int .i64 a.f5, .int .i64 a.f6, .string a.f7, .string a.f8, .slice A9 a.f9.length c9, .slice A10 a.f10.length c10, .int .i64 a.f11, .bool a.f12, .string a.f13]] w (CopyOut a w) := by
  have hu27 := Try.underlying27
  have hu39 := Try.underlying39
  have hu41 := Try.underlying41
  have mixed : Try.prog.follows Departure.mixedOrders = true := by kernel_rfl
  have HP := Aside0.mk hp
  have HQ := Aside0.mk hq
  have HC := Aside0.mk (And.intro hc9 hc10)
  have E9 := Aside0.mk (show slices_Clone_api_Pair_api_Pair.f a.f9 = some a.f9 by unfold slices_Clone_api_Pair_api_Pair.f; rw [Option.bind_some, if_pos (by simpa using h9), List.nil_append])
  have E10 := Aside0.mk (show slices_Clone_api_Intent_api_Intent.f a.f10 = some a.f10 by unfold slices_Clone_api_Intent_api_Intent.f; rw [Option.bind_some, if_pos (by simpa using h10), List.nil_append])
  clear hp hq hc9 hc10 h9 h10
  go_enter Try.func16, Try.ntmps16
  go_upto_region 1 with (first
      | ((with_reducible refine gate_dst (N := 1) rfl ?_); refine box_event ?hg (N := 1) ?hd (cs := #[.int .i64 a.f0, .int .i64 a.f1, .int .i64 a.f2, .int .i64 a.f3, .int .i64 a.f4, .int .i64 a.f5, .int .i64 a.f6, .string a.f7, .string a.f8, .slice A9 a.f9.length c9, .slice A10 a.f10.length c10, .int .i64 a.f11, .bool a.f12, .string a.f13]) (t := 27) ?hr ?_; (case hd => rfl); (case hg => rfl); (case hr => first | (go_simp; done) | (go_simp; rfl)); intro g1 hg_ wa hbox_ hb_; have B1 := Aside0.mk (show wa.heap[g1]? = some (.cells (LS a A9 c9 A10 c10) 27 (0, 0)) from hbox_); have HB1 := Aside0.mk hb_; have L1 := Aside0.mk (show w.heap.size ≤ g1 by omega); clear hb_ hbox_ hg_)
      | ((with_reducible refine gate_dst (N := 2) rfl ?_); refine box_event ?hg (N := 2) ?hd (cs := #[.int .i64 0, .int .i64 0, .int .i64 0, .int .i64 0, .int .i64 0, .int .i64 0, .int .i64 0, .string (⟨#[]⟩ : ByteArray), .string (⟨#[]⟩ : ByteArray), .slice none 0 0, .slice none 0 0, .int .i64 0, .bool false, .string (⟨#[]⟩ : ByteArray)]) (t := 27) ?hr ?_; (case hd => rfl); (case hg => rfl); (case hr => first | (go_simp; done) | (go_simp; rfl)); intro g2 hg_ wb hbox_ hb_; have L2 := Aside0.mk (show wa.heap.size ≤ g2 by omega); have B2 := Aside0.mk (show wb.heap[g2]? = some (.cells #[.int .i64 0, .int .i64 0, .int .i64 0, .int .i64 0, .int .i64 0, .int .i64 0, .int .i64 0, .string (⟨#[]⟩ : ByteArray), .string (⟨#[]⟩ : ByteArray), .slice none 0 0, .slice none 0 0, .int .i64 0, .bool false, .string (⟨#[]⟩ : ByteArray)] 27 (0, 0)) from hbox_); have HB2 := Aside0.mk (below_step HB1.out hb_); have B12 := Aside0.mk (blk_below B1.out hb_); clear hb_ hbox_ hg_))
  have e9 : wb.cell? ⟨g1, 9, none⟩ = some (.slice A9 a.f9.length c9) := (blk_cell B12.out 9).trans rfl
  go_upto_region 2 with (first
      | ((with_reducible refine gate_callee (f := 42) rfl ?_); refine goesL_ (some 5) rfl rfl Try.func42 (by kernel_rfl) rfl #[.slice A9 a.f9.length c9] rfl (by (try simp only [List.map_toArray, List.map_cons, List.map_nil]); first | done | rfl) ?_; (refine (slices_Clone_api_Pair_api_Pair.calls A9 c9 a.f9 a.f9 _ (Kd.C_below HP.out HB2.out) HC.out.1 (E9.out)).mono ?_); rintro en wc ⟨v_, rfl, hR_, hb_⟩; obtain ⟨AR39, cR39, hv_⟩ := Kd.R_slice hR_; subst hv_; refine ⟨_, rfl, ?_⟩; have R39 := Aside0.mk (Kd.R_lower hR_ HB2.out.size); have HB3 := Aside0.mk (below_step HB2.out hb_); have B13 := Aside0.mk (blk_below B12.out hb_); have B23 := Aside0.mk (blk_below B2.out hb_); clear hb_ hR_)
      | ((with_reducible refine gate_callee (f := 41) rfl ?_); refine goesL_ (some 6) rfl rfl Try.func41 (by kernel_rfl) rfl #[.slice AR39 a.f9.length cR39] rfl (by (try simp only [List.map_toArray, List.map_cons, List.map_nil]); first | done | rfl) ?_; (refine (clip39 AR39 _ cR39 (Kd.R_reads' R39.out).2.1 _).mono ?_); rintro en wd ⟨rfl, hb_⟩; refine ⟨_, rfl, ?_⟩; have HB4 := Aside0.mk (below_step HB3.out hb_); have B14 := Aside0.mk (blk_below B13.out hb_); have B24 := Aside0.mk (blk_below B23.out hb_); have R39n := Aside0.mk (cl_of (Kd.R_below R39.out hb_)); have y0 := blk_frozen B14.out 9; have z0 : wd.cell? ⟨g1, 9, none⟩ = some (.slice A9 a.f9.length c9) := (blk_cell B14.out 9).trans rfl; clear hb_))
  have HB5 := Aside0.mk (Below.setCell HB4.out (p := ⟨g1, 9, none⟩) L1.out (.slice AR39 a.f9.length a.f9.length))
  have B15 := Aside0.mk (show (wd.setCell ⟨g1, 9, none⟩ (.slice AR39 a.f9.length a.f9.length)).heap[g1]? = some (.cells (LV a (.slice AR39 a.f9.length a.f9.length) (.slice A10 a.f10.length c10)) 27 (0, 0)) from blk_put B14.out 9 (.slice AR39 a.f9.length a.f9.length) rfl)
  have B25 := Aside0.mk (blk_far (p := ⟨g1, 9, none⟩) B24.out (by have h1 := L2.out; have h2 := blk_lt B1.out; show g2 ≠ g1; omega) (.slice AR39 a.f9.length a.f9.length))
  have C95 := Aside0.mk (Cl.far rfl R39n.out (p := ⟨g1, 9, none⟩) (R39n.out.typed B14.out (by decide)) (.slice AR39 a.f9.length a.f9.length))
  obtain ⟨we, hw_⟩ : ∃ u, wd.setCell ⟨g1, 9, none⟩ (.slice AR39 a.f9.length a.f9.length) = u := ⟨_, rfl⟩
  rw [hw_] at HB5 B15 B25 C95 ⊢
  clear hw_ y0 z0 e9
  have e10 : we.cell? ⟨g1, 10, none⟩ = some (.slice A10 a.f10.length c10) := (blk_cell B15.out 10).trans rfl
  go_upto_region 3 with (first
      | ((with_reducible refine gate_callee (f := 44) rfl ?_); refine goesL_ (some 10) rfl rfl Try.func44 (by kernel_rfl) rfl #[.slice A10 a.f10.length c10] rfl (by (try simp only [List.map_toArray, List.map_cons, List.map_nil]); first | done | rfl) ?_; (refine (slices_Clone_api_Intent_api_Intent.calls A10 c10 a.f10 a.f10 _ (Kd.C_below HQ.out HB5.out) HC.out.2 (E10.out)).mono ?_); rintro en wf ⟨v_, rfl, hR_, hb_⟩; obtain ⟨AR41, cR41, hv_⟩ := Kd.R_slice hR_; subst hv_; refine ⟨_, rfl, ?_⟩; have R41 := Aside0.mk (Kd.R_lower hR_ HB5.out.size); have HB6 := Aside0.mk (below_step HB5.out hb_); have B16 := Aside0.mk (blk_below B15.out hb_); have B26 := Aside0.mk (blk_below B25.out hb_); have C96 := Aside0.mk (C95.out.below hb_); clear hb_ hR_)
      | ((with_reducible refine gate_callee (f := 43) rfl ?_); refine goesL_ (some 11) rfl rfl Try.func43 (by kernel_rfl) rfl #[.slice AR41 a.f10.length cR41] rfl (by (try simp only [List.map_toArray, List.map_cons, List.map_nil]); first | done | rfl) ?_; (refine (clip41 AR41 _ cR41 (Kd.R_reads' R41.out).2.1 _).mono ?_); rintro en wg ⟨rfl, hb_⟩; refine ⟨_, rfl, ?_⟩; have HB7 := Aside0.mk (below_step HB6.out hb_); have B17 := Aside0.mk (blk_below B16.out hb_); have B27 := Aside0.mk (blk_below B26.out hb_); have C97 := Aside0.mk (C96.out.below hb_); have R41n := Aside0.mk (cl_of (Kd.R_below R41.out hb_)); have y0 := blk_frozen B17.out 10; have z0 : wg.cell? ⟨g1, 10, none⟩ = some (.slice A10 a.f10.length c10) := (blk_cell B17.out 10).trans rfl; clear hb_))
  have HB8 := Aside0.mk (Below.setCell HB7.out (p := ⟨g1, 10, none⟩) L1.out (.slice AR41 a.f10.length a.f10.length))
  have B18 := Aside0.mk (show (wg.setCell ⟨g1, 10, none⟩ (.slice AR41 a.f10.length a.f10.length)).heap[g1]? = some (.cells (LV a (.slice AR39 a.f9.length a.f9.length) (.slice AR41 a.f10.length a.f10.length)) 27 (0, 0)) from blk_put B17.out 10 (.slice AR41 a.f10.length a.f10.length) rfl)
  have B28 := Aside0.mk (blk_far (p := ⟨g1, 10, none⟩) B27.out (by have h1 := L2.out; have h2 := blk_lt B1.out; show g2 ≠ g1; omega) (.slice AR41 a.f10.length a.f10.length))
  have C98 := Aside0.mk (Cl.far rfl C97.out (p := ⟨g1, 10, none⟩) (C97.out.typed B17.out (by decide)) (.slice AR41 a.f10.length a.f10.length))
  have I98 := Aside0.mk (Cl.far rfl R41n.out (p := ⟨g1, 10, none⟩) (R41n.out.typed B17.out (by decide)) (.slice AR41 a.f10.length a.f10.length))
  obtain ⟨wh, hw_⟩ : ∃ u, wg.setCell ⟨g1, 10, none⟩ (.slice AR41 a.f10.length a.f10.length) = u := ⟨_, rfl⟩
  rw [hw_] at HB8 B18 B28 C98 I98 ⊢
  clear hw_ y0 z0 e10
  have l0 : wh.cell? ⟨g1, 0, none⟩ = some (.int .i64 a.f0) := (blk_cell B18.out 0).trans rfl
  have l1 : wh.cell? ⟨g1, 1, none⟩ = some (.int .i64 a.f1) := (blk_cell B18.out 1).trans rfl
  have l2 : wh.cell? ⟨g1, 2, none⟩ = some (.int .i64 a.f2) := (blk_cell B18.out 2).trans rfl
  have l3 : wh.cell? ⟨g1, 3, none⟩ = some (.int .i64 a.f3) := (blk_cell B18.out 3).trans rfl
  have l4 : wh.cell? ⟨g1, 4, none⟩ = some (.int .i64 a.f4) := (blk_cell B18.out 4).trans rfl
  have l5 : wh.cell? ⟨g1, 5, none⟩ = some (.int .i64 a.f5) := (blk_cell B18.out 5).trans rfl
  have l6 : wh.cell? ⟨g1, 6, none⟩ = some (.int .i64 a.f6) := (blk_cell B18.out 6).trans rfl
  have l7 : wh.cell? ⟨g1, 7, none⟩ = some (.string a.f7) := (blk_cell B18.out 7).trans rfl
  have l8 : wh.cell? ⟨g1, 8, none⟩ = some (.string a.f8) := (blk_cell B18.out 8).trans rfl
  have l9 : wh.cell? ⟨g1, 9, none⟩ = some (.slice AR39 a.f9.length a.f9.length) := (blk_cell B18.out 9).trans rfl
  have l10 : wh.cell? ⟨g1, 10, none⟩ = some (.slice AR41 a.f10.length a.f10.length) := (blk_cell B18.out 10).trans rfl
  have l11 : wh.cell? ⟨g1, 11, none⟩ = some (.int .i64 a.f11) := (blk_cell B18.out 11).trans rfl
  have l12 : wh.cell? ⟨g1, 12, none⟩ = some (.bool a.f12) := (blk_cell B18.out 12).trans rfl
  have l13 : wh.cell? ⟨g1, 13, none⟩ = some (.string a.f13) := (blk_cell B18.out 13).trans rfl
  have m0 : wh.cell? ⟨g2, 0, none⟩ = some (.int .i64 0) := (blk_cell B28.out 0).trans rfl
  have n0 := blk_frozen B28.out 0
  have m1 : wh.cell? ⟨g2, 1, none⟩ = some (.int .i64 0) := (blk_cell B28.out 1).trans rfl
  have n1 := blk_frozen B28.out 1
  have m2 : wh.cell? ⟨g2, 2, none⟩ = some (.int .i64 0) := (blk_cell B28.out 2).trans rfl
  have n2 := blk_frozen B28.out 2
  have m3 : wh.cell? ⟨g2, 3, none⟩ = some (.int .i64 0) := (blk_cell B28.out 3).trans rfl
  have n3 := blk_frozen B28.out 3
  have m4 : wh.cell? ⟨g2, 4, none⟩ = some (.int .i64 0) := (blk_cell B28.out 4).trans rfl
  have n4 := blk_frozen B28.out 4
  have m5 : wh.cell? ⟨g2, 5, none⟩ = some (.int .i64 0) := (blk_cell B28.out 5).trans rfl
  have n5 := blk_frozen B28.out 5
  have m6 : wh.cell? ⟨g2, 6, none⟩ = some (.int .i64 0) := (blk_cell B28.out 6).trans rfl
  have n6 := blk_frozen B28.out 6
  have m7 : wh.cell? ⟨g2, 7, none⟩ = some (.string (⟨#[]⟩ : ByteArray)) := (blk_cell B28.out 7).trans rfl
  have n7 := blk_frozen B28.out 7
  have m8 : wh.cell? ⟨g2, 8, none⟩ = some (.string (⟨#[]⟩ : ByteArray)) := (blk_cell B28.out 8).trans rfl
  have n8 := blk_frozen B28.out 8
  have m9 : wh.cell? ⟨g2, 9, none⟩ = some (.slice none 0 0) := (blk_cell B28.out 9).trans rfl
  have n9 := blk_frozen B28.out 9
  have m10 : wh.cell? ⟨g2, 10, none⟩ = some (.slice none 0 0) := (blk_cell B28.out 10).trans rfl
  have n10 := blk_frozen B28.out 10
  have m11 : wh.cell? ⟨g2, 11, none⟩ = some (.int .i64 0) := (blk_cell B28.out 11).trans rfl
  have n11 := blk_frozen B28.out 11
  have m12 : wh.cell? ⟨g2, 12, none⟩ = some (.bool false) := (blk_cell B28.out 12).trans rfl
  have n12 := blk_frozen B28.out 12
  have m13 : wh.cell? ⟨g2, 13, none⟩ = some (.string (⟨#[]⟩ : ByteArray)) := (blk_cell B28.out 13).trans rfl
  have n13 := blk_frozen B28.out 13
  have L2w := Aside0.mk (show w.heap.size ≤ g2 by have h1 := L2.out; have h2 := HB1.out.size; omega)
  go_wp2
  have NC := C98.out.typed B28.out (by decide)
  have NI := I98.out.typed B28.out (by decide)
  refine bodyPost_ret (results_cell_row rfl _ _ g2 27 #[.int .i64 a.f0, .int .i64 a.f1, .int .i64 a.f2, .int .i64 a.f3, .int .i64 a.f4, .int .i64 a.f5, .int .i64 a.f6, .string a.f7, .string a.f8, .slice AR39 a.f9.length a.f9.length, .slice AR41 a.f10.length a.f10.length, .int .i64 a.f11, .bool a.f12, .string a.f13] (0, 0) _ rfl (blk_put (cs' := #[.int .i64 a.f0, .int .i64 a.f1, .int .i64 a.f2, .int .i64 a.f3, .int .i64 a.f4, .int .i64 a.f5, .int .i64 a.f6, .string a.f7, .string a.f8, .slice AR39 a.f9.length a.f9.length, .slice AR41 a.f10.length a.f10.length, .int .i64 a.f11, .bool a.f12, .string a.f13]) (blk_put (cs' := #[.int .i64 a.f0, .int .i64 a.f1, .int .i64 a.f2, .int .i64 a.f3, .int .i64 a.f4, .int .i64 a.f5, .int .i64 a.f6, .string a.f7, .string a.f8, .slice AR39 a.f9.length a.f9.length, .slice AR41 a.f10.length a.f10.length, .int .i64 a.f11, .bool a.f12, .string (⟨#[]⟩ : ByteArray)]) (blk_put (cs' := #[.int .i64 a.f0, .int .i64 a.f1, .int .i64 a.f2, .int .i64 a.f3, .int .i64 a.f4, .int .i64 a.f5, .int .i64 a.f6, .string a.f7, .string a.f8, .slice AR39 a.f9.length a.f9.length, .slice AR41 a.f10.length a.f10.length, .int .i64 a.f11, .bool false, .string (⟨#[]⟩ : ByteArray)]) (blk_put (cs' := #[.int .i64 a.f0, .int .i64 a.f1, .int .i64 a.f2, .int .i64 a.f3, .int .i64 a.f4, .int .i64 a.f5, .int .i64 a.f6, .string a.f7, .string a.f8, .slice AR39 a.f9.length a.f9.length, .slice AR41 a.f10.length a.f10.length, .int .i64 0, .bool false, .string (⟨#[]⟩ : ByteArray)]) (blk_put (cs' := #[.int .i64 a.f0, .int .i64 a.f1, .int .i64 a.f2, .int .i64 a.f3, .int .i64 a.f4, .int .i64 a.f5, .int .i64 a.f6, .string a.f7, .string a.f8, .slice AR39 a.f9.length a.f9.length, .slice none 0 0, .int .i64 0, .bool false, .string (⟨#[]⟩ : ByteArray)]) (blk_put (cs' := #[.int .i64 a.f0, .int .i64 a.f1, .int .i64 a.f2, .int .i64 a.f3, .int .i64 a.f4, .int .i64 a.f5, .int .i64 a.f6, .string a.f7, .string a.f8, .slice none 0 0, .slice none 0 0, .int .i64 0, .bool false, .string (⟨#[]⟩ : ByteArray)]) (blk_put (cs' := #[.int .i64 a.f0, .int .i64 a.f1, .int .i64 a.f2, .int .i64 a.f3, .int .i64 a.f4, .int .i64 a.f5, .int .i64 a.f6, .string a.f7, .string (⟨#[]⟩ : ByteArray), .slice none 0 0, .slice none 0 0, .int .i64 0, .bool false, .string (⟨#[]⟩ : ByteArray)]) (blk_put (cs' := #[.int .i64 a.f0, .int .i64 a.f1, .int .i64 a.f2, .int .i64 a.f3, .int .i64 a.f4, .int .i64 a.f5, .int .i64 a.f6, .string (⟨#[]⟩ : ByteArray), .string (⟨#[]⟩ : ByteArray), .slice none 0 0, .slice none 0 0, .int .i64 0, .bool false, .string (⟨#[]⟩ : ByteArray)]) (blk_put (cs' := #[.int .i64 a.f0, .int .i64 a.f1, .int .i64 a.f2, .int .i64 a.f3, .int .i64 a.f4, .int .i64 a.f5, .int .i64 0, .string (⟨#[]⟩ : ByteArray), .string (⟨#[]⟩ : ByteArray), .slice none 0 0, .slice none 0 0, .int .i64 0, .bool false, .string (⟨#[]⟩ : ByteArray)]) (blk_put (cs' := #[.int .i64 a.f0, .int .i64 a.f1, .int .i64 a.f2, .int .i64 a.f3, .int .i64 a.f4, .int .i64 0, .int .i64 0, .string (⟨#[]⟩ : ByteArray), .string (⟨#[]⟩ : ByteArray), .slice none 0 0, .slice none 0 0, .int .i64 0, .bool false, .string (⟨#[]⟩ : ByteArray)]) (blk_put (cs' := #[.int .i64 a.f0, .int .i64 a.f1, .int .i64 a.f2, .int .i64 a.f3, .int .i64 0, .int .i64 0, .int .i64 0, .string (⟨#[]⟩ : ByteArray), .string (⟨#[]⟩ : ByteArray), .slice none 0 0, .slice none 0 0, .int .i64 0, .bool false, .string (⟨#[]⟩ : ByteArray)]) (blk_put (cs' := #[.int .i64 a.f0, .int .i64 a.f1, .int .i64 a.f2, .int .i64 0, .int .i64 0, .int .i64 0, .int .i64 0, .string (⟨#[]⟩ : ByteArray), .string (⟨#[]⟩ : ByteArray), .slice none 0 0, .slice none 0 0, .int .i64 0, .bool false, .string (⟨#[]⟩ : ByteArray)]) (blk_put (cs' := #[.int .i64 a.f0, .int .i64 a.f1, .int .i64 0, .int .i64 0, .int .i64 0, .int .i64 0, .int .i64 0, .string (⟨#[]⟩ : ByteArray), .string (⟨#[]⟩ : ByteArray), .slice none 0 0, .slice none 0 0, .int .i64 0, .bool false, .string (⟨#[]⟩ : ByteArray)]) (blk_put (cs' := #[.int .i64 a.f0, .int .i64 0, .int .i64 0, .int .i64 0, .int .i64 0, .int .i64 0, .int .i64 0, .string (⟨#[]⟩ : ByteArray), .string (⟨#[]⟩ : ByteArray), .slice none 0 0, .slice none 0 0, .int .i64 0, .bool false, .string (⟨#[]⟩ : ByteArray)]) B28.out 0 (.int .i64 a.f0) rfl) 1 (.int .i64 a.f1) rfl) 2 (.int .i64 a.f2) rfl) 3 (.int .i64 a.f3) rfl) 4 (.int .i64 a.f4) rfl) 5 (.int .i64 a.f5) rfl) 6 (.int .i64 a.f6) rfl) 7 (.string a.f7) rfl) 8 (.string a.f8) rfl) 9 (.slice AR39 a.f9.length a.f9.length) rfl) 10 (.slice AR41 a.f10.length a.f10.length) rfl) 11 (.int .i64 a.f11) rfl) 12 (.bool a.f12) rfl) 13 (.string a.f13) rfl) Try.underlying27 rfl (by kernel_rfl)) rfl ?_
  exact ⟨_, _, rfl, (Cl.far rfl (Cl.far rfl (Cl.far rfl (Cl.far rfl (Cl.far rfl (Cl.far rfl (Cl.far rfl (Cl.far rfl (Cl.far rfl (Cl.far rfl (Cl.far rfl (Cl.far rfl (Cl.far rfl (Cl.far rfl C98.out (p := ⟨g2, 0, none⟩) NC (.int .i64 a.f0)) (p := ⟨g2, 1, none⟩) NC (.int .i64 a.f1)) (p := ⟨g2, 2, none⟩) NC (.int .i64 a.f2)) (p := ⟨g2, 3, none⟩) NC (.int .i64 a.f3)) (p := ⟨g2, 4, none⟩) NC (.int .i64 a.f4)) (p := ⟨g2, 5, none⟩) NC (.int .i64 a.f5)) (p := ⟨g2, 6, none⟩) NC (.int .i64 a.f6)) (p := ⟨g2, 7, none⟩) NC (.string a.f7)) (p := ⟨g2, 8, none⟩) NC (.string a.f8)) (p := ⟨g2, 9, none⟩) NC (.slice AR39 a.f9.length a.f9.length)) (p := ⟨g2, 10, none⟩) NC (.slice AR41 a.f10.length a.f10.length)) (p := ⟨g2, 11, none⟩) NC (.int .i64 a.f11)) (p := ⟨g2, 12, none⟩) NC (.bool a.f12)) (p := ⟨g2, 13, none⟩) NC (.string a.f13)), (Cl.far rfl (Cl.far rfl (Cl.far rfl (Cl.far rfl (Cl.far rfl (Cl.far rfl (Cl.far rfl (Cl.far rfl (Cl.far rfl (Cl.far rfl (Cl.far rfl (Cl.far rfl (Cl.far rfl (Cl.far rfl I98.out (p := ⟨g2, 0, none⟩) NI (.int .i64 a.f0)) (p := ⟨g2, 1, none⟩) NI (.int .i64 a.f1)) (p := ⟨g2, 2, none⟩) NI (.int .i64 a.f2)) (p := ⟨g2, 3, none⟩) NI (.int .i64 a.f3)) (p := ⟨g2, 4, none⟩) NI (.int .i64 a.f4)) (p := ⟨g2, 5, none⟩) NI (.int .i64 a.f5)) (p := ⟨g2, 6, none⟩) NI (.int .i64 a.f6)) (p := ⟨g2, 7, none⟩) NI (.string a.f7)) (p := ⟨g2, 8, none⟩) NI (.string a.f8)) (p := ⟨g2, 9, none⟩) NI (.slice AR39 a.f9.length a.f9.length)) (p := ⟨g2, 10, none⟩) NI (.slice AR41 a.f10.length a.f10.length)) (p := ⟨g2, 11, none⟩) NI (.int .i64 a.f11)) (p := ⟨g2, 12, none⟩) NI (.bool a.f12)) (p := ⟨g2, 13, none⟩) NI (.string a.f13)), (Below.setCell (Below.setCell (Below.setCell (Below.setCell (Below.setCell (Below.setCell (Below.setCell (Below.setCell (Below.setCell (Below.setCell (Below.setCell (Below.setCell (Below.setCell (Below.setCell HB8.out (p := ⟨g2, 0, none⟩) L2w.out (.int .i64 a.f0)) (p := ⟨g2, 1, none⟩) L2w.out (.int .i64 a.f1)) (p := ⟨g2, 2, none⟩) L2w.out (.int .i64 a.f2)) (p := ⟨g2, 3, none⟩) L2w.out (.int .i64 a.f3)) (p := ⟨g2, 4, none⟩) L2w.out (.int .i64 a.f4)) (p := ⟨g2, 5, none⟩) L2w.out (.int .i64 a.f5)) (p := ⟨g2, 6, none⟩) L2w.out (.int .i64 a.f6)) (p := ⟨g2, 7, none⟩) L2w.out (.string a.f7)) (p := ⟨g2, 8, none⟩) L2w.out (.string a.f8)) (p := ⟨g2, 9, none⟩) L2w.out (.slice AR39 a.f9.length a.f9.length)) (p := ⟨g2, 10, none⟩) L2w.out (.slice AR41 a.f10.length a.f10.length)) (p := ⟨g2, 11, none⟩) L2w.out (.int .i64 a.f11)) (p := ⟨g2, 12, none⟩) L2w.out (.bool a.f12)) (p := ⟨g2, 13, none⟩) L2w.out (.string a.f13))⟩
end Go.Proofs.Ythghacojbhjeaaa.Ln
namespace Go.Proofs.Ythghacojbhjeaaa.Lp
open Go Go.RowKit Go.Proofs.Ythghacojbhjeaaa.PKp Go.Proofs.YthghacojbhjeaaaW.PrintWords Go.Proofs.YthghacojbhjeaaaW.PrintLast Go.Proofs.Ythghacojbhjeaaa.Hl Go.Proofs.Ythghacojbhjeaaa.Fv Go.Proofs.Ythghacojbhjeaaa.La Go.Proofs.Ythghacojbhjeaaa.Le Go.Proofs.Ythghacojbhjeaaa.Lm Go.Proofs.Ythghacojbhjeaaa.Ln
set_option linter.unusedSimpArgs false
set_option linter.unusedVariables false
/-- What holds at every step of every order holds at the end. -/
theorem wpAny_inv {P : Program} {md : Region.Mode} {ops : Array Oper} {Q : Exit → Act → World → Prop} (I : Array Bool → Act → World → Prop) (hs : ∀ l a w, I l a w → l.size = ops.size)
    (hstep : ∀ l a w, I l a w → ∀ i ∈ Region.ready md ops l, wpOp P ops Q i (fun a' w' => I (l.setIfInBounds i true) a' w') a w)
    (hend : ∀ l a w, I l a w → Region.ready md ops l = [] → Q .normal a w) : ∀ (n : Nat) (l : Array Bool) (a : Act) (w : World), I l a w → l.toList.count false ≤ n → wpAny P md ops Q n l a w := by
  have hfalse : ∀ (l : Array Bool) (a : Act) (w : World), I l a w → ∀ j ∈ Region.ready md ops l, ∃ h : j < l.toList.length, l.toList[j] = false := by
    intro l a w hI j hj
    obtain ⟨h1, o, ho, _⟩ := mem_ready.1 hj
    have hlt : j < l.size := by rw [hs l a w hI]; exact (Array.getElem?_eq_some_iff.1 ho).1
    refine ⟨by simpa using hlt, ?_⟩
    simpa [Array.getD, hlt] using h1
  intro n
  induction n with
  | zero =>
    intro l a w hI hc
    have h0 : Region.ready md ops l = [] := by
      apply List.eq_nil_iff_forall_not_mem.2
      intro j hj
      obtain ⟨h, e⟩ := hfalse l a w hI j hj
      have h2 : false ∈ l.toList := e ▸ List.getElem_mem h
      have := List.count_pos_iff.2 h2
      omega
    exact ⟨h0, hend l a w hI h0⟩
  | succ n ih =>
    intro l a w hI hc
    refine ⟨fun h0 => hend l a w hI h0, fun i hi => wpOp_mono (fun a' w' hI' => ih _ a' w' hI' ?_) (hstep l a w hI i hi)⟩
    obtain ⟨h, e⟩ := hfalse l a w hI i hi
    have h2 : false ∈ l.toList := e ▸ List.getElem_mem h
    have h3 := List.count_pos_iff.2 h2
    rw [Array.toList_setIfInBounds, List.count_set h, e]
    simp only [beq_self_eq_true, if_true]
    rw [if_neg (by decide)]
    omega
def up {α : Type} (f : Nat → α) (i : Nat) (v : α) : Nat → α := fun j => if j = i then v else f j
def ops7 : Array Oper := #[{ dst := some 26, op := Op.load 27 (Operand.tmp 2), type := 27, pos := "law.go:96", after := #[], guard := none }, { dst := some 27, op := Op.call { callee := Callee.value (Operand.func 16), args := #[Operand.tmp 26], argTypes := #[27] }, type := 27, pos := "law.go:96", after := #[{ on := 0, ground := Ground.data }], guard := none }, { dst := some 28, op := Op.load 27 (Operand.tmp 2), type := 27, pos := "law.go:96", after := #[], guard := none }, { dst := some 29, op := Op.call { callee := Callee.value (Operand.func 16), args := #[Operand.tmp 28], argTypes := #[27] }, type := 27, pos := "law.go:96", after := #[{ on := 2, ground := Ground.data }, { on := 1, ground := Ground.chain }], guard := none }, { dst := some 5, op := Op.alloc 27, type := 0, pos := "law.go:96", after := #[], guard := none }, { dst := some 6, op := Op.alloc 27, type := 0, pos := "law.go:96", after := #[], guard := none }, { dst := none, op := Op.store 27 (Operand.tmp 5) (Operand.tmp 27), type := 0, pos := "law.go:96", after := #[{ on := 4, ground := Ground.data }, { on := 1, ground := Ground.data }, { on := 3, ground := Ground.chain }, { on := 0, ground := Ground.phase }, { on := 1, ground := Ground.phase }, { on := 2, ground := Ground.textOnly Departure.lateStores }, { on := 3, ground := Ground.textOnly Departure.lateStoresUnsure }, { on := 4, ground := Ground.phase }, { on := 5, ground := Ground.phase }], guard := none }, { dst := none, op := Op.store 27 (Operand.tmp 6) (Operand.tmp 29), type := 0, pos := "law.go:96", after := #[{ on := 5, ground := Ground.data }, { on := 3, ground := Ground.data }, { on := 6, ground := Ground.chain }, { on := 0, ground := Ground.phase }, { on := 1, ground := Ground.phase }, { on := 2, ground := Ground.phase }, { on := 3, ground := Ground.phase }, { on := 4, ground := Ground.phase }, { on := 5, ground := Ground.phase }, { on := 6, ground := Ground.phase }], guard := none }]
def Z27 : Array Value := #[.int .i64 0, .int .i64 0, .int .i64 0, .int .i64 0, .int .i64 0, .int .i64 0, .int .i64 0, .string ⟨#[]⟩, .string ⟨#[]⟩, .slice none 0 0, .slice none 0 0, .int .i64 0, .bool false, .string ⟨#[]⟩]
theorem Cl_turn {α : Type} {d : Kd α} {e : Nat} {w w1 : World} {base : Nat} {v : Value} {xs : List α} (h : Cl d e w base v xs) {g t : Nat} {cells : Array Value} (hb : w.heap[g]? = some (.cells cells t (0, 0))) (hne : ∀ q, q ∈ e :: d.E → q ≠ t) (ht : Turned g w w1) : Cl d e w1 base v xs := by
  obtain ⟨A, c, rfl, hc, hR⟩ := h
  exact ⟨A, c, rfl, hc, R_turn hR hb hne ht⟩
theorem turned_row (w : World) (g : Nat) (cells : Array Value) : Turned g w (w.setRow g cells) := ⟨rfl, rfl, rfl, by simp [World.setRow], fun i hi hne => by simp [World.setRow, Array.getElem?_modify, Ne.symm hne]⟩
theorem cl_lt {α : Type} {d : Kd α} {e : Nat} {w : World} {base : Nat} {v : Value} {xs : List α} (h : Cl d e w base v xs) {g : Nat} (hg : v.ownBlock = some g) : g < w.heap.size := by
  obtain ⟨A, c, rfl, hc, hR⟩ := h
  have h3 : (Value.slice A xs.length c).ownBlock = some g := by cases A <;> exact hg
  exact Kd.R_lt hR g h3
section
variable {w0 : World} {a : S27} {LA : Array Value} {E0 : Nat → Value}
structure I7 (w0 : World) (a : S27) (LA : Array Value) (E0 : Nat → Value) (P1 I1 P2 I2 : Value) (b1 g5 g6 : Nat) (L : Nat → Bool) (E : Nat → Value) (w : World) : Prop where
  fr : ∀ t, t ≠ 5 → t ≠ 6 → t ≠ 26 → t ≠ 27 → t ≠ 28 → t ≠ 29 → E t = E0 t
  hb : Below w0.heap.size w0 w
  e31 : L 3 = true → L 1 = true
  e64 : L 6 = true → L 4 = true
  e63 : L 6 = true → L 3 = true
  e75 : L 7 = true → L 5 = true
  e76 : L 7 = true → L 6 = true
  h0 : L 0 = true → E 26 = .agg LA
  h2 : L 2 = true → E 28 = .agg LA
  h1 : L 1 = true → E 27 = .agg (LV a P1 I1) ∧ Cl k39 39 w w0.heap.size P1 a.f9 ∧ Cl k41 41 w w0.heap.size I1 a.f10
  h3 : L 3 = true → E 29 = .agg (LV a P2 I2) ∧ Cl k39 39 w b1 P2 a.f9 ∧ Cl k41 41 w b1 I2 a.f10 ∧ w0.heap.size ≤ b1 ∧ (∀ k, P1.ownBlock = some k → k < b1) ∧ (∀ k, I1.ownBlock = some k → k < b1)
  h4 : L 4 = true → E 5 = .pointer (some ⟨g5, 0, none⟩) ∧ w0.heap.size ≤ g5 ∧ w.heap[g5]? = some (.cells (if L 6 = true then LV a P1 I1 else Z27) 27 (0, 0))
  h5 : L 5 = true → E 6 = .pointer (some ⟨g6, 0, none⟩) ∧ w0.heap.size ≤ g6 ∧ w.heap[g6]? = some (.cells (if L 7 = true then LV a P2 I2 else Z27) 27 (0, 0))
  ne : L 4 = true → L 5 = true → g5 ≠ g6
variable {P1 I1 P2 I2 : Value} {b1 g5 g6 : Nat} {L : Nat → Bool} {E : Nat → Value} {w w1 : World}
theorem I7.later (H : I7 w0 a LA E0 P1 I1 P2 I2 b1 g5 g6 L E w) (hb : Below w.heap.size w w1) : I7 w0 a LA E0 P1 I1 P2 I2 b1 g5 g6 L E w1 :=
  ⟨H.fr, below_step H.hb hb, H.e31, H.e64, H.e63, H.e75, H.e76, H.h0, H.h2, fun h => ⟨(H.h1 h).1, (H.h1 h).2.1.below hb, (H.h1 h).2.2.below hb⟩, fun h => ⟨(H.h3 h).1, (H.h3 h).2.1.below hb, (H.h3 h).2.2.1.below hb, (H.h3 h).2.2.2⟩,
    fun h => ⟨(H.h4 h).1, (H.h4 h).2.1, blk_below (H.h4 h).2.2 hb⟩, fun h => ⟨(H.h5 h).1, (H.h5 h).2.1, blk_below (H.h5 h).2.2 hb⟩, H.ne⟩
theorem fr_up (H : I7 w0 a LA E0 P1 I1 P2 I2 b1 g5 g6 L E w) {s : Nat} (hs : s = 5 ∨ s = 6 ∨ s = 26 ∨ s = 27 ∨ s = 28 ∨ s = 29) (v : Value) : ∀ t, t ≠ 5 → t ≠ 6 → t ≠ 26 → t ≠ 27 → t ≠ 28 → t ≠ 29 → up E s v t = E0 t := by
  intro t h5 h6 h26 h27 h28 h29
  show (if t = s then v else E t) = _
  rw [if_neg (by omega)]
  exact H.fr t h5 h6 h26 h27 h28 h29
theorem I7.s0 (H : I7 w0 a LA E0 P1 I1 P2 I2 b1 g5 g6 L E w) : I7 w0 a LA E0 P1 I1 P2 I2 b1 g5 g6 (up L 0 true) (up E 26 (.agg LA)) w :=
  ⟨fr_up H (by decide) _, H.hb, H.e31, H.e64, H.e63, H.e75, H.e76, fun _ => rfl, H.h2, H.h1, H.h3, H.h4, H.h5, H.ne⟩
theorem I7.s2 (H : I7 w0 a LA E0 P1 I1 P2 I2 b1 g5 g6 L E w) : I7 w0 a LA E0 P1 I1 P2 I2 b1 g5 g6 (up L 2 true) (up E 28 (.agg LA)) w :=
  ⟨fr_up H (by decide) _, H.hb, H.e31, H.e64, H.e63, H.e75, H.e76, H.h0, fun _ => rfl, H.h1, H.h3, H.h4, H.h5, H.ne⟩
theorem I7.s1 (H : I7 w0 a LA E0 P1 I1 P2 I2 b1 g5 g6 L E w) (hn : L 1 ≠ true) {P I : Value} (hP : Cl k39 39 w w0.heap.size P a.f9) (hI : Cl k41 41 w w0.heap.size I a.f10) : I7 w0 a LA E0 P I P2 I2 b1 g5 g6 (up L 1 true) (up E 27 (.agg (LV a P I))) w := by
  have n3 : L 3 ≠ true := fun h => hn (H.e31 h)
  have n6 : L 6 ≠ true := fun h => n3 (H.e63 h)
  refine ⟨fr_up H (by decide) _, H.hb, fun _ => rfl, H.e64, H.e63, H.e75, H.e76, H.h0, H.h2, fun _ => ⟨rfl, hP, hI⟩, fun h => absurd h n3, fun h => ?_, H.h5, H.ne⟩
  obtain ⟨x, y, z⟩ := H.h4 h
  rw [if_neg n6] at z
  exact ⟨x, y, by rw [show up L 1 true 6 = L 6 from rfl, if_neg n6]; exact z⟩
theorem I7.s3 (H : I7 w0 a LA E0 P1 I1 P2 I2 b1 g5 g6 L E w) (hn : L 3 ≠ true) (h1 : L 1 = true) {P I : Value} {b : Nat} (hP : Cl k39 39 w b P a.f9) (hI : Cl k41 41 w b I a.f10) (hb0 : w0.heap.size ≤ b) (hc : ∀ k, P1.ownBlock = some k → k < b) (hd : ∀ k, I1.ownBlock = some k → k < b) :
    I7 w0 a LA E0 P1 I1 P I b g5 g6 (up L 3 true) (up E 29 (.agg (LV a P I))) w := by
  have n6 : L 6 ≠ true := fun h => hn (H.e63 h)
  have n7 : L 7 ≠ true := fun h => n6 (H.e76 h)
  refine ⟨fr_up H (by decide) _, H.hb, fun _ => h1, H.e64, fun _ => rfl, H.e75, H.e76, H.h0, H.h2, H.h1, fun _ => ⟨rfl, hP, hI, hb0, hc, hd⟩, H.h4, fun h => ?_, H.ne⟩
  obtain ⟨x, y, z⟩ := H.h5 h
  rw [if_neg n7] at z
  exact ⟨x, y, by rw [show up L 3 true 7 = L 7 from rfl, if_neg n7]; exact z⟩
theorem I7.s4 (H : I7 w0 a LA E0 P1 I1 P2 I2 b1 g5 g6 L E w) (hn : L 4 ≠ true) {g : Nat} (hg : w.heap[g]? = some (.cells Z27 27 (0, 0))) (hl : w0.heap.size ≤ g) (hne : L 5 = true → g ≠ g6) : I7 w0 a LA E0 P1 I1 P2 I2 b1 g g6 (up L 4 true) (up E 5 (.pointer (some ⟨g, 0, none⟩))) w := by
  have n6 : L 6 ≠ true := fun h => hn (H.e64 h)
  exact ⟨fr_up H (by decide) _, H.hb, H.e31, fun _ => rfl, H.e63, H.e75, H.e76, H.h0, H.h2, H.h1, H.h3, fun _ => ⟨rfl, hl, by rw [show up L 4 true 6 = L 6 from rfl, if_neg n6]; exact hg⟩, H.h5, fun _ h => hne h⟩
theorem I7.s5 (H : I7 w0 a LA E0 P1 I1 P2 I2 b1 g5 g6 L E w) (hn : L 5 ≠ true) {g : Nat} (hg : w.heap[g]? = some (.cells Z27 27 (0, 0))) (hl : w0.heap.size ≤ g) (hne : L 4 = true → g5 ≠ g) : I7 w0 a LA E0 P1 I1 P2 I2 b1 g5 g (up L 5 true) (up E 6 (.pointer (some ⟨g, 0, none⟩))) w := by
  have n7 : L 7 ≠ true := fun h => hn (H.e75 h)
  exact ⟨fr_up H (by decide) _, H.hb, H.e31, H.e64, H.e63, fun _ => rfl, H.e76, H.h0, H.h2, H.h1, H.h3, H.h4, fun _ => ⟨rfl, hl, by rw [show up L 5 true 7 = L 7 from rfl, if_neg n7]; exact hg⟩, fun h _ => hne h⟩
theorem I7.s6 (H : I7 w0 a LA E0 P1 I1 P2 I2 b1 g5 g6 L E w) (l4 : L 4 = true) (l3 : L 3 = true) : I7 w0 a LA E0 P1 I1 P2 I2 b1 g5 g6 (up L 6 true) E (w.setRow g5 (LV a P1 I1)) := by
  obtain ⟨x, y, z⟩ := H.h4 l4
  have T := turned_row w g5 (LV a P1 I1)
  have l1 := H.e31 l3
  refine ⟨H.fr, T.below H.hb y H.hb.size, H.e31, fun _ => l4, fun _ => l3, H.e75, fun _ => rfl, H.h0, H.h2, fun _ => ⟨(H.h1 l1).1, Cl_turn (H.h1 l1).2.1 z (by decide) T, Cl_turn (H.h1 l1).2.2 z (by decide) T⟩, fun _ => ⟨(H.h3 l3).1, Cl_turn (H.h3 l3).2.1 z (by decide) T, Cl_turn (H.h3 l3).2.2.1 z (by decide) T, (H.h3 l3).2.2.2⟩, fun _ => ⟨x, y, ?_⟩, fun h => ?_, H.ne⟩
  · rw [show up L 6 true 6 = true from rfl, if_pos rfl]
    exact setRow_heap w g5 _ _ _ _ z
  · obtain ⟨x2, y2, z2⟩ := H.h5 h
    exact ⟨x2, y2, T.blk z2 (Ne.symm (H.ne l4 h))⟩
theorem I7.s7 (H : I7 w0 a LA E0 P1 I1 P2 I2 b1 g5 g6 L E w) (l5 : L 5 = true) (l6 : L 6 = true) : I7 w0 a LA E0 P1 I1 P2 I2 b1 g5 g6 (up L 7 true) E (w.setRow g6 (LV a P2 I2)) := by
  obtain ⟨x, y, z⟩ := H.h5 l5
  have T := turned_row w g6 (LV a P2 I2)
  have l3 := H.e63 l6
  have l1 := H.e31 l3
  refine ⟨H.fr, T.below H.hb y H.hb.size, H.e31, H.e64, H.e63, fun _ => l5, fun _ => l6, H.h0, H.h2, fun _ => ⟨(H.h1 l1).1, Cl_turn (H.h1 l1).2.1 z (by decide) T, Cl_turn (H.h1 l1).2.2 z (by decide) T⟩, fun _ => ⟨(H.h3 l3).1, Cl_turn (H.h3 l3).2.1 z (by decide) T, Cl_turn (H.h3 l3).2.2.1 z (by decide) T, (H.h3 l3).2.2.2⟩, fun h => ?_, fun _ => ⟨x, y, ?_⟩, H.ne⟩
  · obtain ⟨x2, y2, z2⟩ := H.h4 h
    exact ⟨x2, y2, T.blk z2 (H.ne h l5)⟩
  · rw [show up L 7 true 7 = true from rfl, if_pos rfl]
    exact setRow_heap w g6 _ _ _ _ z
end
theorem ev_up {f : Act} {s : Nat} (hs : s < f.tmps.size) (v : Value) : (fun t => (f.put (some s) v).tmps.getD t undef) = up (fun t => f.tmps.getD t undef) s v := by
  funext t
  show (f.tmps.setIfInBounds s v).getD t undef = if t = s then v else f.tmps.getD t undef
  by_cases h : t = s
  · subst h
    rw [if_pos rfl]
    simp [hs]
  · rw [if_neg h]
    simp [Array.getElem?_setIfInBounds_ne (Ne.symm h)]
theorem li_up {l : Array Bool} {i : Nat} (hi : i < l.size) : (fun j => (l.setIfInBounds i true).getD j false) = up (fun j => l.getD j false) i true := by
  funext t
  show (l.setIfInBounds i true).getD t false = if t = i then true else l.getD t false
  by_cases h : t = i
  · subst h
    rw [if_pos rfl]
    simp [hi]
  · rw [if_neg h]
    simp [Array.getElem?_setIfInBounds_ne (Ne.symm h)]
theorem act_ext {f g : Act} (hs : f.tmps.size = g.tmps.size) (hd : f.defers = g.defers) (h : ∀ t, f.tmps.getD t undef = g.tmps.getD t undef) : f = g := by
  cases f with
  | mk ft fd =>
    cases g with
    | mk gt gd =>
      simp only at hs hd h
      subst hd
      congr 1
      apply Array.ext hs
      intro i h1 h2
      have := h i
      simpa [h1, h2] using this
theorem put_size (f : Act) (d : Option Tmp) (v : Value) : (f.put d v).tmps.size = f.tmps.size := by cases d <;> simp [Act.put]
section
variable {P : Program} {ops : Array Oper} {Q : Exit → Act → World → Prop} {K : Act → World → Prop} {f : Act} {w : World} {i : Nat} {o : Oper}
theorem wanted_none (hg : o.guard = none) (y : Tmp → Option Bool) : Region.wanted o y = true := by simp [Region.wanted, hg]
theorem wpOp_some (ho : ops[i]? = some o) (hg : o.guard = none) (h : o.wp P f w K Q) : wpOp P ops Q i K f w := by
  unfold wpOp
  rw [ho]
  simp only
  rw [if_pos (by simp [Region.wanted, hg])]
  exact .inl h
theorem wpOp_call (ho : ops[i]? = some o) (hg : o.guard = none) {fi : FuncId} {fn : Func} {oas : Array Operand} {ts : Array TypeId} (hf : P.funcs[fi]? = some fn) (hname : (fn.name == "runtime.NumGoroutine") = false) (hb : fn.body.isSome = true) (args : Array Value)
    (hop : o.op = .call { callee := .value (.func fi), args := oas, argTypes := ts }) (hargs : oas.map f.eval = args)
    (h : Calls P fi args w fun e w' => ∃ v, e = .returned v ∧ K (f.put o.dst v) w') : wpOp P ops Q i K f w := by
  have hw : Region.wanted o (yielded ops f.tmps) = true := by simp [Region.wanted, hg]
  have h2 := goes_ (ops := ops) (Q := Q) (N := o.dst) hf hname hb args hw rfl hop hargs h
  rw [if_pos hw] at h2
  exact wpOp_some ho hg h2
theorem wpOp_val (ho : ops[i]? = some o) (hg : o.guard = none) {v : Value} {w1 : World} (hrun : (execOp f.eval o).run P w = .ok (.value v) w1) (h : K (f.put o.dst v) w1) : wpOp P ops Q i K f w := by
  refine wpOp_some ho hg ?_
  unfold Oper.wp
  rw [hrun]
  exact h
end
theorem not_listed {l : Array Bool} {i : Nat} (h : l.getD i true = false) : l.getD i false ≠ true := by
  unfold Array.getD at h ⊢
  split <;> simp_all
def Inv7 (w0 : World) (a : S27) (LA : Array Value) (a0 : Act) (l : Array Bool) (f : Act) (w : World) : Prop :=
  l.size = 8 ∧ f.tmps.size = a0.tmps.size ∧ f.defers = a0.defers ∧ ∃ P1 I1 P2 I2 b1 g5 g6, I7 w0 a LA (fun t => a0.tmps.getD t undef) P1 I1 P2 I2 b1 g5 g6 (fun j => l.getD j false) (fun t => f.tmps.getD t undef) w
/-- The cells are one each. -/
theorem lv_one (a : S27) (A B : Option Addr) (m n c d : Nat) : (LV a (.slice A m c) (.slice B n d)).all (·.oneCell') = true := by
  simp [LV, Value.oneCell']
theorem lv_size (a : S27) (P I : Value) : (Try.prog.info? 27).map (·.size) = some (LV a P I).size := by
  show _ = some 14
  kernel_rfl
set_option maxHeartbeats 4000000 in
theorem region7 {Q : Exit → Act → World → Prop} {a0 : Act} {W : World} {a : S27} {A9 A10 : Option Addr} {c9 c10 g1 : Nat} (hsz : 29 < a0.tmps.size) (h2 : a0.eval (.tmp 2) = .pointer (some ⟨g1, 0, none⟩)) (hB : W.heap[g1]? = some (.cells (LS a A9 c9 A10 c10) 27 (0, 0)))
    (hp : Kd.C k39 W A9 a.f9.length a.f9) (hc9 : a.f9.length ≤ c9) (hq : Kd.C k41 W A10 a.f10.length a.f10) (hc10 : a.f10.length ≤ c10) (h9 : a.f9.length < 4398046511104) (h10 : a.f10.length < 4398046511104)
    (hK : ∀ (w : World) (P1 I1 P2 I2 : Value) (b1 g5 g6 : Nat), Below W.heap.size W w → Cl k39 39 w W.heap.size P1 a.f9 → Cl k41 41 w W.heap.size I1 a.f10 → Cl k39 39 w b1 P2 a.f9 → Cl k41 41 w b1 I2 a.f10 → W.heap.size ≤ b1 → (∀ k, P1.ownBlock = some k → k < b1) → (∀ k, I1.ownBlock = some k → k < b1) →
      W.heap.size ≤ g5 → W.heap.size ≤ g6 → g5 ≠ g6 → w.heap[g5]? = some (.cells (LV a P1 I1) 27 (0, 0)) → w.heap[g6]? = some (.cells (LV a P2 I2) 27 (0, 0)) →
      Q .normal ((((((a0.put (some 26) (.agg (LS a A9 c9 A10 c10))).put (some 27) (.agg (LV a P1 I1))).put (some 28) (.agg (LS a A9 c9 A10 c10))).put (some 29) (.agg (LV a P2 I2))).put (some 5) (.pointer (some ⟨g5, 0, none⟩))).put (some 6) (.pointer (some ⟨g6, 0, none⟩))) w) :
    (Code.region 7 ops7 true).wp Try.prog Q a0 W := by
  have hmix : Try.prog.follows Departure.mixedOrders = true := by kernel_rfl
  have hb0 : Below W.heap.size W W.drew := below_drew (Below.refl _ _)
  refine wp_region_any hmix (wpAny_inv (ops := ops7) (Inv7 W.drew a (LS a A9 c9 A10 c10) a0) (fun l f w h => h.1) ?_ ?_ ops7.size _ a0 W.drew ?_ ?_)
  · rintro l f w ⟨hl, hts, hdf, P1, I1, P2, I2, b1, g5, g6, H⟩ i hi
    obtain ⟨hn, o, ho, he⟩ := mem_ready.1 hi
    have hn2 := not_listed hn
    have hlt : i < 8 := (Array.getElem?_eq_some_iff.1 ho).1
    have pre : ∀ (j : Nat) (e : Edge), o.after[j]? = some e → Region.binds .any e = true → l.getD e.on false = true := fun j e h1 h3 => he e (Array.mem_of_getElem? h1) h3
    have e2 : f.eval (.tmp 2) = .pointer (some ⟨g1, 0, none⟩) := (H.fr 2 (by decide) (by decide) (by decide) (by decide) (by decide) (by decide)).trans h2
    have hw : Below W.heap.size W w := below_step hb0 H.hb
    have hBw := blk_below hB hw
    match i, hlt with
    | 0, _ =>
      refine wpOp_some (o := ops7[0]) rfl rfl (wp_load_row 27 (.tmp 2) rfl g1 e2 27 _ (0, 0) _ hBw Try.underlying27 rfl (by kernel_rfl) ⟨by simpa using hl, (put_size ..).trans hts, hdf, P1, I1, P2, I2, b1, g5, g6, ?_⟩)
      change I7 _ _ _ _ _ _ _ _ _ _ _ _ (fun t => (f.put (some 26) _).tmps.getD t undef) _
      rw [li_up (by omega), ev_up (by omega)]
      exact H.s0
    | 2, _ =>
      refine wpOp_some (o := ops7[2]) rfl rfl (wp_load_row 27 (.tmp 2) rfl g1 e2 27 _ (0, 0) _ hBw Try.underlying27 rfl (by kernel_rfl) ⟨by simpa using hl, (put_size ..).trans hts, hdf, P1, I1, P2, I2, b1, g5, g6, ?_⟩)
      change I7 _ _ _ _ _ _ _ _ _ _ _ _ (fun t => (f.put (some 28) _).tmps.getD t undef) _
      rw [li_up (by omega), ev_up (by omega)]
      exact H.s2
    | 1, _ =>
      obtain rfl := Option.some.inj (show some ops7[1] = some o from ho)
      have l0 := pre 0 _ rfl rfl
      refine wpOp_call (o := ops7[1]) rfl rfl Try.func16 (by kernel_rfl) rfl #[.agg (LS a A9 c9 A10 c10)] rfl (by simp only [List.map_toArray, List.map_cons, List.map_nil]; rw [show f.eval (.tmp 26) = _ from H.h0 l0]) ?_
      refine (copy_v w a A9 A10 c9 c10 (Kd.C_below hp hw) hc9 (Kd.C_below hq hw) hc10 h9 h10).mono ?_
      rintro en w1 ⟨P, I, rfl, hP, hI, hb⟩
      refine ⟨_, rfl, by simpa using hl, (put_size ..).trans hts, hdf, P, I, P2, I2, b1, g5, g6, ?_⟩
      change I7 _ _ _ _ _ _ _ _ _ _ _ _ (fun t => (f.put (some 27) _).tmps.getD t undef) _
      rw [li_up (by omega), ev_up (by omega)]
      exact (H.later hb).s1 hn2 (hP.lower H.hb.size) (hI.lower H.hb.size)
    | 3, _ =>
      obtain rfl := Option.some.inj (show some ops7[3] = some o from ho)
      have l2 := pre 0 _ rfl rfl
      have l1 := pre 1 _ rfl rfl
      refine wpOp_call (o := ops7[3]) rfl rfl Try.func16 (by kernel_rfl) rfl #[.agg (LS a A9 c9 A10 c10)] rfl (by simp only [List.map_toArray, List.map_cons, List.map_nil]; rw [show f.eval (.tmp 28) = _ from H.h2 l2]) ?_
      refine (copy_v w a A9 A10 c9 c10 (Kd.C_below hp hw) hc9 (Kd.C_below hq hw) hc10 h9 h10).mono ?_
      rintro en w1 ⟨P, I, rfl, hP, hI, hb⟩
      refine ⟨_, rfl, by simpa using hl, (put_size ..).trans hts, hdf, P1, I1, P, I, w.heap.size, g5, g6, ?_⟩
      change I7 _ _ _ _ _ _ _ _ _ _ _ _ (fun t => (f.put (some 29) _).tmps.getD t undef) _
      rw [li_up (by omega), ev_up (by omega)]
      exact (H.later hb).s3 hn2 l1 hP hI H.hb.size (fun k hk => cl_lt (H.h1 l1).2.1 hk) (fun k hk => cl_lt (H.h1 l1).2.2 hk)
    | 4, _ =>
      refine wpOp_val (o := ops7[4]) rfl rfl (v := .pointer (some ⟨w.heap.size, 0, none⟩)) (w1 := w.alloc (.cells Z27 27 (0, 0))) (by first | (go_simp; done) | (go_simp; rfl)) ⟨by simpa using hl, (put_size ..).trans hts, hdf, P1, I1, P2, I2, b1, w.heap.size, g6, ?_⟩
      change I7 _ _ _ _ _ _ _ _ _ _ _ _ (fun t => (f.put (some 5) _).tmps.getD t undef) _
      rw [li_up (by omega), ev_up (by omega)]
      exact (H.later (below_alloc (Below.refl _ _) _)).s4 hn2 (blk_new _ _) H.hb.size (fun h => Ne.symm (Nat.ne_of_lt (blk_lt (H.h5 h).2.2)))
    | 5, _ =>
      refine wpOp_val (o := ops7[5]) rfl rfl (v := .pointer (some ⟨w.heap.size, 0, none⟩)) (w1 := w.alloc (.cells Z27 27 (0, 0))) (by first | (go_simp; done) | (go_simp; rfl)) ⟨by simpa using hl, (put_size ..).trans hts, hdf, P1, I1, P2, I2, b1, g5, w.heap.size, ?_⟩
      change I7 _ _ _ _ _ _ _ _ _ _ _ _ (fun t => (f.put (some 6) _).tmps.getD t undef) _
      rw [li_up (by omega), ev_up (by omega)]
      exact (H.later (below_alloc (Below.refl _ _) _)).s5 hn2 (blk_new _ _) H.hb.size (fun h => Nat.ne_of_lt (blk_lt (H.h4 h).2.2))
    | 6, _ =>
      obtain rfl := Option.some.inj (show some ops7[6] = some o from ho)
      have l4 := pre 0 _ rfl rfl
      have l1 := pre 1 _ rfl rfl
      have l3 := pre 2 _ rfl rfl
      obtain ⟨x, y, z⟩ := H.h4 l4
      obtain ⟨x1, hP, hI⟩ := H.h1 l1
      obtain ⟨A, c, rfl, _, _⟩ := hP
      obtain ⟨B, d, rfl, _, _⟩ := hI
      rw [if_neg hn2] at z
      refine wpOp_some (o := ops7[6]) rfl rfl (wp_store_row 27 (.tmp 5) (.tmp 27) rfl g5 _ x x1 27 Z27 z (lv_size ..) rfl (lv_one ..) ⟨by simpa using hl, hts, hdf, .slice A a.f9.length a.f9.length, .slice B a.f10.length a.f10.length, P2, I2, b1, g5, g6, ?_⟩)
      rw [li_up (by omega)]
      exact H.s6 l4 l3
    | 7, _ =>
      obtain rfl := Option.some.inj (show some ops7[7] = some o from ho)
      have l5 := pre 0 _ rfl rfl
      have l3 := pre 1 _ rfl rfl
      have l6 := pre 2 _ rfl rfl
      obtain ⟨x, y, z⟩ := H.h5 l5
      obtain ⟨x1, hP, hI, _⟩ := H.h3 l3
      obtain ⟨A, c, rfl, _, _⟩ := hP
      obtain ⟨B, d, rfl, _, _⟩ := hI
      rw [if_neg hn2] at z
      refine wpOp_some (o := ops7[7]) rfl rfl (wp_store_row 27 (.tmp 6) (.tmp 29) rfl g6 _ x x1 27 Z27 z (lv_size ..) rfl (lv_one ..) ⟨by simpa using hl, hts, hdf, P1, I1, .slice A a.f9.length a.f9.length, .slice B a.f10.length a.f10.length, b1, g5, g6, ?_⟩)
      rw [li_up (by omega)]
      exact H.s7 l5 l6
  · rintro l f w ⟨hl, hts, hdf, P1, I1, P2, I2, b1, g5, g6, H⟩ h0
    have r : ∀ (j : Nat) (o : Oper), ops7[j]? = some o → (∀ e ∈ o.after, l.getD e.on false = true) → l.getD j false = true := by
      intro j o ho he
      have hj : j < l.size := by rw [hl]; exact (Array.getElem?_eq_some_iff.1 ho).1
      cases hb : l.getD j false with
      | true => rfl
      | false =>
        have h1 : l.getD j true = false := by simp [hj] at hb ⊢; exact hb
        have := (mem_ready (md := .any) (ops := ops7)).2 ⟨h1, o, ho, fun e h _ => he e h⟩
        rw [h0] at this
        cases this
    have l0 := r 0 ops7[0] rfl (by intro e h; simp [ops7] at h)
    have l2 := r 2 ops7[2] rfl (by intro e h; simp [ops7] at h)
    have l4 := r 4 ops7[4] rfl (by intro e h; simp [ops7] at h)
    have l5 := r 5 ops7[5] rfl (by intro e h; simp [ops7] at h)
    have l1 := r 1 ops7[1] rfl (by intro e h; simp [ops7] at h; subst h; exact l0)
    have l3 := r 3 ops7[3] rfl (by intro e h; simp [ops7] at h; rcases h with rfl | rfl; exact l2; exact l1)
    have l6 := r 6 ops7[6] rfl (by intro e h; simp [ops7] at h; rcases h with rfl | rfl | rfl | rfl | rfl | rfl | rfl | rfl | rfl <;> assumption)
    have l7 := r 7 ops7[7] rfl (by intro e h; simp [ops7] at h; rcases h with rfl | rfl | rfl | rfl | rfl | rfl | rfl | rfl | rfl | rfl <;> assumption)
    obtain ⟨x5, y5, z5⟩ := H.h4 l4
    obtain ⟨x6, y6, z6⟩ := H.h5 l5
    obtain ⟨x27, hP1, hI1⟩ := H.h1 l1
    obtain ⟨x29, hP2, hI2, hbb, hlt1, hlt2⟩ := H.h3 l3
    rw [if_pos l6] at z5
    rw [if_pos l7] at z6
    have hf : f = ((((((a0.put (some 26) (.agg (LS a A9 c9 A10 c10))).put (some 27) (.agg (LV a P1 I1))).put (some 28) (.agg (LS a A9 c9 A10 c10))).put (some 29) (.agg (LV a P2 I2))).put (some 5) (.pointer (some ⟨g5, 0, none⟩))).put (some 6) (.pointer (some ⟨g6, 0, none⟩))) := by
      refine act_ext (by simp only [put_size]; exact hts) hdf (fun t => ?_)
      have e := congrFun (ev_up (f := (((((a0.put (some 26) (.agg (LS a A9 c9 A10 c10))).put (some 27) (.agg (LV a P1 I1))).put (some 28) (.agg (LS a A9 c9 A10 c10))).put (some 29) (.agg (LV a P2 I2))).put (some 5) (.pointer (some ⟨g5, 0, none⟩)))) (s := 6) (by simp only [put_size]; omega) (.pointer (some ⟨g6, 0, none⟩))) t
      rw [ev_up (by simp only [put_size]; omega), ev_up (by simp only [put_size]; omega), ev_up (by simp only [put_size]; omega), ev_up (by simp only [put_size]; omega), ev_up (by omega)] at e
      refine Eq.trans ?_ e.symm
      unfold up
      by_cases h6 : t = 6
      · rw [if_pos h6, h6]; exact x6
      by_cases h5 : t = 5
      · rw [if_neg h6, if_pos h5, h5]; exact x5
      by_cases h29 : t = 29
      · rw [if_neg h6, if_neg h5, if_pos h29, h29]; exact x29
      by_cases h28 : t = 28
      · rw [if_neg h6, if_neg h5, if_neg h29, if_pos h28, h28]; exact H.h2 l2
      by_cases h27 : t = 27
      · rw [if_neg h6, if_neg h5, if_neg h29, if_neg h28, if_pos h27, h27]; exact x27
      by_cases h26 : t = 26
      · rw [if_neg h6, if_neg h5, if_neg h29, if_neg h28, if_neg h27, if_pos h26, h26]; exact H.h0 l0
      rw [if_neg h6, if_neg h5, if_neg h29, if_neg h28, if_neg h27, if_neg h26]
      exact H.fr t h5 h6 h26 h27 h28 h29
    rw [hf]
    exact hK w P1 I1 P2 I2 b1 g5 g6 (below_step hb0 H.hb) hP1 hI1 hP2 hI2 hbb hlt1 hlt2 y5 y6 (H.ne l4 l5) z5 z6
  · exact ⟨rfl, rfl, rfl, .bool false, .bool false, .bool false, .bool false, 0, 0, 0, ⟨fun _ _ _ _ _ _ _ => rfl, Below.refl _ _, fun h => absurd h (by decide), fun h => absurd h (by decide), fun h => absurd h (by decide), fun h => absurd h (by decide), fun h => absurd h (by decide), fun h => absurd h (by decide), fun h => absurd h (by decide), fun h => absurd h (by decide), fun h => absurd h (by decide), fun h => absurd h (by decide), fun h => absurd h (by decide), fun h => absurd h (by decide)⟩⟩
  · decide
end Go.Proofs.Ythghacojbhjeaaa.Lp
