/- DERIVED. How many bytes a letter's texts have: letter.bulk, what it computes, and its code walked. Conditions: those that each lemma names. DERIVED. Both Unpacks, in the form of the print. Conditions: those that each lemma names. DERIVED. letter.Pack: what it computes, and its code walked. Conditions: those that each lemma names. -/
import Derived.Test.YthghacojbhjeaaaLe
import Derived.Test.YthghacojbhjeaaaLg
import Derived.Test.YthghacojbhjeaaaPKpx13
import Derived.Test.YthghacojbhjeaaaPKpx14
namespace Go.Proofs.Ythghacojbhjeaaa.Lh
open Go Go.RowKit Go.Proofs.Ythghacojbhjeaaa.PKp Go.Proofs.YthghacojbhjeaaaW.PrintWords Go.Proofs.YthghacojbhjeaaaW.PrintLast Go.Proofs.Ythghacojbhjeaaa.Hl Go.Proofs.Ythghacojbhjeaaa.Fv Go.Proofs.Ythghacojbhjeaaa.La Go.Proofs.Ythghacojbhjeaaa.Lc Go.Proofs.Ythghacojbhjeaaa.Ld Go.Proofs.Ythghacojbhjeaaa.Le
set_option linter.unusedSimpArgs false
set_option linter.unusedVariables false
def addB (n : Int) (s : ByteArray) : Int := if n ≤ 65536 then n + mn (s.size : Int) 65537 else n
theorem addB_le {n : Int} {s : ByteArray} (h0 : 0 ≤ n) (h : n ≤ 131073) : 0 ≤ addB n s ∧ addB n s ≤ 131073 := by
  unfold addB mn
  split <;> omega
set_option maxHeartbeats 4000000 in
set_option maxRecDepth 100000 in
theorem add_c {w : World} {gn : Nat} {n : Int} (s : ByteArray) (hn : w.heap[gn]? = some (.cells #[.int .i64 n] 3 (0, 0))) (h0 : 0 ≤ n) (h1 : n ≤ 131073) :
    Calls Try.prog 49 #[.string s, .pointer (some ⟨gn, 0, none⟩)] w fun en w' => en = .returned (.tuple #[]) ∧ Turned gn w w' ∧ w'.heap[gn]? = some (.cells #[.int .i64 (addB n s)] 3 (0, 0)) := by
  have c0 : w.cell? ⟨gn, 0, none⟩ = some (.int .i64 n) := (blk_cell hn 0).trans rfl
  have f0 := blk_frozen hn 0
  have HN := Aside0.mk hn
  have H01 := Aside0.mk (⟨h0, h1⟩ : 0 ≤ n ∧ n ≤ 131073)
  clear hn h0 h1
  by_cases hle : n ≤ 65536
  · have q : decide (n ≤ 65536) = true := decide_eq_true hle
    have HA := Aside0.mk (show addB n s = n + mn (s.size : Int) 65537 from if_pos hle)
    go_enter Try.func49, Try.ntmps49
    go_wp2
    all_goals go_end0
    all_goals refine ⟨rfl, (Turned.refl _ _).set (p := ⟨gn, 0, none⟩) (.inr rfl) _, ?_⟩
    all_goals refine blk_put HN.out 0 _ ?_
    all_goals (have h01 := H01.out; have hv : ∀ x : Int, x = addB n s → wrap64 x = addB n s := fun x hx => by have := addB_le (s := s) h01.1 h01.2; rw [hx]; exact Go.IntWalk.wrap64_in _ (by omega))
    all_goals rw [hv _ (by rw [HA.out]; unfold mn; split <;> omega)]
    all_goals rfl
  · have q : decide (n ≤ 65536) = false := decide_eq_false hle
    have HA := Aside0.mk (show addB n s = n from if_neg hle)
    go_enter Try.func49, Try.ntmps49
    go_wp2
    go_end0
    rw [HA.out]
    exact ⟨rfl, Turned.refl _ _, HN.out⟩
theorem Turned.st {g : Nat} {w0 w w1 : World} (h : Turned g w w1) (hb : Below w0.heap.size w0 w) (hg : w0.heap.size ≤ g) : Below w0.heap.size w0 w1 := h.below hb hg hb.size
/-- What bulk adds up. -/
def sumT (n : Int) (l : List ByteArray) : Int := l.foldl addB n
def sumP (n : Int) (l : List S39) : Int := l.foldl (fun n p => addB (addB n p.f0) p.f1) n
def sumI (n : Int) (l : List S41) : Int := l.foldl (fun n x => addB n x.f0) n
def bulkF (s t b : ByteArray) (ps : List S39) (is_ : List S41) : Int := sumI (sumP (sumT 0 [s, t, b]) ps) is_
theorem sumT_ok (l : List ByteArray) : ∀ n : Int, 0 ≤ n → n ≤ 131073 → 0 ≤ sumT n l ∧ sumT n l ≤ 131073 := by
  induction l with
  | nil => intro n h0 h1; exact ⟨h0, h1⟩
  | cons x t ih => intro n h0 h1; exact ih _ (addB_le h0 h1).1 (addB_le h0 h1).2
theorem sumP_ok (l : List S39) : ∀ n : Int, 0 ≤ n → n ≤ 131073 → 0 ≤ sumP n l ∧ sumP n l ≤ 131073 := by
  induction l with
  | nil => intro n h0 h1; exact ⟨h0, h1⟩
  | cons x t ih => intro n h0 h1; exact ih _ (addB_le (addB_le h0 h1).1 (addB_le h0 h1).2).1 (addB_le (addB_le h0 h1).1 (addB_le h0 h1).2).2
theorem sumI_ok (l : List S41) : ∀ n : Int, 0 ≤ n → n ≤ 131073 → 0 ≤ sumI n l ∧ sumI n l ≤ 131073 := by
  induction l with
  | nil => intro n h0 h1; exact ⟨h0, h1⟩
  | cons x t ih => intro n h0 h1; exact ih _ (addB_le h0 h1).1 (addB_le h0 h1).2
theorem take_step {α : Type} {β : Type} (f : β → α → β) (n : β) (l : List α) (i : Nat) (h : i < l.length) : (l.take (i + 1)).foldl f n = f ((l.take i).foldl f n) l[i] := by
  rw [List.take_add_one, List.getElem?_eq_getElem h, Option.toList_some, List.foldl_append]; rfl
theorem LC_text (k n1 n2 n3 n4 n5 n6 : Int) (s t : ByteArray) (P I : Value) (co : Int) (y : Bool) (b : ByteArray) : ∀ (i : Nat) (h : i < 3), (LC k n1 n2 n3 n4 n5 n6 s t P I co y b)[fT i]? = some (.string ([s, t, b][i]'h))
  | 0, _ | 1, _ | 2, _ => rfl
  | n + 3, h => by omega
theorem rd39_at (l : List S39) (i : Nat) (h : i < l.length) : rd_T39 l (i : Int) = l[i] := by
  unfold rd_T39
  simp [List.getD_eq_getElem?_getD, List.getElem?_eq_getElem h]
theorem rd41_at (l : List S41) (i : Nat) (h : i < l.length) : rd_T41 l (i : Int) = l[i] := by
  unfold rd_T41
  simp [List.getD_eq_getElem?_getD, List.getElem?_eq_getElem h]
set_option maxHeartbeats 8000000 in
set_option maxRecDepth 100000 in
theorem bulk_v (w : World) (k n1 n2 n3 n4 n5 n6 : Int) (s t : ByteArray) (A9 : Option Addr) (c9 : Nat) (ps : List S39) (A10 : Option Addr) (c10 : Nat) (is_ : List S41) (co : Int) (y : Bool) (b : ByteArray) (hp : Kd.C k39 w A9 ps.length ps) (hq : Kd.C k41 w A10 is_.length is_) :
    Calls Try.prog 30 #[.agg #[.int .i64 k, .int .i64 n1, .int .i64 n2, .int .i64 n3, .int .i64 n4, .int .i64 n5, .int .i64 n6, .string s, .string t, .slice A9 ps.length c9, .slice A10 is_.length c10, .int .i64 co, .bool y, .string b]] w fun en w' => en = .returned (.int .i64 (bulkF s t b ps is_)) ∧ Below w.heap.size w w' := by
  have hu27 := Try.underlying27
  have hu39 := Try.underlying39
  have hu41 := Try.underlying41
  have mixed : Try.prog.follows Departure.mixedOrders = true := by kernel_rfl
  have HP := Aside0.mk hp
  have HQ := Aside0.mk hq
  have HPm := Aside0.mk (show (ps.length : Int) ≤ 9223372036854775807 by have := hp.2.1; unfold maxLen at this; omega)
  have HQm := Aside0.mk (show (is_.length : Int) ≤ 9223372036854775807 by have := hq.2.1; unfold maxLen at this; omega)
  clear hp hq
  go_enter Try.func30, Try.ntmps30
  go_upto_region 3 with (first
      | ((with_reducible refine gate_dst (N := 1) rfl ?_); refine box_event ?hg (N := 1) ?hd (cs := #[.int .i64 k, .int .i64 n1, .int .i64 n2, .int .i64 n3, .int .i64 n4, .int .i64 n5, .int .i64 n6, .string s, .string t, .slice A9 ps.length c9, .slice A10 is_.length c10, .int .i64 co, .bool y, .string b]) (t := 27) ?hr ?_; (case hd => rfl); (case hg => rfl); (case hr => first | (go_simp; done) | (go_simp; rfl)); intro g1 hg_ wa hbox_ hb_; have B1 := Aside0.mk (show wa.heap[g1]? = some (.cells (LC k n1 n2 n3 n4 n5 n6 s t (.slice A9 ps.length c9) (.slice A10 is_.length c10) co y b) 27 (0, 0)) from hbox_); have HB1 := Aside0.mk hb_; have LG1 := Aside0.mk (show w.heap.size ≤ g1 by omega); clear hb_ hbox_ hg_)
      | ((with_reducible refine gate_dst (N := 3) rfl ?_); refine box_event ?hg (N := 3) ?hd (cs := #[.int .i64 0]) (t := 3) ?hr ?_; (case hd => rfl); (case hg => rfl); (case hr => first | (go_simp; done) | (go_simp; rfl)); intro gn hg_ wb hbox_ hb_; have BN0 := Aside0.mk hbox_; have LGN := Aside0.mk (show wa.heap.size ≤ gn by omega); have B1b := Aside0.mk (blk_below B1.out hb_); have HB2 := Aside0.mk (below_step HB1.out hb_); have y0 := blk_frozen BN0.out 0; have z0 : wb.cell? ⟨gn, 0, none⟩ = some (.int .i64 0) := (blk_cell BN0.out 0).trans rfl; clear hb_ hbox_ hg_))
  have LN := Aside0.mk (show w.heap.size ≤ gn by have h1 := LGN.out; have h2 := HB1.out.size; omega)
  have N1 := Aside0.mk (blk_ne B1b.out BN0.out (by decide))
  have BN3 := Aside0.mk (blk_put (cs' := #[.int .i64 0]) BN0.out 0 (.int .i64 0) rfl)
  have B1c := Aside0.mk (blk_far (p := ⟨gn, 0, none⟩) B1b.out N1.out (.int .i64 0))
  have HB3 := Aside0.mk (HB2.out.setCell (p := ⟨gn, 0, none⟩) LN.out (.int .i64 0))
  obtain ⟨wc, hw_⟩ : ∃ u, wb.setCell ⟨gn, 0, none⟩ (.int .i64 0) = u := ⟨_, rfl⟩
  rw [hw_] at BN3 B1c HB3 ⊢
  clear hw_ y0 z0 HB1 HB2 B1 B1b BN0
  go_wp2_with (first
      | ((with_reducible refine gate_callee (f := 19) rfl ?_); refine goesL_ (some 12) rfl rfl Try.func19 (by kernel_rfl) rfl #[.pointer (some ⟨g1, 0, none⟩)] rfl (by (try simp only [List.map_toArray, List.map_cons, List.map_nil]); first | done | rfl) ?_; (refine (texts_v B1c.out).mono ?_); rintro en wd ⟨gt, rfl, hge_, hbp_, hb_⟩; refine ⟨_, rfl, ?_⟩; have GT := Aside0.mk hbp_; have LGT := Aside0.mk hge_; have HB4 := Aside0.mk (below_step HB3.out hb_); have BN4 := Aside0.mk (blk_below BN3.out hb_); have B14 := Aside0.mk (blk_below B1c.out hb_); have NT := Aside0.mk (show gt ≠ gn by have h1 := blk_lt BN3.out; omega); clear hge_ hbp_ hb_))
  go_loopg [14] 3 (fun kq v14 wr => ∃ i : Nat, v14 = .int .i64 (i : Int) ∧ Aside0 (i ≤ 3 ∧ 3 - i ≤ kq) ∧ Aside0 (Below w.heap.size w wr) ∧ Aside0 (wr.heap[gn]? = some (.cells #[.int .i64 (sumT 0 ([s, t, b].take i))] 3 (0, 0))) ∧ Aside0 (wr.heap[g1]? = some (.cells (LC k n1 n2 n3 n4 n5 n6 s t (.slice A9 ps.length c9) (.slice A10 is_.length c10) co y b) 27 (0, 0))) ∧ Aside0 (wr.heap[gt]? = some (.cells (ptrs g1 [7, 8, 13]) 53 (0, 0))))
  case atStart => exact ⟨0, rfl, ⟨by decide⟩, HB4, BN4, B14, GT⟩
  case round =>
    obtain ⟨i, rfl, HI, HBr, BN, B1r, GTr⟩ := hrel
    by_cases hlt : i < 3
    · obtain ⟨si, hsi⟩ : ∃ si, si = [s, t, b][i] := ⟨_, rfl⟩
      have H01 := Aside0.mk (sumT_ok ([s, t, b].take i) 0 (by decide) (by decide))
      have cp : wr.cell? ⟨gt, i, none⟩ = some (.pointer (some ⟨g1, fT i, none⟩)) := ptrs_at GTr.out (text_field i hlt)
      have cs : wr.cell? ⟨g1, fT i, none⟩ = some (.string si) := (blk_cell B1r.out _).trans (hsi ▸ LC_text _ _ _ _ _ _ _ _ _ _ _ _ _ _ i hlt)
      have HS := Aside0.mk (show addB (sumT 0 ([s, t, b].take i)) si = sumT 0 ([s, t, b].take (i + 1)) by rw [hsi]; exact (take_step addB 0 [s, t, b] i hlt).symm)
      have t1 : decide ((i : Int) < 3) = true := decide_eq_true (by omega)
      clear hsi
      go_wp2_with (first
        | ((with_reducible refine gate_dst (N := 22) rfl ?_); refine goesLC (some 22) rfl rfl Try.func49 (by kernel_rfl) rfl #[.string si] #[.pointer (some ⟨gn, 0, none⟩)] rfl (by (try simp only [List.map_toArray, List.map_cons, List.map_nil]); first | done | rfl) rfl ?_; (refine (add_c si BN.out H01.out.1 H01.out.2).mono ?_); rintro en wq ⟨rfl, ht_, hn_⟩; refine ⟨_, rfl, ?_⟩; have BNq := Aside0.mk hn_; have HBq := Aside0.mk (Turned.st ht_ HBr.out LN.out); have B1q := Aside0.mk (ht_.blk B1r.out N1.out); have GTq := Aside0.mk (ht_.blk GTr.out NT.out); clear ht_ hn_))
      rw [HS.out] at BNq
      go_roundg (3 - (i + 1))
      case measure => have := HI.out.2; omega
      case rel => exact ⟨i + 1, by first | rfl | (congr 1; exact Go.IntWalk.wrap64_in _ (by omega)), ⟨by omega, Nat.le_refl _⟩, HBq, BNq, B1q, GTq⟩
    · obtain rfl : i = 3 := by have := HI.out.1; omega
      have HBs := HBr
      have BNs := Aside0.mk (show wr.heap[gn]? = some (.cells #[.int .i64 (sumT 0 [s, t, b])] 3 (0, 0)) from BN.out)
      have B1s := B1r
      have H3 := Aside0.mk (sumT_ok [s, t, b] 0 (by decide) (by decide))
      obtain ⟨m0, hm0⟩ : ∃ m0, m0 = sumT 0 [s, t, b] := ⟨_, rfl⟩
      rw [← hm0] at BNs H3
      have HM0 := Aside0.mk hm0
      clear HBr BN B1r GTr GT HB4 BN4 B14 HB3 BN3 B1c hm0 hlt HI
      have ef : wr.cell? ⟨g1, 9, none⟩ = some (.slice A9 ps.length c9) := (blk_cell B1s.out 9).trans rfl
      rename World => wo
      go_wp2
      clear ef
      go_loopg [27] ps.length (fun kq v27 wr => ∃ i : Nat, v27 = .int .i64 (i : Int) ∧ Aside0 (i ≤ ps.length ∧ ps.length - i ≤ kq) ∧ Aside0 (Below w.heap.size w wr) ∧ Aside0 (wr.heap[gn]? = some (.cells #[.int .i64 (sumP m0 (ps.take i))] 3 (0, 0))) ∧ Aside0 (wr.heap[g1]? = some (.cells (LC k n1 n2 n3 n4 n5 n6 s t (.slice A9 ps.length c9) (.slice A10 is_.length c10) co y b) 27 (0, 0))))
      case atStart => exact ⟨0, rfl, ⟨Nat.zero_le _, Nat.le_refl _⟩, HBs, BNs, B1s⟩
      case round =>
        obtain ⟨i, rfl, HI, HBr, BN, B1r⟩ := hrel
        clear HBs BNs B1s
        by_cases hlt : i < ps.length
        · obtain ⟨ad, hA, hx⟩ := at_T39 (Kd.C_below HP.out HBr.out) (i : Int) (by omega) (by omega)
          rw [rd39_at ps i hlt, Int.toNat_natCast] at hx
          obtain ⟨pi, hpi⟩ : ∃ pi, pi = ps[i] := ⟨_, rfl⟩
          rw [← hpi] at hx
          obtain ⟨hx0, hx1⟩ := hx
          have HS := Aside0.mk (show addB (addB (sumP m0 (ps.take i)) pi.f0) pi.f1 = sumP m0 (ps.take (i + 1)) by rw [hpi]; exact (take_step (fun (n : Int) (p : S39) => addB (addB n p.f0) p.f1) m0 ps i hlt).symm)
          have t1 : decide ((i : Int) < (ps.length : Int)) = true := decide_eq_true (by omega)
          have HAd := Aside0.mk hA
          have HIL := Aside0.mk (show i < ps.length from hlt)
          have HN0 := Aside0.mk (sumP_ok (ps.take i) m0 H3.out.1 H3.out.2)
          have HN1 := Aside0.mk (addB_le (s := pi.f0) HN0.out.1 HN0.out.2)
          subst hA
          clear hpi
          go_upto_region 11 with (first
            | ((with_reducible refine gate_dst (N := 8) rfl ?_); refine box_event ?hg (N := 8) ?hd (cs := #[.string (⟨#[]⟩ : ByteArray), .string (⟨#[]⟩ : ByteArray)]) (t := 39) ?hr ?_; (case hd => rfl); (case hg => rfl); (case hr => first | (go_simp; done) | (go_simp; rfl)); intro g8 hg_ wA hbox_ hb_; have LG8 := Aside0.mk (show wr.heap.size ≤ g8 by omega); have BXa := Aside0.mk hbox_; have HBa := Aside0.mk (below_step HBr.out hb_); have BNa := Aside0.mk (blk_below BN.out hb_); have B1a := Aside0.mk (blk_below B1r.out hb_); have yx0 := blk_frozen BXa.out 0; have zx0 : wA.cell? ⟨g8, 0, none⟩ = some (.string (⟨#[]⟩ : ByteArray)) := (blk_cell BXa.out 0).trans rfl; have yx1 := blk_frozen BXa.out 1; have zx1 : wA.cell? ⟨g8, 1, none⟩ = some (.string (⟨#[]⟩ : ByteArray)) := (blk_cell BXa.out 1).trans rfl; clear hb_ hbox_ hg_))
          have LW8 := Aside0.mk (show w.heap.size ≤ g8 by have h1 := LG8.out; have h2 := HBr.out.size; omega)
          have N8 := Aside0.mk (show gn ≠ g8 by have h1 := LG8.out; have h2 := blk_lt BN.out; omega)
          have N18 := Aside0.mk (show g1 ≠ g8 by have h1 := LG8.out; have h2 := blk_lt B1r.out; omega)
          have BXb := Aside0.mk (blk_put (cs' := #[.string pi.f0, .string pi.f1]) (blk_put (cs' := #[.string pi.f0, .string (⟨#[]⟩ : ByteArray)]) BXa.out 0 (.string pi.f0) rfl) 1 (.string pi.f1) rfl)
          have HBb := Aside0.mk (Below.setCell (Below.setCell HBa.out (p := ⟨g8, 0, none⟩) LW8.out (.string pi.f0)) (p := ⟨g8, 1, none⟩) LW8.out (.string pi.f1))
          have BNb := Aside0.mk (blk_far (p := ⟨g8, 1, none⟩) (blk_far (p := ⟨g8, 0, none⟩) BNa.out N8.out (.string pi.f0)) N8.out (.string pi.f1))
          have B1b := Aside0.mk (blk_far (p := ⟨g8, 1, none⟩) (blk_far (p := ⟨g8, 0, none⟩) B1a.out N18.out (.string pi.f0)) N18.out (.string pi.f1))
          obtain ⟨wB, hw_⟩ : ∃ u, ((wA.setCell ⟨g8, 0, none⟩ (.string pi.f0)).setCell ⟨g8, 1, none⟩ (.string pi.f1)) = u := ⟨_, rfl⟩
          rw [hw_] at BXb HBb BNb B1b ⊢
          clear hw_ yx0 zx0 yx1 zx1 hx0 hx1
          have zl0 : wB.cell? ⟨g8, 0, none⟩ = some (.string pi.f0) := (blk_cell BXb.out 0).trans rfl
          go_wp2_with (first
              | ((with_reducible refine gate_dst (N := 34) rfl ?_); refine goesLC (some 34) rfl rfl Try.func49 (by kernel_rfl) rfl #[.string pi.f0] #[.pointer (some ⟨gn, 0, none⟩)] rfl (by (try simp only [List.map_toArray, List.map_cons, List.map_nil]); first | done | rfl) rfl ?_; (refine (add_c pi.f0 BNb.out HN0.out.1 HN0.out.2).mono ?_); rintro en wq0 ⟨rfl, ht_, hn_⟩; refine ⟨_, rfl, ?_⟩; have BNq0 := Aside0.mk hn_; have HBq0 := Aside0.mk (Turned.st ht_ HBb.out LN.out); have B1q0 := Aside0.mk (ht_.blk B1b.out N1.out); have BXq0 := Aside0.mk (ht_.blk BXb.out (Ne.symm N8.out)); have zl1 : wq0.cell? ⟨g8, 1, none⟩ = some (.string pi.f1) := (blk_cell BXq0.out 1).trans rfl; clear ht_ hn_)
              | ((with_reducible refine gate_dst (N := 38) rfl ?_); refine goesLC (some 38) rfl rfl Try.func49 (by kernel_rfl) rfl #[.string pi.f1] #[.pointer (some ⟨gn, 0, none⟩)] rfl (by (try simp only [List.map_toArray, List.map_cons, List.map_nil]); first | done | rfl) rfl ?_; (refine (add_c pi.f1 BNq0.out HN1.out.1 HN1.out.2).mono ?_); rintro en wq1 ⟨rfl, ht_, hn_⟩; refine ⟨_, rfl, ?_⟩; have BNq1 := Aside0.mk hn_; have HBq1 := Aside0.mk (Turned.st ht_ HBq0.out LN.out); have B1q1 := Aside0.mk (ht_.blk B1q0.out N1.out); have BXq1 := Aside0.mk (ht_.blk BXq0.out (Ne.symm N8.out)); clear ht_ hn_))
          rw [HS.out] at BNq1
          go_roundg (ps.length - (i + 1))
          case measure => have := HI.out.2; have := HIL.out; omega
          case rel => exact ⟨i + 1, by first | rfl | (congr 1; exact Go.IntWalk.wrap64_in _ (by have := HPm.out; have := HIL.out; omega)), ⟨HIL.out, Nat.le_refl _⟩, HBq1, BNq1, B1q1⟩
        · obtain rfl : i = ps.length := by have := HI.out.1; omega
          have HBs := HBr
          have BNs := Aside0.mk (show wr.heap[gn]? = some (.cells #[.int .i64 (sumP m0 ps)] 3 (0, 0)) by have := BN.out; rwa [List.take_length] at this)
          have B1s := B1r
          have H4 := Aside0.mk (sumP_ok ps m0 H3.out.1 H3.out.2)
          obtain ⟨m1, hm1⟩ : ∃ m1, m1 = sumP m0 ps := ⟨_, rfl⟩
          rw [← hm1] at BNs H4
          have HM1 := Aside0.mk hm1
          clear HBr BN B1r hm1 hlt HI
          have ef : wr.cell? ⟨g1, 10, none⟩ = some (.slice A10 is_.length c10) := (blk_cell B1s.out 10).trans rfl
          rename World => wo
          go_wp2
          clear ef
          go_loopg [43] is_.length (fun kq v43 wr => ∃ i : Nat, v43 = .int .i64 (i : Int) ∧ Aside0 (i ≤ is_.length ∧ is_.length - i ≤ kq) ∧ Aside0 (Below w.heap.size w wr) ∧ Aside0 (wr.heap[gn]? = some (.cells #[.int .i64 (sumI m1 (is_.take i))] 3 (0, 0))) ∧ Aside0 (wr.heap[g1]? = some (.cells (LC k n1 n2 n3 n4 n5 n6 s t (.slice A9 ps.length c9) (.slice A10 is_.length c10) co y b) 27 (0, 0))))
          case atStart => exact ⟨0, rfl, ⟨Nat.zero_le _, Nat.le_refl _⟩, HBs, BNs, B1s⟩
          case round =>
            obtain ⟨i, rfl, HI, HBr, BN, B1r⟩ := hrel
            clear HBs BNs B1s
            by_cases hlt : i < is_.length
            · obtain ⟨ad, hA, hx⟩ := at_T41 (Kd.C_below HQ.out HBr.out) (i : Int) (by omega) (by omega)
              rw [rd41_at is_ i hlt, Int.toNat_natCast] at hx
              obtain ⟨pi, hpi⟩ : ∃ pi, pi = is_[i] := ⟨_, rfl⟩
              rw [← hpi] at hx
              obtain ⟨hx0, hx1, hx2⟩ := hx
              have HS := Aside0.mk (show addB (sumI m1 (is_.take i)) pi.f0 = sumI m1 (is_.take (i + 1)) by rw [hpi]; exact (take_step (fun (n : Int) (x : S41) => addB n x.f0) m1 is_ i hlt).symm)
              have t1 : decide ((i : Int) < (is_.length : Int)) = true := decide_eq_true (by omega)
              have HAd := Aside0.mk hA
              have HIL := Aside0.mk (show i < is_.length from hlt)
              have HN0 := Aside0.mk (sumI_ok (is_.take i) m1 H4.out.1 H4.out.2)
              subst hA
              clear hpi
              go_upto_region 17 with (first
                | ((with_reducible refine gate_dst (N := 10) rfl ?_); refine box_event ?hg (N := 10) ?hd (cs := #[.string (⟨#[]⟩ : ByteArray), .int .i64 0, .bool false]) (t := 41) ?hr ?_; (case hd => rfl); (case hg => rfl); (case hr => first | (go_simp; done) | (go_simp; rfl)); intro g8 hg_ wA hbox_ hb_; have LG8 := Aside0.mk (show wr.heap.size ≤ g8 by omega); have BXa := Aside0.mk hbox_; have HBa := Aside0.mk (below_step HBr.out hb_); have BNa := Aside0.mk (blk_below BN.out hb_); have B1a := Aside0.mk (blk_below B1r.out hb_); have yx0 := blk_frozen BXa.out 0; have zx0 : wA.cell? ⟨g8, 0, none⟩ = some (.string (⟨#[]⟩ : ByteArray)) := (blk_cell BXa.out 0).trans rfl; have yx1 := blk_frozen BXa.out 1; have zx1 : wA.cell? ⟨g8, 1, none⟩ = some (.int .i64 0) := (blk_cell BXa.out 1).trans rfl; have yx2 := blk_frozen BXa.out 2; have zx2 : wA.cell? ⟨g8, 2, none⟩ = some (.bool false) := (blk_cell BXa.out 2).trans rfl; clear hb_ hbox_ hg_))
              have LW8 := Aside0.mk (show w.heap.size ≤ g8 by have h1 := LG8.out; have h2 := HBr.out.size; omega)
              have N8 := Aside0.mk (show gn ≠ g8 by have h1 := LG8.out; have h2 := blk_lt BN.out; omega)
              have N18 := Aside0.mk (show g1 ≠ g8 by have h1 := LG8.out; have h2 := blk_lt B1r.out; omega)
              have BXb := Aside0.mk (blk_put (cs' := #[.string pi.f0, .int .i64 pi.f1, .bool pi.f2]) (blk_put (cs' := #[.string pi.f0, .int .i64 pi.f1, .bool false]) (blk_put (cs' := #[.string pi.f0, .int .i64 0, .bool false]) BXa.out 0 (.string pi.f0) rfl) 1 (.int .i64 pi.f1) rfl) 2 (.bool pi.f2) rfl)
              have HBb := Aside0.mk (Below.setCell (Below.setCell (Below.setCell HBa.out (p := ⟨g8, 0, none⟩) LW8.out (.string pi.f0)) (p := ⟨g8, 1, none⟩) LW8.out (.int .i64 pi.f1)) (p := ⟨g8, 2, none⟩) LW8.out (.bool pi.f2))
              have BNb := Aside0.mk (blk_far (p := ⟨g8, 2, none⟩) (blk_far (p := ⟨g8, 1, none⟩) (blk_far (p := ⟨g8, 0, none⟩) BNa.out N8.out (.string pi.f0)) N8.out (.int .i64 pi.f1)) N8.out (.bool pi.f2))
              have B1b := Aside0.mk (blk_far (p := ⟨g8, 2, none⟩) (blk_far (p := ⟨g8, 1, none⟩) (blk_far (p := ⟨g8, 0, none⟩) B1a.out N18.out (.string pi.f0)) N18.out (.int .i64 pi.f1)) N18.out (.bool pi.f2))
              obtain ⟨wB, hw_⟩ : ∃ u, (((wA.setCell ⟨g8, 0, none⟩ (.string pi.f0)).setCell ⟨g8, 1, none⟩ (.int .i64 pi.f1)).setCell ⟨g8, 2, none⟩ (.bool pi.f2)) = u := ⟨_, rfl⟩
              rw [hw_] at BXb HBb BNb B1b ⊢
              clear hw_ yx0 zx0 yx1 zx1 yx2 zx2 hx0 hx1 hx2
              have zl0 : wB.cell? ⟨g8, 0, none⟩ = some (.string pi.f0) := (blk_cell BXb.out 0).trans rfl
              go_wp2_with (first
                  | ((with_reducible refine gate_dst (N := 50) rfl ?_); refine goesLC (some 50) rfl rfl Try.func49 (by kernel_rfl) rfl #[.string pi.f0] #[.pointer (some ⟨gn, 0, none⟩)] rfl (by (try simp only [List.map_toArray, List.map_cons, List.map_nil]); first | done | rfl) rfl ?_; (refine (add_c pi.f0 BNb.out HN0.out.1 HN0.out.2).mono ?_); rintro en wq0 ⟨rfl, ht_, hn_⟩; refine ⟨_, rfl, ?_⟩; have BNq0 := Aside0.mk hn_; have HBq0 := Aside0.mk (Turned.st ht_ HBb.out LN.out); have B1q0 := Aside0.mk (ht_.blk B1b.out N1.out); have BXq0 := Aside0.mk (ht_.blk BXb.out (Ne.symm N8.out)); clear ht_ hn_))
              rw [HS.out] at BNq0
              go_roundg (is_.length - (i + 1))
              case measure => have := HI.out.2; have := HIL.out; omega
              case rel => exact ⟨i + 1, by first | rfl | (congr 1; exact Go.IntWalk.wrap64_in _ (by have := HQm.out; have := HIL.out; omega)), ⟨HIL.out, Nat.le_refl _⟩, HBq0, BNq0, B1q0⟩
            · obtain rfl : i = is_.length := by have := HI.out.1; omega
              have HBs := HBr
              have BNs := Aside0.mk (show wr.heap[gn]? = some (.cells #[.int .i64 (sumI m1 is_)] 3 (0, 0)) by have := BN.out; rwa [List.take_length] at this)
              have zn : wr.cell? ⟨gn, 0, none⟩ = some (.int .i64 (sumI m1 is_)) := (blk_cell BNs.out 0).trans rfl
              go_wp2
              go_ret
              exact ⟨by rw [HM1.out, HM0.out]; rfl, HBs.out⟩
end Go.Proofs.Ythghacojbhjeaaa.Lh
namespace Go.Proofs.Ythghacojbhjeaaa.Li
open Go Go.RowKit Go.Proofs.Ythghacojbhjeaaa.PKp Go.Proofs.YthghacojbhjeaaaW.PrintWords Go.Proofs.YthghacojbhjeaaaW.PrintLast Go.Proofs.Ythghacojbhjeaaa.Hl Go.Proofs.Ythghacojbhjeaaa.La Go.Proofs.Ythghacojbhjeaaa.Lc Go.Proofs.Ythghacojbhjeaaa.Le Go.Proofs.Ythghacojbhjeaaa.Lf
set_option linter.unusedSimpArgs false
set_option linter.unusedVariables false
section
variable {G G' : List Int → Int → Option (Int × Int × Int)} {T T' : List Int → Int → Option (ByteArray × Int × Int)}
theorem numG_le (hG : ∀ bs p, LeO (G bs p) (G' bs p)) (bs : List Int) (a e m o : Int) : LeO (numG G bs a e m o) (numG G' bs a e m o) := by
  unfold numG
  exact LeO.ite (LeO.map _ (hG _ _)) (LeO.refl _)
theorem textG_le (hT : ∀ bs p, LeO (T bs p) (T' bs p)) (bs : List Int) (a e : Int) : LeO (textG T bs a e) (textG T' bs a e) := by
  unfold textG
  exact LeO.ite (hT _ _) (LeO.refl _)
theorem numsG_le (hG : ∀ bs p, LeO (G bs p) (G' bs p)) (bs : List Int) : ∀ (n : Nat) (a e : Int), LeO (numsG G bs n a e) (numsG G' bs n a e)
  | 0, a, e => LeO.refl _
  | n + 1, a, e => by
    rw [numsG, numsG]
    exact LeO.bind (numG_le hG _ _ _ _ _) fun x => LeO.bind (numsG_le hG bs n _ _) fun y => LeO.refl _
theorem textsG_le (hT : ∀ bs p, LeO (T bs p) (T' bs p)) (bs : List Int) : ∀ (n : Nat) (a e : Int), LeO (textsG T bs n a e) (textsG T' bs n a e)
  | 0, a, e => LeO.refl _
  | n + 1, a, e => by
    rw [textsG, textsG]
    exact LeO.bind (textG_le hT _ _ _) fun x => LeO.bind (textsG_le hT bs n _ _) fun y => LeO.refl _
theorem pairsG_le (hT : ∀ bs p, LeO (T bs p) (T' bs p)) (bs : List Int) : ∀ (n : Nat) (a e : Int) (out : List S39), LeO (pairsG T bs n a e out) (pairsG T' bs n a e out)
  | 0, a, e, out => LeO.refl _
  | n + 1, a, e, out => by
    rw [pairsG, pairsG]
    exact LeO.ite (LeO.bind (textG_le hT _ _ _) fun x => LeO.bind (textG_le hT _ _ _) fun y => pairsG_le hT bs n _ _ _) (LeO.refl _)
theorem intentsG_le (hG : ∀ bs p, LeO (G bs p) (G' bs p)) (hT : ∀ bs p, LeO (T bs p) (T' bs p)) (bs : List Int) : ∀ (n : Nat) (a e : Int) (out : List S41), LeO (intentsG G T bs n a e out) (intentsG G' T' bs n a e out)
  | 0, a, e, out => LeO.refl _
  | n + 1, a, e, out => by
    rw [intentsG, intentsG]
    exact LeO.ite (LeO.bind (textG_le hT _ _ _) fun x => LeO.bind (numG_le hG _ _ _ _ _) fun y => LeO.bind (numG_le hG _ _ _ _ _) fun z => intentsG_le hG hT bs n _ _ _) (LeO.refl _)
theorem unpackF_le (hG : ∀ bs p, LeO (G bs p) (G' bs p)) (hT : ∀ bs p, LeO (T bs p) (T' bs p)) (s : ByteArray) : LeO (unpackF G T s) (unpackF G' T' s) := by
  unfold unpackF unpackG
  exact LeO.ite (LeO.refl _) (LeO.bind (numG_le hG _ _ _ _ _) fun _ => LeO.bind (numsG_le hG _ _ _ _) fun _ => LeO.bind (numG_le hG _ _ _ _ _) fun _ => LeO.bind (numG_le hG _ _ _ _ _) fun _ => LeO.bind (textsG_le hT _ _ _ _) fun _ =>
    LeO.bind (numG_le hG _ _ _ _ _) fun _ => LeO.bind (pairsG_le hT _ _ _ _ _) fun _ => LeO.bind (numG_le hG _ _ _ _ _) fun _ => LeO.bind (intentsG_le hG hT _ _ _ _ _) fun _ => LeO.refl _)
end
def flat (r : S27 × Int) : Int × Int × Int × Int × Int × Int × Int × ByteArray × ByteArray × (List (S39)) × (List (S41)) × Int × Bool × ByteArray × Int :=
  (r.1.f0, r.1.f1, r.1.f2, r.1.f3, r.1.f4, r.1.f5, r.1.f6, r.1.f7, r.1.f8, r.1.f9, r.1.f10, r.1.f11, r.1.f12, r.1.f13, r.2)
def letter_Unpack.f (k : Nat) (a0 : ByteArray) := (unpackF (codeN k) (codeT k) a0).map flat
def shelfmarkref13_Unpack.f (k : Nat) (a0 : ByteArray) := (unpackF (refN k) (refT k) a0).map flat
theorem letter_Unpack.mono : ∀ a0 k, LeO (letter_Unpack.f k a0) (letter_Unpack.f (k + 1) a0) := fun a0 k => LeO.map _ (unpackF_le (fun _ _ => pack_GetNum.mono _ _ _) (fun _ _ => pack_GetText.mono _ _ _ _) a0)
theorem shelfmarkref13_Unpack.mono : ∀ a0 k, LeO (shelfmarkref13_Unpack.f k a0) (shelfmarkref13_Unpack.f (k + 1) a0) := fun a0 k => LeO.map _ (unpackF_le (fun _ _ => LeO.map _ (shelfmarkref01_GetNum.mono _ _ _)) (fun _ _ => LeO.map _ (shelfmarkref01_GetText.mono _ _ _ _)) a0)
theorem letter_Unpack.calls (k : Nat) (a0 : ByteArray) (r1 : Int) (r2 : Int) (r3 : Int) (r4 : Int) (r5 : Int) (r6 : Int) (r7 : Int) (r8 : ByteArray) (r9 : ByteArray) (r10 : List (S39)) (r11 : List (S41)) (r12 : Int) (r13 : Bool) (r14 : ByteArray) (r15 : Int) (w : World) (h : letter_Unpack.f k a0 = some (r1, r2, r3, r4, r5, r6, r7, r8, r9, r10, r11, r12, r13, r14, r15)) :
    Calls Try.prog 8 #[.string a0] w fun e w' => ∃ v9_ v10_ : Value, e = .returned (.tuple #[.agg #[.int .i64 r1, .int .i64 r2, .int .i64 r3, .int .i64 r4, .int .i64 r5, .int .i64 r6, .int .i64 r7, .string r8, .string r9, v9_, v10_, .int .i64 r12, .bool r13, .string r14], .int .i64 r15]) ∧ Kd.R k39 39 w' w.heap.size (fun _ => True) v9_ r10 ∧ Kd.R k41 41 w' w.heap.size (fun _ => True) v10_ r11 ∧ Below w.heap.size w w' := by
  obtain ⟨⟨l, e⟩, hu, hf⟩ := Option.map_eq_some_iff.1 h
  simp only [flat, Prod.mk.injEq] at hf
  obtain ⟨rfl, rfl, rfl, rfl, rfl, rfl, rfl, rfl, rfl, rfl, rfl, rfl, rfl, rfl, rfl⟩ := hf
  unfold unpackF at hu
  by_cases hs : (a0.size : Int) > 65536
  · rw [if_pos hs] at hu
    obtain ⟨rfl, rfl⟩ := Prod.mk.inj (Option.some.inj hu)
    exact Le.unpack_long a0 w hs
  · rw [if_neg hs] at hu
    exact Le.unpack_short k a0 w _ hs hu
theorem shelfmarkref13_Unpack.calls (k : Nat) (a0 : ByteArray) (r1 : Int) (r2 : Int) (r3 : Int) (r4 : Int) (r5 : Int) (r6 : Int) (r7 : Int) (r8 : ByteArray) (r9 : ByteArray) (r10 : List (S39)) (r11 : List (S41)) (r12 : Int) (r13 : Bool) (r14 : ByteArray) (r15 : Int) (w : World) (h : shelfmarkref13_Unpack.f k a0 = some (r1, r2, r3, r4, r5, r6, r7, r8, r9, r10, r11, r12, r13, r14, r15)) :
    Calls Try.prog 9 #[.string a0] w fun e w' => ∃ v9_ v10_ : Value, e = .returned (.tuple #[.agg #[.int .i64 r1, .int .i64 r2, .int .i64 r3, .int .i64 r4, .int .i64 r5, .int .i64 r6, .int .i64 r7, .string r8, .string r9, v9_, v10_, .int .i64 r12, .bool r13, .string r14], .int .i64 r15]) ∧ Kd.R k39 39 w' w.heap.size (fun _ => True) v9_ r10 ∧ Kd.R k41 41 w' w.heap.size (fun _ => True) v10_ r11 ∧ Below w.heap.size w w' := by
  obtain ⟨⟨l, e⟩, hu, hf⟩ := Option.map_eq_some_iff.1 h
  simp only [flat, Prod.mk.injEq] at hf
  obtain ⟨rfl, rfl, rfl, rfl, rfl, rfl, rfl, rfl, rfl, rfl, rfl, rfl, rfl, rfl, rfl⟩ := hf
  unfold unpackF at hu
  by_cases hs : (a0.size : Int) > 65536
  · rw [if_pos hs] at hu
    obtain ⟨rfl, rfl⟩ := Prod.mk.inj (Option.some.inj hu)
    exact Lg.unpack_long a0 w hs
  · rw [if_neg hs] at hu
    exact Lg.unpack_short k a0 w _ hs hu
end Go.Proofs.Ythghacojbhjeaaa.Li
namespace Go.Proofs.Ythghacojbhjeaaa.Lj
open Go Go.RowKit Go.Proofs.Ythghacojbhjeaaa.PKp Go.Proofs.YthghacojbhjeaaaW.PrintWords Go.Proofs.YthghacojbhjeaaaW.PrintLast Go.Proofs.Ythghacojbhjeaaa.Hl Go.Proofs.Ythghacojbhjeaaa.Fv Go.Proofs.Ythghacojbhjeaaa.La Go.Proofs.Ythghacojbhjeaaa.Lc Go.Proofs.Ythghacojbhjeaaa.Ld Go.Proofs.Ythghacojbhjeaaa.Le Go.Proofs.Ythghacojbhjeaaa.Lh
set_option linter.unusedSimpArgs false
set_option linter.unusedVariables false
/-- A number within its bounds. -/
def wi (n m : Int) : Bool := decide (0 ≤ n) && decide (n ≤ m)
def goodF (kd n1 n2 n3 n4 n5 n6 co : Int) (is_ : List S41) : Bool := (wi kd 255 && wi co 1099511627776) && ([n1, n2, n3, n4, n5, n6].all (fun n => wi n 1099511627776)) && is_.all (fun x => wi x.f1 1099511627776)
theorem within_b (n m : Int) (r : Bool) (h : wi n m = r) (w : World) : Calls Try.prog 29 #[.int .i64 n, .int .i64 m] w fun e w' => e = .returned (.bool r) ∧ Below w.heap.size w w' := by
  refine (letter_within.calls n m r w ?_).mono ?_
  · unfold letter_within.f
    rw [← h]
    unfold wi
    by_cases h0 : n ≥ 0
    · rw [if_pos h0, decide_eq_true (show 0 ≤ n from h0), Bool.true_and]
    · rw [if_neg h0, decide_eq_false (show ¬ 0 ≤ n from h0), Bool.false_and]
  · rintro e w' ⟨he, hd⟩
    exact ⟨he, hd.below⟩
theorem all_step {α : Type} (f : α → Bool) (l : List α) (i : Nat) (h : i < l.length) : (l.take (i + 1)).all f = ((l.take i).all f && f l[i]) := by
  rw [List.take_add_one, List.getElem?_eq_getElem h, Option.toList_some, List.all_append]; simp
theorem LC_num (k n1 n2 n3 n4 n5 n6 : Int) (s t : ByteArray) (P I : Value) (co : Int) (y : Bool) (b : ByteArray) : ∀ (i : Nat) (h : i < 6), (LC k n1 n2 n3 n4 n5 n6 s t P I co y b)[1 + i]? = some (.int .i64 ([n1, n2, n3, n4, n5, n6][i]'h))
  | 0, _ | 1, _ | 2, _ | 3, _ | 4, _ | 5, _ => rfl
  | n + 6, h => by omega
set_option maxHeartbeats 16000000 in
set_option maxRecDepth 100000 in
theorem pack_bad (w : World) (kd n1 n2 n3 n4 n5 n6 : Int) (s t : ByteArray) (A9 : Option Addr) (c9 : Nat) (ps : List S39) (A10 : Option Addr) (c10 : Nat) (is_ : List S41) (co : Int) (y : Bool) (b : ByteArray) (hp : Kd.C k39 w A9 ps.length ps) (hq : Kd.C k41 w A10 is_.length is_) (hg : goodF kd n1 n2 n3 n4 n5 n6 co is_ = false) :
    Calls Try.prog 11 #[.agg #[.int .i64 kd, .int .i64 n1, .int .i64 n2, .int .i64 n3, .int .i64 n4, .int .i64 n5, .int .i64 n6, .string s, .string t, .slice A9 ps.length c9, .slice A10 is_.length c10, .int .i64 co, .bool y, .string b]] w fun en w' => en = .returned (.tuple #[.string (⟨#[]⟩ : ByteArray), .int .i64 1]) ∧ Below w.heap.size w w' := by
  have hu27 := Try.underlying27
  have hu39 := Try.underlying39
  have hu41 := Try.underlying41
  have mixed : Try.prog.follows Departure.mixedOrders = true := by kernel_rfl
  have HP := Aside0.mk hp
  have HQ := Aside0.mk hq
  have HPm := Aside0.mk (show (ps.length : Int) ≤ 9223372036854775807 by have := hp.2.1; unfold maxLen at this; omega)
  have HQm := Aside0.mk (show (is_.length : Int) ≤ 9223372036854775807 by have := hq.2.1; unfold maxLen at this; omega)
  have HG := Aside0.mk hg
  clear hp hq hg
  go_enter Try.func11, Try.ntmps11
  go_upto_region 1 with (first
      | ((with_reducible refine gate_dst (N := 1) rfl ?_); refine box_event ?hg (N := 1) ?hd (cs := #[.int .i64 kd, .int .i64 n1, .int .i64 n2, .int .i64 n3, .int .i64 n4, .int .i64 n5, .int .i64 n6, .string s, .string t, .slice A9 ps.length c9, .slice A10 is_.length c10, .int .i64 co, .bool y, .string b]) (t := 27) ?hr ?_; (case hd => rfl); (case hg => rfl); (case hr => first | (go_simp; done) | (go_simp; rfl)); intro g1 hg_ wa hbox_ hb_; have B1 := Aside0.mk (show wa.heap[g1]? = some (.cells (LC kd n1 n2 n3 n4 n5 n6 s t (.slice A9 ps.length c9) (.slice A10 is_.length c10) co y b) 27 (0, 0)) from hbox_); have HB1 := Aside0.mk hb_; have LG1 := Aside0.mk (show w.heap.size ≤ g1 by omega); clear hb_ hbox_ hg_))
  have e0 : wa.cell? ⟨g1, 0, none⟩ = some (.int .i64 kd) := (blk_cell B1.out 0).trans rfl
  have e11 : wa.cell? ⟨g1, 11, none⟩ = some (.int .i64 co) := (blk_cell B1.out 11).trans rfl
  go_cut [4] from 18 to 25 (fun v4 wc => v4 = .bool (wi kd 255 && wi co 1099511627776) ∧ Aside0 (Below w.heap.size w wc) ∧ Aside0 (wc.heap[g1]? = some (.cells (LC kd n1 n2 n3 n4 n5 n6 s t (.slice A9 ps.length c9) (.slice A10 is_.length c10) co y b) 27 (0, 0))))
  case first =>
    cases hk : wi kd 255 with
    | true =>
      have HK := Aside0.mk hk
      clear hk
      go_wp2_with (first
          | ((with_reducible refine gate_callee (f := 29) rfl ?_); (try (refine gate_guard (by rfl) ?_; dsimp only)); refine goesL_ (some 20) rfl rfl Try.func29 (by kernel_rfl) rfl #[.int .i64 kd, .int .i64 255] rfl (by (try simp only [List.map_toArray, List.map_cons, List.map_nil]); first | done | rfl) ?_; (refine (within_b kd 255 true HK.out _).mono ?_); rintro en wb ⟨rfl, hb_⟩; refine ⟨_, rfl, ?_⟩; have HBb := Aside0.mk (below_step HB1.out hb_); have B1b := Aside0.mk (blk_below B1.out hb_); clear e11; have e11 : wb.cell? ⟨g1, 11, none⟩ = some (.int .i64 co) := (blk_cell B1b.out 11).trans rfl; clear hb_)
          | ((with_reducible refine gate_callee (f := 29) rfl ?_); (try (refine gate_guard (by rfl) ?_; dsimp only)); refine goesL_ (some 24) rfl rfl Try.func29 (by kernel_rfl) rfl #[.int .i64 co, .int .i64 1099511627776] rfl (by (try simp only [List.map_toArray, List.map_cons, List.map_nil]); first | done | rfl) ?_; (refine (within_b co 1099511627776 _ rfl _).mono ?_); rintro en wc ⟨rfl, hb_⟩; refine ⟨_, rfl, ?_⟩; have HBc := Aside0.mk (below_step HBb.out hb_); have B1c := Aside0.mk (blk_below B1b.out hb_); clear hb_))
      go_meet
      exact ⟨by rw [HK.out]; rfl, HBc, B1c⟩
    | false =>
      have HK := Aside0.mk hk
      clear hk
      go_wp2_with (first
          | ((with_reducible refine gate_callee (f := 29) rfl ?_); (try (refine gate_guard (by rfl) ?_; dsimp only)); refine goesL_ (some 20) rfl rfl Try.func29 (by kernel_rfl) rfl #[.int .i64 kd, .int .i64 255] rfl (by (try simp only [List.map_toArray, List.map_cons, List.map_nil]); first | done | rfl) ?_; (refine (within_b kd 255 false HK.out _).mono ?_); rintro en wb ⟨rfl, hb_⟩; refine ⟨_, rfl, ?_⟩; have HBb := Aside0.mk (below_step HB1.out hb_); have B1b := Aside0.mk (blk_below B1.out hb_); clear hb_))
      go_meet
      exact ⟨by rw [HK.out]; rfl, HBb, B1b⟩
  case rest =>
    obtain ⟨rfl, HBc, B1c⟩ := hcut
    obtain ⟨g0, hg0⟩ : ∃ g0, g0 = (wi kd 255 && wi co 1099511627776) := ⟨_, rfl⟩
    rw [← hg0]
    have HG0 := Aside0.mk hg0
    clear hg0 e0 e11 B1 HB1
    go_wp2_with (first
          | ((with_reducible refine gate_callee (f := 18) rfl ?_); refine goesL_ (some 26) rfl rfl Try.func18 (by kernel_rfl) rfl #[.pointer (some ⟨g1, 0, none⟩)] rfl (by (try simp only [List.map_toArray, List.map_cons, List.map_nil]); first | done | rfl) ?_; (refine (numbers_v B1c.out).mono ?_); rintro en wd ⟨gp, rfl, hge_, hbp_, hb_⟩; refine ⟨_, rfl, ?_⟩; have GP := Aside0.mk hbp_; have HB4 := Aside0.mk (below_step HBc.out hb_); have B14 := Aside0.mk (blk_below B1c.out hb_); clear hge_ hbp_ hb_))
    go_loopg [4, 28] 6 (fun kq v4 v28 wr => ∃ (i : Nat) (gb : Bool), v28 = .int .i64 (i : Int) ∧ v4 = .bool gb ∧ Aside0 (i ≤ 6 ∧ 6 - i ≤ kq) ∧ Aside0 (gb = (g0 && ([n1, n2, n3, n4, n5, n6].take i).all (fun n => wi n 1099511627776))) ∧ Aside0 (Below w.heap.size w wr) ∧ Aside0 (wr.heap[g1]? = some (.cells (LC kd n1 n2 n3 n4 n5 n6 s t (.slice A9 ps.length c9) (.slice A10 is_.length c10) co y b) 27 (0, 0))) ∧ Aside0 (wr.heap[gp]? = some (.cells (ptrs g1 [1, 2, 3, 4, 5, 6]) 50 (0, 0))))
    case atStart => exact ⟨0, g0, rfl, rfl, ⟨by decide⟩, ⟨by simp⟩, HB4, B14, GP⟩
    case round =>
      obtain ⟨i, gb, rfl, rfl, HI, HGB, HBr, B1r, GPr⟩ := hrel
      by_cases hlt : i < 6
      · obtain ⟨ni, hni⟩ : ∃ ni, ni = [n1, n2, n3, n4, n5, n6][i] := ⟨_, rfl⟩
        have cp : wr.cell? ⟨gp, i, none⟩ = some (.pointer (some ⟨g1, 1 + i, none⟩)) := ptrs_at GPr.out (num_field i hlt)
        have cs : wr.cell? ⟨g1, 1 + i, none⟩ = some (.int .i64 ni) := (blk_cell B1r.out _).trans (hni ▸ LC_num _ _ _ _ _ _ _ _ _ _ _ _ _ _ i hlt)
        have HS := Aside0.mk (show (g0 && ([n1, n2, n3, n4, n5, n6].take (i + 1)).all (fun n => wi n 1099511627776)) = (gb && wi ni 1099511627776) by rw [all_step _ [n1, n2, n3, n4, n5, n6] i hlt, ← Bool.and_assoc, ← HGB.out, hni])
        have t1 : decide ((i : Int) < 6) = true := decide_eq_true (by omega)
        clear hni
        cases gb with
        | true =>
          go_wp2_with (first
              | ((with_reducible refine gate_callee (f := 29) rfl ?_); (try (refine gate_guard (by rfl) ?_; dsimp only)); refine goesL_ (some 37) rfl rfl Try.func29 (by kernel_rfl) rfl #[.int .i64 ni, .int .i64 1099511627776] rfl (by (try simp only [List.map_toArray, List.map_cons, List.map_nil]); first | done | rfl) ?_; (refine (within_b ni 1099511627776 _ rfl _).mono ?_); rintro en wq ⟨rfl, hb_⟩; refine ⟨_, rfl, ?_⟩; have HBq := Aside0.mk (below_step HBr.out hb_); have B1q := Aside0.mk (blk_below B1r.out hb_); have GPq := Aside0.mk (blk_below GPr.out hb_); clear hb_))
          go_roundg (6 - (i + 1))
          case measure => have := HI.out.2; omega
          case rel => exact ⟨i + 1, _, by first | rfl | (congr 1; exact Go.IntWalk.wrap64_in _ (by omega)), rfl, ⟨by omega, Nat.le_refl _⟩, ⟨by rw [HS.out, Bool.true_and]⟩, HBq, B1q, GPq⟩
        | false =>
          go_wp2
          go_roundg (6 - (i + 1))
          case measure => have := HI.out.2; omega
          case rel => exact ⟨i + 1, false, by first | rfl | (congr 1; exact Go.IntWalk.wrap64_in _ (by omega)), rfl, ⟨by omega, Nat.le_refl _⟩, ⟨by rw [HS.out, Bool.false_and]⟩, HBr, B1r, GPr⟩
      · obtain rfl : i = 6 := by have := HI.out.1; omega
        have HBs := HBr
        have B1s := B1r
        have HGs := Aside0.mk (show gb = (g0 && [n1, n2, n3, n4, n5, n6].all (fun n => wi n 1099511627776)) from HGB.out)
        clear HBr B1r GPr GP HB4 B14 HBc B1c HGB hlt HI
        obtain ⟨g2, hg2⟩ : ∃ g2, g2 = gb := ⟨_, rfl⟩
        rw [← hg2] at HGs ⊢
        clear hg2
        have ef : wr.cell? ⟨g1, 10, none⟩ = some (.slice A10 is_.length c10) := (blk_cell B1s.out 10).trans rfl
        rename World => wo
        go_wp2
        clear ef
        go_loopg [4, 43] is_.length (fun kq v4 v43 wr => ∃ (i : Nat) (gb : Bool), v43 = .int .i64 (i : Int) ∧ v4 = .bool gb ∧ Aside0 (i ≤ is_.length ∧ is_.length - i ≤ kq) ∧ Aside0 (gb = (g2 && (is_.take i).all (fun x => wi x.f1 1099511627776))) ∧ Aside0 (Below w.heap.size w wr) ∧ Aside0 (wr.heap[g1]? = some (.cells (LC kd n1 n2 n3 n4 n5 n6 s t (.slice A9 ps.length c9) (.slice A10 is_.length c10) co y b) 27 (0, 0))))
        case atStart => exact ⟨0, g2, rfl, rfl, ⟨Nat.zero_le _, Nat.le_refl _⟩, ⟨by simp⟩, HBs, B1s⟩
        case round =>
          obtain ⟨i, gb, rfl, rfl, HI, HGB, HBr, B1r⟩ := hrel
          clear HBs B1s
          by_cases hlt : i < is_.length
          · obtain ⟨ad, hA, hx⟩ := at_T41 (Kd.C_below HQ.out HBr.out) (i : Int) (by omega) (by omega)
            rw [rd41_at is_ i hlt, Int.toNat_natCast] at hx
            obtain ⟨pi, hpi⟩ : ∃ pi, pi = is_[i] := ⟨_, rfl⟩
            rw [← hpi] at hx
            obtain ⟨hx0, hx1, hx2⟩ := hx
            have HS := Aside0.mk (show (g2 && (is_.take (i + 1)).all (fun x => wi x.f1 1099511627776)) = (gb && wi pi.f1 1099511627776) by rw [all_step _ is_ i hlt, ← Bool.and_assoc, ← HGB.out, hpi])
            have t1 : decide ((i : Int) < (is_.length : Int)) = true := decide_eq_true (by omega)
            have HIL := Aside0.mk (show i < is_.length from hlt)
            subst hA
            clear hpi
            go_upto_region 10 with (first
              | ((with_reducible refine gate_dst (N := 8) rfl ?_); refine box_event ?hg (N := 8) ?hd (cs := #[.string (⟨#[]⟩ : ByteArray), .int .i64 0, .bool false]) (t := 41) ?hr ?_; (case hd => rfl); (case hg => rfl); (case hr => first | (go_simp; done) | (go_simp; rfl)); intro g8 hg_ wA hbox_ hb_; have LG8 := Aside0.mk (show wr.heap.size ≤ g8 by omega); have BXa := Aside0.mk hbox_; have HBa := Aside0.mk (below_step HBr.out hb_); have B1a := Aside0.mk (blk_below B1r.out hb_); have yx0 := blk_frozen BXa.out 0; have zx0 : wA.cell? ⟨g8, 0, none⟩ = some (.string (⟨#[]⟩ : ByteArray)) := (blk_cell BXa.out 0).trans rfl; have yx1 := blk_frozen BXa.out 1; have zx1 : wA.cell? ⟨g8, 1, none⟩ = some (.int .i64 0) := (blk_cell BXa.out 1).trans rfl; have yx2 := blk_frozen BXa.out 2; have zx2 : wA.cell? ⟨g8, 2, none⟩ = some (.bool false) := (blk_cell BXa.out 2).trans rfl; clear hb_ hbox_ hg_))
            have LW8 := Aside0.mk (show w.heap.size ≤ g8 by have h1 := LG8.out; have h2 := HBr.out.size; omega)
            have N18 := Aside0.mk (show g1 ≠ g8 by have h1 := LG8.out; have h2 := blk_lt B1r.out; omega)
            have BXb := Aside0.mk (blk_put (cs' := #[.string pi.f0, .int .i64 pi.f1, .bool pi.f2]) (blk_put (cs' := #[.string pi.f0, .int .i64 pi.f1, .bool false]) (blk_put (cs' := #[.string pi.f0, .int .i64 0, .bool false]) BXa.out 0 (.string pi.f0) rfl) 1 (.int .i64 pi.f1) rfl) 2 (.bool pi.f2) rfl)
            have HBb := Aside0.mk (Below.setCell (Below.setCell (Below.setCell HBa.out (p := ⟨g8, 0, none⟩) LW8.out (.string pi.f0)) (p := ⟨g8, 1, none⟩) LW8.out (.int .i64 pi.f1)) (p := ⟨g8, 2, none⟩) LW8.out (.bool pi.f2))
            have B1b := Aside0.mk (blk_far (p := ⟨g8, 2, none⟩) (blk_far (p := ⟨g8, 1, none⟩) (blk_far (p := ⟨g8, 0, none⟩) B1a.out N18.out (.string pi.f0)) N18.out (.int .i64 pi.f1)) N18.out (.bool pi.f2))
            obtain ⟨wB, hw_⟩ : ∃ u, (((wA.setCell ⟨g8, 0, none⟩ (.string pi.f0)).setCell ⟨g8, 1, none⟩ (.int .i64 pi.f1)).setCell ⟨g8, 2, none⟩ (.bool pi.f2)) = u := ⟨_, rfl⟩
            rw [hw_] at BXb HBb B1b ⊢
            clear hw_ yx0 yx1 yx2 zx0 zx1 zx2 hx0 hx1 hx2
            have zl : wB.cell? ⟨g8, 1, none⟩ = some (.int .i64 pi.f1) := (blk_cell BXb.out 1).trans rfl
            cases gb with
            | true =>
              go_wp2_with (first
                  | ((with_reducible refine gate_callee (f := 29) rfl ?_); (try (refine gate_guard (by rfl) ?_; dsimp only)); refine goesL_ (some 51) rfl rfl Try.func29 (by kernel_rfl) rfl #[.int .i64 pi.f1, .int .i64 1099511627776] rfl (by (try simp only [List.map_toArray, List.map_cons, List.map_nil]); first | done | rfl) ?_; (refine (within_b pi.f1 1099511627776 _ rfl _).mono ?_); rintro en wq ⟨rfl, hb_⟩; refine ⟨_, rfl, ?_⟩; have HBq := Aside0.mk (below_step HBb.out hb_); have B1q := Aside0.mk (blk_below B1b.out hb_); clear hb_))
              go_roundg (is_.length - (i + 1))
              case measure => have := HI.out.2; have := HIL.out; omega
              case rel => exact ⟨i + 1, _, by first | rfl | (congr 1; exact Go.IntWalk.wrap64_in _ (by have := HQm.out; have := HIL.out; omega)), rfl, ⟨HIL.out, Nat.le_refl _⟩, ⟨by rw [HS.out, Bool.true_and]⟩, HBq, B1q⟩
            | false =>
              go_wp2
              go_roundg (is_.length - (i + 1))
              case measure => have := HI.out.2; have := HIL.out; omega
              case rel => exact ⟨i + 1, false, by first | rfl | (congr 1; exact Go.IntWalk.wrap64_in _ (by have := HQm.out; have := HIL.out; omega)), rfl, ⟨HIL.out, Nat.le_refl _⟩, ⟨by rw [HS.out, Bool.false_and]⟩, HBb, B1b⟩
          · obtain rfl : i = is_.length := by have := HI.out.1; omega
            have hgood : gb = goodF kd n1 n2 n3 n4 n5 n6 co is_ := by
              have h := HGB.out
              rw [List.take_length, HGs.out, HG0.out] at h
              exact h
            rw [HG.out] at hgood
            subst hgood
            have HBt := HBr
            have B1t := B1r
            clear HBr B1r HGB hlt HI HGs HG0
            go_wp2
            go_ret2
            exact ⟨rfl, HBt.out⟩
set_option maxHeartbeats 16000000 in
set_option maxRecDepth 100000 in
theorem pack_large (w : World) (kd n1 n2 n3 n4 n5 n6 : Int) (s t : ByteArray) (A9 : Option Addr) (c9 : Nat) (ps : List S39) (A10 : Option Addr) (c10 : Nat) (is_ : List S41) (co : Int) (y : Bool) (b : ByteArray) (hp : Kd.C k39 w A9 ps.length ps) (hq : Kd.C k41 w A10 is_.length is_) (hg : goodF kd n1 n2 n3 n4 n5 n6 co is_ = true) (hl : (ps.length : Int) > 256 ∨ (is_.length : Int) > 256 ∨ bulkF s t b ps is_ > 65536) :
    Calls Try.prog 11 #[.agg #[.int .i64 kd, .int .i64 n1, .int .i64 n2, .int .i64 n3, .int .i64 n4, .int .i64 n5, .int .i64 n6, .string s, .string t, .slice A9 ps.length c9, .slice A10 is_.length c10, .int .i64 co, .bool y, .string b]] w fun en w' => en = .returned (.tuple #[.string (⟨#[]⟩ : ByteArray), .int .i64 4]) ∧ Below w.heap.size w w' := by
  have hu27 := Try.underlying27
  have hu39 := Try.underlying39
  have hu41 := Try.underlying41
  have mixed : Try.prog.follows Departure.mixedOrders = true := by kernel_rfl
  have HP := Aside0.mk hp
  have HQ := Aside0.mk hq
  have HPm := Aside0.mk (show (ps.length : Int) ≤ 9223372036854775807 by have := hp.2.1; unfold maxLen at this; omega)
  have HQm := Aside0.mk (show (is_.length : Int) ≤ 9223372036854775807 by have := hq.2.1; unfold maxLen at this; omega)
  have HG := Aside0.mk hg
  have HL := Aside0.mk hl
  clear hp hq hg hl
  go_enter Try.func11, Try.ntmps11
  go_upto_region 1 with (first
      | ((with_reducible refine gate_dst (N := 1) rfl ?_); refine box_event ?hg (N := 1) ?hd (cs := #[.int .i64 kd, .int .i64 n1, .int .i64 n2, .int .i64 n3, .int .i64 n4, .int .i64 n5, .int .i64 n6, .string s, .string t, .slice A9 ps.length c9, .slice A10 is_.length c10, .int .i64 co, .bool y, .string b]) (t := 27) ?hr ?_; (case hd => rfl); (case hg => rfl); (case hr => first | (go_simp; done) | (go_simp; rfl)); intro g1 hg_ wa hbox_ hb_; have B1 := Aside0.mk (show wa.heap[g1]? = some (.cells (LC kd n1 n2 n3 n4 n5 n6 s t (.slice A9 ps.length c9) (.slice A10 is_.length c10) co y b) 27 (0, 0)) from hbox_); have HB1 := Aside0.mk hb_; have LG1 := Aside0.mk (show w.heap.size ≤ g1 by omega); clear hb_ hbox_ hg_))
  have e0 : wa.cell? ⟨g1, 0, none⟩ = some (.int .i64 kd) := (blk_cell B1.out 0).trans rfl
  have e11 : wa.cell? ⟨g1, 11, none⟩ = some (.int .i64 co) := (blk_cell B1.out 11).trans rfl
  go_cut [4] from 18 to 25 (fun v4 wc => v4 = .bool (wi kd 255 && wi co 1099511627776) ∧ Aside0 (Below w.heap.size w wc) ∧ Aside0 (wc.heap[g1]? = some (.cells (LC kd n1 n2 n3 n4 n5 n6 s t (.slice A9 ps.length c9) (.slice A10 is_.length c10) co y b) 27 (0, 0))))
  case first =>
    cases hk : wi kd 255 with
    | true =>
      have HK := Aside0.mk hk
      clear hk
      go_wp2_with (first
          | ((with_reducible refine gate_callee (f := 29) rfl ?_); (try (refine gate_guard (by rfl) ?_; dsimp only)); refine goesL_ (some 20) rfl rfl Try.func29 (by kernel_rfl) rfl #[.int .i64 kd, .int .i64 255] rfl (by (try simp only [List.map_toArray, List.map_cons, List.map_nil]); first | done | rfl) ?_; (refine (within_b kd 255 true HK.out _).mono ?_); rintro en wb ⟨rfl, hb_⟩; refine ⟨_, rfl, ?_⟩; have HBb := Aside0.mk (below_step HB1.out hb_); have B1b := Aside0.mk (blk_below B1.out hb_); clear e11; have e11 : wb.cell? ⟨g1, 11, none⟩ = some (.int .i64 co) := (blk_cell B1b.out 11).trans rfl; clear hb_)
          | ((with_reducible refine gate_callee (f := 29) rfl ?_); (try (refine gate_guard (by rfl) ?_; dsimp only)); refine goesL_ (some 24) rfl rfl Try.func29 (by kernel_rfl) rfl #[.int .i64 co, .int .i64 1099511627776] rfl (by (try simp only [List.map_toArray, List.map_cons, List.map_nil]); first | done | rfl) ?_; (refine (within_b co 1099511627776 _ rfl _).mono ?_); rintro en wc ⟨rfl, hb_⟩; refine ⟨_, rfl, ?_⟩; have HBc := Aside0.mk (below_step HBb.out hb_); have B1c := Aside0.mk (blk_below B1b.out hb_); clear hb_))
      go_meet
      exact ⟨by rw [HK.out]; rfl, HBc, B1c⟩
    | false =>
      have HK := Aside0.mk hk
      clear hk
      go_wp2_with (first
          | ((with_reducible refine gate_callee (f := 29) rfl ?_); (try (refine gate_guard (by rfl) ?_; dsimp only)); refine goesL_ (some 20) rfl rfl Try.func29 (by kernel_rfl) rfl #[.int .i64 kd, .int .i64 255] rfl (by (try simp only [List.map_toArray, List.map_cons, List.map_nil]); first | done | rfl) ?_; (refine (within_b kd 255 false HK.out _).mono ?_); rintro en wb ⟨rfl, hb_⟩; refine ⟨_, rfl, ?_⟩; have HBb := Aside0.mk (below_step HB1.out hb_); have B1b := Aside0.mk (blk_below B1.out hb_); clear hb_))
      go_meet
      exact ⟨by rw [HK.out]; rfl, HBb, B1b⟩
  case rest =>
    obtain ⟨rfl, HBc, B1c⟩ := hcut
    obtain ⟨g0, hg0⟩ : ∃ g0, g0 = (wi kd 255 && wi co 1099511627776) := ⟨_, rfl⟩
    rw [← hg0]
    have HG0 := Aside0.mk hg0
    clear hg0 e0 e11 B1 HB1
    go_wp2_with (first
          | ((with_reducible refine gate_callee (f := 18) rfl ?_); refine goesL_ (some 26) rfl rfl Try.func18 (by kernel_rfl) rfl #[.pointer (some ⟨g1, 0, none⟩)] rfl (by (try simp only [List.map_toArray, List.map_cons, List.map_nil]); first | done | rfl) ?_; (refine (numbers_v B1c.out).mono ?_); rintro en wd ⟨gp, rfl, hge_, hbp_, hb_⟩; refine ⟨_, rfl, ?_⟩; have GP := Aside0.mk hbp_; have HB4 := Aside0.mk (below_step HBc.out hb_); have B14 := Aside0.mk (blk_below B1c.out hb_); clear hge_ hbp_ hb_))
    go_loopg [4, 28] 6 (fun kq v4 v28 wr => ∃ (i : Nat) (gb : Bool), v28 = .int .i64 (i : Int) ∧ v4 = .bool gb ∧ Aside0 (i ≤ 6 ∧ 6 - i ≤ kq) ∧ Aside0 (gb = (g0 && ([n1, n2, n3, n4, n5, n6].take i).all (fun n => wi n 1099511627776))) ∧ Aside0 (Below w.heap.size w wr) ∧ Aside0 (wr.heap[g1]? = some (.cells (LC kd n1 n2 n3 n4 n5 n6 s t (.slice A9 ps.length c9) (.slice A10 is_.length c10) co y b) 27 (0, 0))) ∧ Aside0 (wr.heap[gp]? = some (.cells (ptrs g1 [1, 2, 3, 4, 5, 6]) 50 (0, 0))))
    case atStart => exact ⟨0, g0, rfl, rfl, ⟨by decide⟩, ⟨by simp⟩, HB4, B14, GP⟩
    case round =>
      obtain ⟨i, gb, rfl, rfl, HI, HGB, HBr, B1r, GPr⟩ := hrel
      by_cases hlt : i < 6
      · obtain ⟨ni, hni⟩ : ∃ ni, ni = [n1, n2, n3, n4, n5, n6][i] := ⟨_, rfl⟩
        have cp : wr.cell? ⟨gp, i, none⟩ = some (.pointer (some ⟨g1, 1 + i, none⟩)) := ptrs_at GPr.out (num_field i hlt)
        have cs : wr.cell? ⟨g1, 1 + i, none⟩ = some (.int .i64 ni) := (blk_cell B1r.out _).trans (hni ▸ LC_num _ _ _ _ _ _ _ _ _ _ _ _ _ _ i hlt)
        have HS := Aside0.mk (show (g0 && ([n1, n2, n3, n4, n5, n6].take (i + 1)).all (fun n => wi n 1099511627776)) = (gb && wi ni 1099511627776) by rw [all_step _ [n1, n2, n3, n4, n5, n6] i hlt, ← Bool.and_assoc, ← HGB.out, hni])
        have t1 : decide ((i : Int) < 6) = true := decide_eq_true (by omega)
        clear hni
        cases gb with
        | true =>
          go_wp2_with (first
              | ((with_reducible refine gate_callee (f := 29) rfl ?_); (try (refine gate_guard (by rfl) ?_; dsimp only)); refine goesL_ (some 37) rfl rfl Try.func29 (by kernel_rfl) rfl #[.int .i64 ni, .int .i64 1099511627776] rfl (by (try simp only [List.map_toArray, List.map_cons, List.map_nil]); first | done | rfl) ?_; (refine (within_b ni 1099511627776 _ rfl _).mono ?_); rintro en wq ⟨rfl, hb_⟩; refine ⟨_, rfl, ?_⟩; have HBq := Aside0.mk (below_step HBr.out hb_); have B1q := Aside0.mk (blk_below B1r.out hb_); have GPq := Aside0.mk (blk_below GPr.out hb_); clear hb_))
          go_roundg (6 - (i + 1))
          case measure => have := HI.out.2; omega
          case rel => exact ⟨i + 1, _, by first | rfl | (congr 1; exact Go.IntWalk.wrap64_in _ (by omega)), rfl, ⟨by omega, Nat.le_refl _⟩, ⟨by rw [HS.out, Bool.true_and]⟩, HBq, B1q, GPq⟩
        | false =>
          go_wp2
          go_roundg (6 - (i + 1))
          case measure => have := HI.out.2; omega
          case rel => exact ⟨i + 1, false, by first | rfl | (congr 1; exact Go.IntWalk.wrap64_in _ (by omega)), rfl, ⟨by omega, Nat.le_refl _⟩, ⟨by rw [HS.out, Bool.false_and]⟩, HBr, B1r, GPr⟩
      · obtain rfl : i = 6 := by have := HI.out.1; omega
        have HBs := HBr
        have B1s := B1r
        have HGs := Aside0.mk (show gb = (g0 && [n1, n2, n3, n4, n5, n6].all (fun n => wi n 1099511627776)) from HGB.out)
        clear HBr B1r GPr GP HB4 B14 HBc B1c HGB hlt HI
        obtain ⟨g2, hg2⟩ : ∃ g2, g2 = gb := ⟨_, rfl⟩
        rw [← hg2] at HGs ⊢
        clear hg2
        have ef : wr.cell? ⟨g1, 10, none⟩ = some (.slice A10 is_.length c10) := (blk_cell B1s.out 10).trans rfl
        rename World => wo
        go_wp2
        clear ef
        go_loopg [4, 43] is_.length (fun kq v4 v43 wr => ∃ (i : Nat) (gb : Bool), v43 = .int .i64 (i : Int) ∧ v4 = .bool gb ∧ Aside0 (i ≤ is_.length ∧ is_.length - i ≤ kq) ∧ Aside0 (gb = (g2 && (is_.take i).all (fun x => wi x.f1 1099511627776))) ∧ Aside0 (Below w.heap.size w wr) ∧ Aside0 (wr.heap[g1]? = some (.cells (LC kd n1 n2 n3 n4 n5 n6 s t (.slice A9 ps.length c9) (.slice A10 is_.length c10) co y b) 27 (0, 0))))
        case atStart => exact ⟨0, g2, rfl, rfl, ⟨Nat.zero_le _, Nat.le_refl _⟩, ⟨by simp⟩, HBs, B1s⟩
        case round =>
          obtain ⟨i, gb, rfl, rfl, HI, HGB, HBr, B1r⟩ := hrel
          clear HBs B1s
          by_cases hlt : i < is_.length
          · obtain ⟨ad, hA, hx⟩ := at_T41 (Kd.C_below HQ.out HBr.out) (i : Int) (by omega) (by omega)
            rw [rd41_at is_ i hlt, Int.toNat_natCast] at hx
            obtain ⟨pi, hpi⟩ : ∃ pi, pi = is_[i] := ⟨_, rfl⟩
            rw [← hpi] at hx
            obtain ⟨hx0, hx1, hx2⟩ := hx
            have HS := Aside0.mk (show (g2 && (is_.take (i + 1)).all (fun x => wi x.f1 1099511627776)) = (gb && wi pi.f1 1099511627776) by rw [all_step _ is_ i hlt, ← Bool.and_assoc, ← HGB.out, hpi])
            have t1 : decide ((i : Int) < (is_.length : Int)) = true := decide_eq_true (by omega)
            have HIL := Aside0.mk (show i < is_.length from hlt)
            subst hA
            clear hpi
            go_upto_region 10 with (first
              | ((with_reducible refine gate_dst (N := 8) rfl ?_); refine box_event ?hg (N := 8) ?hd (cs := #[.string (⟨#[]⟩ : ByteArray), .int .i64 0, .bool false]) (t := 41) ?hr ?_; (case hd => rfl); (case hg => rfl); (case hr => first | (go_simp; done) | (go_simp; rfl)); intro g8 hg_ wA hbox_ hb_; have LG8 := Aside0.mk (show wr.heap.size ≤ g8 by omega); have BXa := Aside0.mk hbox_; have HBa := Aside0.mk (below_step HBr.out hb_); have B1a := Aside0.mk (blk_below B1r.out hb_); have yx0 := blk_frozen BXa.out 0; have zx0 : wA.cell? ⟨g8, 0, none⟩ = some (.string (⟨#[]⟩ : ByteArray)) := (blk_cell BXa.out 0).trans rfl; have yx1 := blk_frozen BXa.out 1; have zx1 : wA.cell? ⟨g8, 1, none⟩ = some (.int .i64 0) := (blk_cell BXa.out 1).trans rfl; have yx2 := blk_frozen BXa.out 2; have zx2 : wA.cell? ⟨g8, 2, none⟩ = some (.bool false) := (blk_cell BXa.out 2).trans rfl; clear hb_ hbox_ hg_))
            have LW8 := Aside0.mk (show w.heap.size ≤ g8 by have h1 := LG8.out; have h2 := HBr.out.size; omega)
            have N18 := Aside0.mk (show g1 ≠ g8 by have h1 := LG8.out; have h2 := blk_lt B1r.out; omega)
            have BXb := Aside0.mk (blk_put (cs' := #[.string pi.f0, .int .i64 pi.f1, .bool pi.f2]) (blk_put (cs' := #[.string pi.f0, .int .i64 pi.f1, .bool false]) (blk_put (cs' := #[.string pi.f0, .int .i64 0, .bool false]) BXa.out 0 (.string pi.f0) rfl) 1 (.int .i64 pi.f1) rfl) 2 (.bool pi.f2) rfl)
            have HBb := Aside0.mk (Below.setCell (Below.setCell (Below.setCell HBa.out (p := ⟨g8, 0, none⟩) LW8.out (.string pi.f0)) (p := ⟨g8, 1, none⟩) LW8.out (.int .i64 pi.f1)) (p := ⟨g8, 2, none⟩) LW8.out (.bool pi.f2))
            have B1b := Aside0.mk (blk_far (p := ⟨g8, 2, none⟩) (blk_far (p := ⟨g8, 1, none⟩) (blk_far (p := ⟨g8, 0, none⟩) B1a.out N18.out (.string pi.f0)) N18.out (.int .i64 pi.f1)) N18.out (.bool pi.f2))
            obtain ⟨wB, hw_⟩ : ∃ u, (((wA.setCell ⟨g8, 0, none⟩ (.string pi.f0)).setCell ⟨g8, 1, none⟩ (.int .i64 pi.f1)).setCell ⟨g8, 2, none⟩ (.bool pi.f2)) = u := ⟨_, rfl⟩
            rw [hw_] at BXb HBb B1b ⊢
            clear hw_ yx0 yx1 yx2 zx0 zx1 zx2 hx0 hx1 hx2
            have zl : wB.cell? ⟨g8, 1, none⟩ = some (.int .i64 pi.f1) := (blk_cell BXb.out 1).trans rfl
            cases gb with
            | true =>
              go_wp2_with (first
                  | ((with_reducible refine gate_callee (f := 29) rfl ?_); (try (refine gate_guard (by rfl) ?_; dsimp only)); refine goesL_ (some 51) rfl rfl Try.func29 (by kernel_rfl) rfl #[.int .i64 pi.f1, .int .i64 1099511627776] rfl (by (try simp only [List.map_toArray, List.map_cons, List.map_nil]); first | done | rfl) ?_; (refine (within_b pi.f1 1099511627776 _ rfl _).mono ?_); rintro en wq ⟨rfl, hb_⟩; refine ⟨_, rfl, ?_⟩; have HBq := Aside0.mk (below_step HBb.out hb_); have B1q := Aside0.mk (blk_below B1b.out hb_); clear hb_))
              go_roundg (is_.length - (i + 1))
              case measure => have := HI.out.2; have := HIL.out; omega
              case rel => exact ⟨i + 1, _, by first | rfl | (congr 1; exact Go.IntWalk.wrap64_in _ (by have := HQm.out; have := HIL.out; omega)), rfl, ⟨HIL.out, Nat.le_refl _⟩, ⟨by rw [HS.out, Bool.true_and]⟩, HBq, B1q⟩
            | false =>
              go_wp2
              go_roundg (is_.length - (i + 1))
              case measure => have := HI.out.2; have := HIL.out; omega
              case rel => exact ⟨i + 1, false, by first | rfl | (congr 1; exact Go.IntWalk.wrap64_in _ (by have := HQm.out; have := HIL.out; omega)), rfl, ⟨HIL.out, Nat.le_refl _⟩, ⟨by rw [HS.out, Bool.false_and]⟩, HBb, B1b⟩
          · obtain rfl : i = is_.length := by have := HI.out.1; omega
            have hgood : gb = goodF kd n1 n2 n3 n4 n5 n6 co is_ := by
              have h := HGB.out
              rw [List.take_length, HGs.out, HG0.out] at h
              exact h
            rw [HG.out] at hgood
            subst hgood
            have HBt := HBr
            have B1t := B1r
            clear HBr B1r HGB hlt HI HGs HG0
            have l0 : wr.cell? ⟨g1, 0, none⟩ = some (.int .i64 kd) := (blk_cell B1t.out 0).trans rfl
            have l1 : wr.cell? ⟨g1, 1, none⟩ = some (.int .i64 n1) := (blk_cell B1t.out 1).trans rfl
            have l2 : wr.cell? ⟨g1, 2, none⟩ = some (.int .i64 n2) := (blk_cell B1t.out 2).trans rfl
            have l3 : wr.cell? ⟨g1, 3, none⟩ = some (.int .i64 n3) := (blk_cell B1t.out 3).trans rfl
            have l4 : wr.cell? ⟨g1, 4, none⟩ = some (.int .i64 n4) := (blk_cell B1t.out 4).trans rfl
            have l5 : wr.cell? ⟨g1, 5, none⟩ = some (.int .i64 n5) := (blk_cell B1t.out 5).trans rfl
            have l6 : wr.cell? ⟨g1, 6, none⟩ = some (.int .i64 n6) := (blk_cell B1t.out 6).trans rfl
            have l7 : wr.cell? ⟨g1, 7, none⟩ = some (.string s) := (blk_cell B1t.out 7).trans rfl
            have l8 : wr.cell? ⟨g1, 8, none⟩ = some (.string t) := (blk_cell B1t.out 8).trans rfl
            have l9 : wr.cell? ⟨g1, 9, none⟩ = some (.slice A9 ps.length c9) := (blk_cell B1t.out 9).trans rfl
            have l10 : wr.cell? ⟨g1, 10, none⟩ = some (.slice A10 is_.length c10) := (blk_cell B1t.out 10).trans rfl
            have l11 : wr.cell? ⟨g1, 11, none⟩ = some (.int .i64 co) := (blk_cell B1t.out 11).trans rfl
            have l12 : wr.cell? ⟨g1, 12, none⟩ = some (.bool y) := (blk_cell B1t.out 12).trans rfl
            have l13 : wr.cell? ⟨g1, 13, none⟩ = some (.string b) := (blk_cell B1t.out 13).trans rfl
            by_cases h1 : (ps.length : Int) > 256
            · have q1 : decide ((ps.length : Int) > 256) = true := decide_eq_true h1
              go_wp2
              go_ret2
              exact ⟨rfl, HBt.out⟩
            · have q1 : decide ((ps.length : Int) > 256) = false := decide_eq_false h1
              by_cases h2 : (is_.length : Int) > 256
              · have q2 : decide ((is_.length : Int) > 256) = true := decide_eq_true h2
                go_wp2
                go_ret2
                exact ⟨rfl, HBt.out⟩
              · have q2 : decide ((is_.length : Int) > 256) = false := decide_eq_false h2
                have q3 : decide (bulkF s t b ps is_ > 65536) = true := decide_eq_true ((HL.out.resolve_left h1).resolve_left h2)
                clear h1 h2
                go_wp2_with (first
                    | ((with_reducible refine gate_callee (f := 30) rfl ?_); refine goesL_ (some 67) rfl rfl Try.func30 (by kernel_rfl) rfl #[.agg #[.int .i64 kd, .int .i64 n1, .int .i64 n2, .int .i64 n3, .int .i64 n4, .int .i64 n5, .int .i64 n6, .string s, .string t, .slice A9 ps.length c9, .slice A10 is_.length c10, .int .i64 co, .bool y, .string b]] rfl (by (try simp only [List.map_toArray, List.map_cons, List.map_nil]); first | done | rfl) ?_; (refine (bulk_v _ kd n1 n2 n3 n4 n5 n6 s t A9 c9 ps A10 c10 is_ co y b (Kd.C_below HP.out HBt.out) (Kd.C_below HQ.out HBt.out)).mono ?_); rintro en wk ⟨rfl, hb_⟩; refine ⟨_, rfl, ?_⟩; have HBk := Aside0.mk (below_step HBt.out hb_); have B1k := Aside0.mk (blk_below B1t.out hb_); clear hb_))
                go_ret2
                exact ⟨rfl, HBk.out⟩
end Go.Proofs.Ythghacojbhjeaaa.Lj
