/- DERIVED. The letter's reader, which reads on until something is wrong: its methods. Conditions: those that each lemma names. DERIVED. The closures that read a pair and an intent. Conditions: those that each lemma names. DERIVED. letter.list at pairs and at intents: what it computes, and its code walked. Conditions: those that each lemma names. DERIVED. A letter's numbers and texts as pointers. Conditions: those that each lemma names. -/
import Derived.Test.YthghacojbhjeaaaPKpx12
import Derived.Test.YthghacojbhjeaaaPKpx13
import Derived.Laws.CopyRow
import Derived.Shelf.RegionOpenPlain
import Derived.WalkKit
import Derived.Deep.RegionHeld3
import Derived.Test.YthghacojbhjeaaaFv
import Derived.Laws.Rows
import Derived.BigRegion
namespace Go.Proofs.Ythghacojbhjeaaa.La
open Go Go.RowKit Go.Proofs.Ythghacojbhjeaaa.PKp Go.Proofs.YthghacojbhjeaaaW.PrintWords Go.Proofs.YthghacojbhjeaaaW.PrintLast Go.Proofs.Ythghacojbhjeaaa.Hl
set_option linter.unusedSimpArgs false
set_option linter.unusedVariables false
/-- All is as it was but block g; nothing was said. -/
structure Turned (g : Nat) (w w' : World) : Prop where
  os : w'.os = w.os
  tape : w'.tape = w.tape
  output : w'.output = w.output
  size : w.heap.size ≤ w'.heap.size
  block : ∀ k, k < w.heap.size → k ≠ g → w'.heap[k]? = w.heap[k]?
theorem Turned.below {g B : Nat} {w0 w w' : World} (h : Turned g w w') (hb : Below B w0 w) (hg : B ≤ g) (hB : B ≤ w.heap.size) : Below B w0 w' :=
  hb.trans ⟨h.os, h.tape, h.output, h.size, fun k hk => h.block k (by omega) (by omega)⟩
theorem Turned.blk {g g' : Nat} {w w' : World} {o : Obj} (h : Turned g w w') (hb : w.heap[g']? = some o) (hne : g' ≠ g) : w'.heap[g']? = some o := (h.block g' (blk_lt hb) hne).trans hb
theorem Turned.refl (g : Nat) (w : World) : Turned g w w := ⟨rfl, rfl, rfl, Nat.le_refl _, fun _ _ _ => rfl⟩
theorem Turned.trans {g : Nat} {w w1 w2 : World} (h : Turned g w w1) (k : Turned g w1 w2) : Turned g w w2 :=
  ⟨k.os.trans h.os, k.tape.trans h.tape, k.output.trans h.output, Nat.le_trans h.size k.size, fun i hi hne => (k.block i (Nat.lt_of_lt_of_le hi h.size) hne).trans (h.block i hi hne)⟩
theorem Turned.of_below {g : Nat} {w w1 : World} (h : Below w.heap.size w w1) : Turned g w w1 := ⟨h.os, h.tape, h.output, h.size, fun i hi _ => h.block i hi⟩
theorem Turned.set {g : Nat} {w w1 : World} (h : Turned g w w1) {p : Addr} (hp : w.heap.size ≤ p.block ∨ p.block = g) (v : Value) : Turned g w (w1.setCell p v) :=
  ⟨h.os, h.tape, h.output, by have := h.size; simpa [World.setCell] using this, fun i hi hne => (Below.heap_setCell _ _ _ _ (by rcases hp with hp | hp <;> omega)).trans (h.block i hi hne)⟩
theorem Turned.grown {g : Nat} {w w1 w2 : World} (h : Turned g w w1) (hb : Below w.heap.size w1 w2) : Turned g w w2 :=
  ⟨hb.os.trans h.os, hb.tape.trans h.tape, hb.output.trans h.output, Nat.le_trans h.size hb.size, fun i hi hne => (hb.block i hi).trans (h.block i hi hne)⟩
/-- A reader in block gr (of type t): the bytes, the place, the error. -/
structure Rdr (t : Nat) (w0 w : World) (gr : Nat) (A : Option Addr) (c : Nat) (bs : List Int) (at_ e : Int) : Prop where
  below : Below w0.heap.size w0 w
  hb : w0.heap.size ≤ gr
  box : w.heap[gr]? = some (.cells #[.slice A bs.length c, .int .i64 at_, .int .i64 e] t (0, 0))
  reads : Kd.C (Kd.int .u8) w0 A bs.length bs
  room : bs.length ≤ c
theorem Rdr.later {t : Nat} {w0 w w1 : World} {gr : Nat} {A : Option Addr} {c : Nat} {bs : List Int} {at_ e : Int} (h : Rdr t w0 w gr A c bs at_ e) (hb : Below w.heap.size w w1) : Rdr t w0 w1 gr A c bs at_ e := ⟨below_step h.below hb, h.hb, blk_below h.box hb, h.reads, h.room⟩
/-- Something else was written, behind w0. -/
theorem Rdr.far {t : Nat} {w0 w : World} {gr : Nat} {A : Option Addr} {c : Nat} {bs : List Int} {at_ e : Int} (h : Rdr t w0 w gr A c bs at_ e) {p : Addr} (hp : w0.heap.size ≤ p.block) (hne : gr ≠ p.block) (v : Value) : Rdr t w0 (w.setCell p v) gr A c bs at_ e :=
  ⟨h.below.setCell hp _, h.hb, (Below.heap_setCell _ _ _ _ hne).trans h.box, h.reads, h.room⟩
/-- The place and the error are written. -/
theorem Rdr.put {t : Nat} {w0 w : World} {gr : Nat} {A : Option Addr} {c : Nat} {bs : List Int} {at_ e : Int} (h : Rdr t w0 w gr A c bs at_ e) (a1 e1 : Int) : Rdr t w0 ((w.setCell ⟨gr, 1, none⟩ (.int .i64 a1)).setCell ⟨gr, 2, none⟩ (.int .i64 e1)) gr A c bs a1 e1 :=
  ⟨(h.below.setCell (p := ⟨gr, 1, none⟩) h.hb _).setCell (p := ⟨gr, 2, none⟩) h.hb _, h.hb, blk_put (blk_put h.box 1 _ rfl) 2 _ rfl, h.reads, h.room⟩
theorem Rdr.err {t : Nat} {w0 w : World} {gr : Nat} {A : Option Addr} {c : Nat} {bs : List Int} {at_ e : Int} (h : Rdr t w0 w gr A c bs at_ e) (e1 : Int) : Rdr t w0 (w.setCell ⟨gr, 2, none⟩ (.int .i64 e1)) gr A c bs at_ e1 :=
  ⟨h.below.setCell (p := ⟨gr, 2, none⟩) h.hb _, h.hb, blk_put h.box 2 _ rfl, h.reads, h.room⟩
theorem keepR {t : Nat} {W : World} {gr : Nat} {a b c : Value} (h : W.heap[gr]? = some (.cells #[a, b, c] t (0, 0))) : W.cell? ⟨gr, 0, none⟩ = some a ∧ W.cell? ⟨gr, 1, none⟩ = some b := ⟨(blk_cell h 0).trans rfl, (blk_cell h 1).trans rfl⟩
/-- A number of at most so many, by whatever reads numbers. -/
def numG (G : List Int → Int → Option (Int × Int × Int)) (bs : List Int) (at_ e most other : Int) : Option (Int × Int × Int) :=
  if e = 0 then (G bs at_).map fun r => if r.2.2 = 0 ∧ r.1 > most then (0, r.2.1, other) else r else some (0, at_, e)
def textG (T : List Int → Int → Option (ByteArray × Int × Int)) (bs : List Int) (at_ e : Int) : Option (ByteArray × Int × Int) :=
  if e = 0 then T bs at_ else some (⟨#[]⟩, at_, e)
def codeN (k : Nat) : List Int → Int → Option (Int × Int × Int) := fun bs p => pack_GetNum.f k bs p
def codeT (k : Nat) : List Int → Int → Option (ByteArray × Int × Int) := fun bs p => pack_GetText.f k bs p 9223372036854775807
set_option maxHeartbeats 4000000 in
set_option maxRecDepth 100000 in
theorem num_v {w0 w : World} {gr : Nat} {A : Option Addr} {c : Nat} {bs : List Int} {at_ e : Int} (h : Rdr 45 w0 w gr A c bs at_ e) (k : Nat) (most other n a1 e1 : Int) (hf : numG (codeN k) bs at_ e most other = some (n, a1, e1)) :
    Calls Try.prog 17 #[.pointer (some ⟨gr, 0, none⟩), .int .i64 most, .int .i64 other] w fun en w' => en = .returned (.int .i64 n) ∧ Rdr 45 w0 w' gr A c bs a1 e1 ∧ Turned gr w w' := by
  have mixed : Try.prog.follows Departure.mixedOrders = true := by kernel_rfl
  have H0 := Aside0.mk h
  have c0 : w.cell? ⟨gr, 0, none⟩ = some (.slice A bs.length c) := (blk_cell h.box 0).trans rfl
  have c1 : w.cell? ⟨gr, 1, none⟩ = some (.int .i64 at_) := (blk_cell h.box 1).trans rfl
  have c2 : w.cell? ⟨gr, 2, none⟩ = some (.int .i64 e) := (blk_cell h.box 2).trans rfl
  unfold numG at hf
  by_cases he : e = 0
  · rw [if_pos he] at hf
    subst he
    replace hf := Option.map_eq_some_iff.1 hf
    obtain ⟨⟨n', a', e'⟩, hf, hr⟩ := hf
    have HF := Aside0.mk (show pack_GetNum.f k bs at_ = some (n', a', e') from hf)
    have HR := Aside0.mk hr
    clear h hf hr
    go_enter Try.func17, Try.ntmps17
    go_upto_region 3 with (fail)
    go_cut [7, 8, 9] from 7 to 44 (fun v7 v8 v9 wc => v7 = .int .i64 n' ∧ v8 = .int .i64 a' ∧ v9 = .int .i64 e' ∧ Aside0 (Below w.heap.size w wc))
    case first =>
      go_region_held3 (fun W : World => W.cell? ⟨gr, 0, none⟩ = some (.slice A bs.length c) ∧ W.cell? ⟨gr, 1, none⟩ = some (.int .i64 at_)) (exact keepR (by repeat (first | exact H0.out.box | exact HX5.out | refine blk_drewN ?_ _ | refine blk_drew ?_ | refine blk_alloc ?_ _))) (first
        | (go_at_call 45; (with_reducible refine (pack_GetNum.calls k _ _ bs at_ n' a' e' _ ?side1 ?side2 HF.out).mono ?_); (case side1 => repeat (first | exact Kd.C_below H0.out.reads H0.out.below | (with_reducible refine Kd.C_drewN ?_ _) | (with_reducible refine Kd.C_drew ?_))); (case side2 => exact H0.out.room); rintro e w5 ⟨rfl, hB⟩; have HB5 := Aside0.mk (below_step (show Below w.heap.size w _ by repeat (first | exact Below.refl _ _ | apply pw_below_drewN | apply below_drew)) hB); have HX5 := Aside0.mk (blk_below (by repeat (first | exact H0.out.box | refine blk_drewN ?_ _ | refine blk_drew ?_)) hB); clear hB))
      all_goals (try go_wp2)
      all_goals go_meet
      all_goals exact ⟨rfl, rfl, rfl, HB5⟩
    case rest =>
      obtain ⟨rfl, rfl, rfl, HB⟩ := hcut
      have H1 := Aside0.mk (H0.out.later HB.out)
      clear c0 c1 c2
      have c1 : wc.cell? ⟨gr, 1, none⟩ = some (.int .i64 at_) := (blk_cell H1.out.box 1).trans rfl
      have c2 : wc.cell? ⟨gr, 2, none⟩ = some (.int .i64 0) := (blk_cell H1.out.box 2).trans rfl
      have f1 := blk_frozen H1.out.box 1
      have f2 := blk_frozen H1.out.box 2
      by_cases h4 : e' = 0
      · by_cases h5 : n' > most
        · have q1 : (e' == 0) = true := beq_iff_eq.2 h4
          have q2 : decide (n' > most) = true := decide_eq_true h5
          have HQ := Aside0.mk (show ((0 : Int), a', other) = (n, a1, e1) by rw [← HR.out, if_pos ⟨h4, h5⟩])
          clear h4 h5
          go_wp2
          go_ret
          have hq := HQ.out
          simp only [Prod.mk.injEq] at hq
          obtain ⟨rfl, rfl, rfl⟩ := hq
          exact ⟨rfl, H1.out.put _ _, ((Turned.of_below HB.out).set (p := ⟨gr, 1, none⟩) (.inr rfl) _).set (p := ⟨gr, 2, none⟩) (.inr rfl) _⟩
        · have q1 : (e' == 0) = true := beq_iff_eq.2 h4
          have q2 : decide (n' > most) = false := decide_eq_false h5
          have HQ := Aside0.mk (show (n', a', e') = (n, a1, e1) by rw [← HR.out, if_neg (fun h => h5 h.2)])
          clear h4 h5
          go_wp2
          go_ret
          have hq := HQ.out
          simp only [Prod.mk.injEq] at hq
          obtain ⟨rfl, rfl, rfl⟩ := hq
          exact ⟨rfl, H1.out.put _ _, ((Turned.of_below HB.out).set (p := ⟨gr, 1, none⟩) (.inr rfl) _).set (p := ⟨gr, 2, none⟩) (.inr rfl) _⟩
      · have q1 : (e' == 0) = false := beq_eq_false_iff_ne.2 h4
        have HQ := Aside0.mk (show (n', a', e') = (n, a1, e1) by rw [← HR.out, if_neg (fun h => h4 h.1)])
        clear h4
        go_wp2
        go_ret
        have hq := HQ.out
        simp only [Prod.mk.injEq] at hq
        obtain ⟨rfl, rfl, rfl⟩ := hq
        exact ⟨rfl, H1.out.put _ _, ((Turned.of_below HB.out).set (p := ⟨gr, 1, none⟩) (.inr rfl) _).set (p := ⟨gr, 2, none⟩) (.inr rfl) _⟩
  · rw [if_neg he] at hf
    simp only [Option.some.injEq, Prod.mk.injEq] at hf
    obtain ⟨rfl, rfl, rfl⟩ := hf
    have q1 : (e != 0) = true := bne_iff_ne.2 he
    clear he h
    go_enter Try.func17, Try.ntmps17
    go_wp2
    go_ret
    exact ⟨rfl, H0.out, Turned.refl _ _⟩
set_option maxHeartbeats 4000000 in
set_option maxRecDepth 100000 in
theorem text_v {w0 w : World} {gr : Nat} {A : Option Addr} {c : Nat} {bs : List Int} {at_ e : Int} (h : Rdr 45 w0 w gr A c bs at_ e) (k : Nat) (s : ByteArray) (a1 e1 : Int) (hf : textG (codeT k) bs at_ e = some (s, a1, e1)) :
    Calls Try.prog 20 #[.pointer (some ⟨gr, 0, none⟩)] w fun en w' => en = .returned (.string s) ∧ Rdr 45 w0 w' gr A c bs a1 e1 ∧ Turned gr w w' := by
  have mixed : Try.prog.follows Departure.mixedOrders = true := by kernel_rfl
  have H0 := Aside0.mk h
  have c0 : w.cell? ⟨gr, 0, none⟩ = some (.slice A bs.length c) := (blk_cell h.box 0).trans rfl
  have c1 : w.cell? ⟨gr, 1, none⟩ = some (.int .i64 at_) := (blk_cell h.box 1).trans rfl
  have c2 : w.cell? ⟨gr, 2, none⟩ = some (.int .i64 e) := (blk_cell h.box 2).trans rfl
  unfold textG at hf
  by_cases he : e = 0
  · rw [if_pos he] at hf
    subst he
    have HF := Aside0.mk (show pack_GetText.f k bs at_ 9223372036854775807 = some (s, a1, e1) from hf)
    clear h hf
    go_enter Try.func20, Try.ntmps20
    go_upto_region 3 with (fail)
    go_cut [3, 4, 5] from 3 to 32 (fun v3 v4 v5 wc => v3 = .string s ∧ v4 = .int .i64 a1 ∧ v5 = .int .i64 e1 ∧ Aside0 (Below w.heap.size w wc))
    case first =>
      go_region_held3 (fun W : World => W.cell? ⟨gr, 0, none⟩ = some (.slice A bs.length c) ∧ W.cell? ⟨gr, 1, none⟩ = some (.int .i64 at_)) (exact keepR (by repeat (first | exact H0.out.box | exact HX5.out | refine blk_drewN ?_ _ | refine blk_drew ?_ | refine blk_alloc ?_ _))) (first
        | (go_at_call 46; (with_reducible refine (pack_GetText.calls k _ _ bs at_ 9223372036854775807 s a1 e1 _ ?side1 ?side2 HF.out).mono ?_); (case side1 => repeat (first | exact Kd.C_below H0.out.reads H0.out.below | (with_reducible refine Kd.C_drewN ?_ _) | (with_reducible refine Kd.C_drew ?_))); (case side2 => exact H0.out.room); rintro e w5 ⟨rfl, hB⟩; have HB5 := Aside0.mk (below_step (show Below w.heap.size w _ by repeat (first | exact Below.refl _ _ | apply pw_below_drewN | apply below_drew)) hB); have HX5 := Aside0.mk (blk_below (by repeat (first | exact H0.out.box | refine blk_drewN ?_ _ | refine blk_drew ?_)) hB); clear hB))
      all_goals (try go_wp2)
      all_goals go_meet
      all_goals exact ⟨rfl, rfl, rfl, HB5⟩
    case rest =>
      obtain ⟨rfl, rfl, rfl, HB⟩ := hcut
      have H1 := Aside0.mk (H0.out.later HB.out)
      clear c0 c1 c2
      have c1 : wc.cell? ⟨gr, 1, none⟩ = some (.int .i64 at_) := (blk_cell H1.out.box 1).trans rfl
      have c2 : wc.cell? ⟨gr, 2, none⟩ = some (.int .i64 0) := (blk_cell H1.out.box 2).trans rfl
      have f1 := blk_frozen H1.out.box 1
      have f2 := blk_frozen H1.out.box 2
      go_wp2
      go_ret
      exact ⟨rfl, H1.out.put _ _, ((Turned.of_below HB.out).set (p := ⟨gr, 1, none⟩) (.inr rfl) _).set (p := ⟨gr, 2, none⟩) (.inr rfl) _⟩
  · rw [if_neg he] at hf
    simp only [Option.some.injEq, Prod.mk.injEq] at hf
    obtain ⟨rfl, rfl, rfl⟩ := hf
    have q1 : (e != 0) = true := bne_iff_ne.2 he
    clear he h
    go_enter Try.func20, Try.ntmps20
    go_wp2
    go_ret
    exact ⟨rfl, H0.out, Turned.refl _ _⟩
end Go.Proofs.Ythghacojbhjeaaa.La
namespace Go.Proofs.Ythghacojbhjeaaa.Lb
open Go Go.RowKit Go.Proofs.Ythghacojbhjeaaa.PKp Go.Proofs.YthghacojbhjeaaaW.PrintWords Go.Proofs.YthghacojbhjeaaaW.PrintLast Go.Proofs.Ythghacojbhjeaaa.Hl Go.Proofs.Ythghacojbhjeaaa.Fv Go.Proofs.Ythghacojbhjeaaa.La
set_option linter.unusedSimpArgs false
set_option linter.unusedVariables false
set_option maxHeartbeats 4000000 in
set_option maxRecDepth 100000 in
theorem pair_c {w0 w : World} {gr : Nat} {A : Option Addr} {c : Nat} {bs : List Int} {at_ e : Int} (h : Rdr 45 w0 w gr A c bs at_ e) (g4 : Nat) (h4 : w.heap[g4]? = some (.cells #[.pointer (some ⟨gr, 0, none⟩)] 42 (0, 0))) (k : Nat) (key val : ByteArray) (a1 e1 a2 e2 : Int) (hk : textG (codeT k) bs at_ e = some (key, a1, e1)) (hv : textG (codeT k) bs a1 e1 = some (val, a2, e2)) :
    Calls Try.prog 22 #[.pointer (some ⟨g4, 0, none⟩)] w fun en w' => en = .returned (.agg #[.string key, .string val]) ∧ Rdr 45 w0 w' gr A c bs a2 e2 ∧ Turned gr w w' := by
  have hu39 := Try.underlying39
  have mixed : Try.prog.follows Departure.mixedOrders = true := by kernel_rfl
  have H0 := Aside0.mk h
  have B4 := Aside0.mk h4
  have HK := Aside0.mk hk
  have HV := Aside0.mk hv
  have LG := Aside0.mk (blk_lt h.box)
  have N4 := Aside0.mk (blk_ne h4 h.box (by decide))
  have c4 : w.cell? ⟨g4, 0, none⟩ = some (.pointer (some ⟨gr, 0, none⟩)) := (blk_cell h4 0).trans rfl
  clear h h4 hk hv
  go_enter Try.func22, Try.ntmps22
  go_wp2_with (first
    | ((with_reducible refine gate_dst (N := 1) rfl ?_); refine box_event ?hg (N := 1) ?hd (cs := #[.string (⟨#[]⟩ : ByteArray), .string (⟨#[]⟩ : ByteArray)]) (t := 39) ?hr ?_; (case hd => rfl); (case hg => rfl); (case hr => first | (go_simp; done) | (go_simp; rfl)); intro g1 hg_ w1 hbox_ hb_; have L1 := Aside0.mk (show w.heap.size ≤ g1 by omega); have BX1 := Aside0.mk hbox_; have HR1 := Aside0.mk (H0.out.later hb_); have B41 := Aside0.mk (blk_below B4.out hb_); have HT1 := Aside0.mk (Turned.of_below (g := gr) hb_); clear c4; have c4 : w1.cell? ⟨g4, 0, none⟩ = some (.pointer (some ⟨gr, 0, none⟩)) := (blk_cell B41.out 0).trans rfl; clear hb_ hbox_ hg_)
    | ((with_reducible refine gate_callee (f := 20) rfl ?_); refine goesL_ (some 4) rfl rfl Try.func20 (by kernel_rfl) rfl #[.pointer (some ⟨gr, 0, none⟩)] rfl (by (try simp only [List.map_toArray, List.map_cons, List.map_nil]); first | done | rfl) ?_; (refine (text_v HR1.out k _ _ _ HK.out).mono ?_); rintro en w2 ⟨rfl, hh_, ht_⟩; refine ⟨_, rfl, ?_⟩; have HR2 := Aside0.mk hh_; have HT2 := Aside0.mk (HT1.out.trans ht_); have B42 := Aside0.mk (ht_.blk B41.out N4.out); have BX2 := Aside0.mk (ht_.blk BX1.out (by have := L1.out; have := LG.out; omega)); clear c4; have c4 : w2.cell? ⟨g4, 0, none⟩ = some (.pointer (some ⟨gr, 0, none⟩)) := (blk_cell B42.out 0).trans rfl; clear hh_ ht_)
    | ((with_reducible refine gate_callee (f := 20) rfl ?_); refine goesL_ (some 7) rfl rfl Try.func20 (by kernel_rfl) rfl #[.pointer (some ⟨gr, 0, none⟩)] rfl (by (try simp only [List.map_toArray, List.map_cons, List.map_nil]); first | done | rfl) ?_; (refine (text_v HR2.out k _ _ _ HV.out).mono ?_); rintro en w3 ⟨rfl, hh_, ht_⟩; refine ⟨_, rfl, ?_⟩; have HR3 := Aside0.mk hh_; have HT3 := Aside0.mk (HT2.out.trans ht_); have BX3 := Aside0.mk (ht_.blk BX2.out (by have := L1.out; have := LG.out; omega)); clear c4; have y0 := blk_frozen BX3.out 0; have y1 := blk_frozen BX3.out 1; have z0 : w3.cell? ⟨g1, 0, none⟩ = some (.string (⟨#[]⟩ : ByteArray)) := (blk_cell BX3.out 0).trans rfl; have z1 : w3.cell? ⟨g1, 1, none⟩ = some (.string (⟨#[]⟩ : ByteArray)) := (blk_cell BX3.out 1).trans rfl; clear hh_ ht_))
  refine bodyPost_ret (results_cell_row rfl _ _ g1 39 #[.string key, .string val] (0, 0) _ rfl (blk_put (blk_put BX3.out 0 _ rfl) 1 _ rfl) Try.underlying39 rfl (by kernel_rfl)) rfl ?_
  have hgr : g1 ≠ gr := by have := L1.out; have := LG.out; omega
  have hg0 : w0.heap.size ≤ g1 := by have := L1.out; have := H0.out.below.size; omega
  exact ⟨rfl, (HR3.out.far (p := ⟨g1, 0, none⟩) hg0 (Ne.symm hgr) _).far (p := ⟨g1, 1, none⟩) hg0 (Ne.symm hgr) _, (HT3.out.set (p := ⟨g1, 0, none⟩) (.inl L1.out) _).set (p := ⟨g1, 1, none⟩) (.inl L1.out) _⟩
set_option maxHeartbeats 4000000 in
set_option maxRecDepth 100000 in
theorem intent_c {w0 w : World} {gr : Nat} {A : Option Addr} {c : Nat} {bs : List Int} {at_ e : Int} (h : Rdr 45 w0 w gr A c bs at_ e) (g4 : Nat) (h4 : w.heap[g4]? = some (.cells #[.pointer (some ⟨gr, 0, none⟩)] 42 (0, 0))) (k : Nat) (s : ByteArray) (v g a1 e1 a2 e2 a3 e3 : Int) (hs : textG (codeT k) bs at_ e = some (s, a1, e1)) (hv : numG (codeN k) bs a1 e1 1099511627776 3 = some (v, a2, e2)) (hg : numG (codeN k) bs a2 e2 1 3 = some (g, a3, e3)) :
    Calls Try.prog 24 #[.pointer (some ⟨g4, 0, none⟩)] w fun en w' => en = .returned (.agg #[.string s, .int .i64 v, .bool (g == 1)]) ∧ Rdr 45 w0 w' gr A c bs a3 e3 ∧ Turned gr w w' := by
  have hu41 := Try.underlying41
  have mixed : Try.prog.follows Departure.mixedOrders = true := by kernel_rfl
  have H0 := Aside0.mk h
  have B4 := Aside0.mk h4
  have HS := Aside0.mk hs
  have HV := Aside0.mk hv
  have HG := Aside0.mk hg
  have LG := Aside0.mk (blk_lt h.box)
  have N4 := Aside0.mk (blk_ne h4 h.box (by decide))
  have c4 : w.cell? ⟨g4, 0, none⟩ = some (.pointer (some ⟨gr, 0, none⟩)) := (blk_cell h4 0).trans rfl
  clear h h4 hs hv hg
  go_enter Try.func24, Try.ntmps24
  go_wp2_with (first
    | ((with_reducible refine gate_dst (N := 1) rfl ?_); refine box_event ?hg (N := 1) ?hd (cs := #[.string (⟨#[]⟩ : ByteArray), .int .i64 0, .bool false]) (t := 41) ?hr ?_; (case hd => rfl); (case hg => rfl); (case hr => first | (go_simp; done) | (go_simp; rfl)); intro g1 hg_ w1 hbox_ hb_; have L1 := Aside0.mk (show w.heap.size ≤ g1 by omega); have BX1 := Aside0.mk hbox_; have HR1 := Aside0.mk (H0.out.later hb_); have B41 := Aside0.mk (blk_below B4.out hb_); have HT1 := Aside0.mk (Turned.of_below (g := gr) hb_); clear c4; have c4 : w1.cell? ⟨g4, 0, none⟩ = some (.pointer (some ⟨gr, 0, none⟩)) := (blk_cell B41.out 0).trans rfl; clear hb_ hbox_ hg_)
    | ((with_reducible refine gate_callee (f := 20) rfl ?_); refine goesL_ (some 4) rfl rfl Try.func20 (by kernel_rfl) rfl #[.pointer (some ⟨gr, 0, none⟩)] rfl (by (try simp only [List.map_toArray, List.map_cons, List.map_nil]); first | done | rfl) ?_; (refine (text_v HR1.out k _ _ _ HS.out).mono ?_); rintro en w2 ⟨rfl, hh_, ht_⟩; refine ⟨_, rfl, ?_⟩; have HR2 := Aside0.mk hh_; have HT2 := Aside0.mk (HT1.out.trans ht_); have B42 := Aside0.mk (ht_.blk B41.out N4.out); have BX2 := Aside0.mk (ht_.blk BX1.out (by have := L1.out; have := LG.out; omega)); clear c4; have c4 : w2.cell? ⟨g4, 0, none⟩ = some (.pointer (some ⟨gr, 0, none⟩)) := (blk_cell B42.out 0).trans rfl; clear hh_ ht_)
    | ((with_reducible refine gate_dst (N := 2) rfl ?_); refine box_event ?hg (N := 2) ?hd (cs := #[.string (⟨#[]⟩ : ByteArray), .int .i64 0, .bool false]) (t := 41) ?hr ?_; (case hd => rfl); (case hg => rfl); (case hr => first | (go_simp; done) | (go_simp; rfl)); intro g2 hg_ w3 hbox_ hb_; have L2 := Aside0.mk (show w2.heap.size ≤ g2 by omega); have BY3 := Aside0.mk hbox_; have HR3 := Aside0.mk (HR2.out.later hb_); have B43 := Aside0.mk (blk_below B42.out hb_); have BX3 := Aside0.mk (blk_below BX2.out hb_); have HT3 := Aside0.mk (HT2.out.trans (Turned.of_below (g := gr) hb_)); clear c4; have c4 : w3.cell? ⟨g4, 0, none⟩ = some (.pointer (some ⟨gr, 0, none⟩)) := (blk_cell B43.out 0).trans rfl; have yb0 := blk_frozen BY3.out 0; have zb0 : w3.cell? ⟨g2, 0, none⟩ = some (.string (⟨#[]⟩ : ByteArray)) := (blk_cell BY3.out 0).trans rfl; have yb1 := blk_frozen BY3.out 1; have zb1 : w3.cell? ⟨g2, 1, none⟩ = some (.int .i64 0) := (blk_cell BY3.out 1).trans rfl; have yb2 := blk_frozen BY3.out 2; have zb2 : w3.cell? ⟨g2, 2, none⟩ = some (.bool false) := (blk_cell BY3.out 2).trans rfl; have n2r : g2 ≠ gr := (by have h1 := L2.out; have h2 := HT2.out.size; have h3 := LG.out; omega); have n24 : g2 ≠ g4 := (by have h1 := L2.out; have h2 := blk_lt B42.out; omega); have n21 : g2 ≠ g1 := (by have h1 := L2.out; have h2 := blk_lt BX2.out; omega); have N2R := Aside0.mk n2r; have N24 := Aside0.mk n24; have N21 := Aside0.mk n21; have LW := Aside0.mk (show w0.heap.size ≤ g2 by have h1 := L2.out; have h2 := HT2.out.size; have h3 := H0.out.below.size; omega); have LW2 := Aside0.mk (show w.heap.size ≤ g2 by have h1 := L2.out; have h2 := HT2.out.size; omega); clear n2r; have n24s := Ne.symm n24; have n21s := Ne.symm n21; clear hb_ hbox_ hg_)
    | ((with_reducible refine gate_callee (f := 17) rfl ?_); refine goesL_ (some 7) rfl rfl Try.func17 (by kernel_rfl) rfl #[.pointer (some ⟨gr, 0, none⟩), .int .i64 1099511627776, .int .i64 3] rfl (by (try simp only [List.map_toArray, List.map_cons, List.map_nil]); first | done | rfl) ?_; have BY4 := Aside0.mk (blk_put (blk_put (blk_put BY3.out 0 (.string s) rfl) 1 (.int .i64 0) rfl) 2 (.bool false) rfl); have HR4 := Aside0.mk (((HR3.out.far (p := ⟨g2, 0, none⟩) LW.out (Ne.symm N2R.out) (.string s)).far (p := ⟨g2, 1, none⟩) LW.out (Ne.symm N2R.out) (.int .i64 0)).far (p := ⟨g2, 2, none⟩) LW.out (Ne.symm N2R.out) (.bool false)); have B44 := Aside0.mk (blk_far (p := ⟨g2, 2, none⟩) (blk_far (p := ⟨g2, 1, none⟩) (blk_far (p := ⟨g2, 0, none⟩) B43.out (Ne.symm N24.out) (.string s)) (Ne.symm N24.out) (.int .i64 0)) (Ne.symm N24.out) (.bool false)); have BX4 := Aside0.mk (blk_far (p := ⟨g2, 2, none⟩) (blk_far (p := ⟨g2, 1, none⟩) (blk_far (p := ⟨g2, 0, none⟩) BX3.out (Ne.symm N21.out) (.string s)) (Ne.symm N21.out) (.int .i64 0)) (Ne.symm N21.out) (.bool false)); have HT4 := Aside0.mk (((HT3.out.set (p := ⟨g2, 0, none⟩) (.inl LW2.out) (.string s)).set (p := ⟨g2, 1, none⟩) (.inl LW2.out) (.int .i64 0)).set (p := ⟨g2, 2, none⟩) (.inl LW2.out) (.bool false)); (refine (num_v HR4.out k 1099511627776 3 _ _ _ HV.out).mono ?_); rintro en w5 ⟨rfl, hh_, ht_⟩; refine ⟨_, rfl, ?_⟩; have HR5 := Aside0.mk hh_; have HT5 := Aside0.mk (HT4.out.trans ht_); have B45 := Aside0.mk (ht_.blk B44.out N4.out); have BX5 := Aside0.mk (ht_.blk BX4.out (by have := L1.out; have := LG.out; omega)); have BY5 := Aside0.mk (ht_.blk BY4.out N2R.out); clear hh_ ht_; clear c4; have c4 : w5.cell? ⟨g4, 0, none⟩ = some (.pointer (some ⟨gr, 0, none⟩)) := (blk_cell B45.out 0).trans rfl; clear yb0 zb0 yb1 zb1 yb2 zb2; have yb0 := blk_frozen BY5.out 0; have zb0 : w5.cell? ⟨g2, 0, none⟩ = some (.string s) := (blk_cell BY5.out 0).trans rfl; have yb1 := blk_frozen BY5.out 1; have zb1 : w5.cell? ⟨g2, 1, none⟩ = some (.int .i64 0) := (blk_cell BY5.out 1).trans rfl; have yb2 := blk_frozen BY5.out 2; have zb2 : w5.cell? ⟨g2, 2, none⟩ = some (.bool false) := (blk_cell BY5.out 2).trans rfl; )
    | ((with_reducible refine gate_callee (f := 17) rfl ?_); refine goesL_ (some 10) rfl rfl Try.func17 (by kernel_rfl) rfl #[.pointer (some ⟨gr, 0, none⟩), .int .i64 1, .int .i64 3] rfl (by (try simp only [List.map_toArray, List.map_cons, List.map_nil]); first | done | rfl) ?_; have BY6 := Aside0.mk (blk_put BY5.out 1 (.int .i64 v) rfl); have HR6 := Aside0.mk (HR5.out.far (p := ⟨g2, 1, none⟩) LW.out (Ne.symm N2R.out) (.int .i64 v)); have BX6 := Aside0.mk (blk_far (p := ⟨g2, 1, none⟩) BX5.out (Ne.symm N21.out) (.int .i64 v)); have HT6 := Aside0.mk (HT5.out.set (p := ⟨g2, 1, none⟩) (.inl LW2.out) (.int .i64 v)); (refine (num_v HR6.out k 1 3 _ _ _ HG.out).mono ?_); rintro en w7 ⟨rfl, hh_, ht_⟩; refine ⟨_, rfl, ?_⟩; have HR7 := Aside0.mk hh_; have HT7 := Aside0.mk (HT6.out.trans ht_); have BX7 := Aside0.mk (ht_.blk BX6.out (by have := L1.out; have := LG.out; omega)); have BY7 := Aside0.mk (ht_.blk BY6.out N2R.out); clear hh_ ht_ c4; clear yb0 zb0 yb1 zb1 yb2 zb2; have yb0 := blk_frozen BY7.out 0; have zb0 : w7.cell? ⟨g2, 0, none⟩ = some (.string s) := (blk_cell BY7.out 0).trans rfl; have yb1 := blk_frozen BY7.out 1; have zb1 : w7.cell? ⟨g2, 1, none⟩ = some (.int .i64 v) := (blk_cell BY7.out 1).trans rfl; have yb2 := blk_frozen BY7.out 2; have zb2 : w7.cell? ⟨g2, 2, none⟩ = some (.bool false) := (blk_cell BY7.out 2).trans rfl; have ya0 := blk_frozen BX7.out 0; have za0 : w7.cell? ⟨g1, 0, none⟩ = some (.string (⟨#[]⟩ : ByteArray)) := (blk_cell BX7.out 0).trans rfl; have ya1 := blk_frozen BX7.out 1; have za1 : w7.cell? ⟨g1, 1, none⟩ = some (.int .i64 0) := (blk_cell BX7.out 1).trans rfl; have ya2 := blk_frozen BX7.out 2; have za2 : w7.cell? ⟨g1, 2, none⟩ = some (.bool false) := (blk_cell BX7.out 2).trans rfl; ))
  have BYF := Aside0.mk (blk_put BY7.out 2 (.bool (g == 1)) rfl)
  have BXF := Aside0.mk (blk_far (p := ⟨g2, 2, none⟩) BX7.out (Ne.symm N21.out) (.bool (g == 1)))
  refine bodyPost_ret (results_cell_row rfl _ _ g1 41 #[.string s, .int .i64 v, .bool (g == 1)] (0, 0) _ rfl (blk_put (blk_put (blk_put BXF.out 0 _ rfl) 1 _ rfl) 2 _ rfl) Try.underlying41 rfl (by kernel_rfl)) rfl ?_
  have hgr : g1 ≠ gr := by have := L1.out; have := LG.out; omega
  have hg0 : w0.heap.size ≤ g1 := by have := L1.out; have := H0.out.below.size; omega
  exact ⟨rfl, (((HR7.out.far (p := ⟨g2, 2, none⟩) LW.out (Ne.symm N2R.out) _).far (p := ⟨g1, 0, none⟩) hg0 (Ne.symm hgr) _).far (p := ⟨g1, 1, none⟩) hg0 (Ne.symm hgr) _).far (p := ⟨g1, 2, none⟩) hg0 (Ne.symm hgr) _, (((HT7.out.set (p := ⟨g2, 2, none⟩) (.inl LW2.out) _).set (p := ⟨g1, 0, none⟩) (.inl L1.out) _).set (p := ⟨g1, 1, none⟩) (.inl L1.out) _).set (p := ⟨g1, 2, none⟩) (.inl L1.out) _⟩
end Go.Proofs.Ythghacojbhjeaaa.Lb
namespace Go.Proofs.Ythghacojbhjeaaa.Lc
open Go Go.RowKit Go.Proofs.Ythghacojbhjeaaa.PKp Go.Proofs.YthghacojbhjeaaaW.PrintWords Go.Proofs.YthghacojbhjeaaaW.PrintLast Go.Proofs.Ythghacojbhjeaaa.Hl Go.Proofs.Ythghacojbhjeaaa.Fv Go.Proofs.Ythghacojbhjeaaa.La Go.Proofs.Ythghacojbhjeaaa.Lb
set_option linter.unusedSimpArgs false
set_option linter.unusedVariables false
variable {P : Program} {ops : Array Oper} {Q : Exit → Act → World → Prop} {rest : List Oper}
theorem run_closure {oi : Oper} {a : Act} {w : World} {t : Tmp} {f : FuncId} {fn : Func} {xa : Array Operand} {ts : Array TypeId} (hf : P.funcs[f]? = some fn) (hname : (fn.name == "runtime.NumGoroutine") = false) (hb : fn.body.isSome = true) (args cap : Array Value)
    (hop : oi.op = .call { callee := .value (.tmp t), args := xa, argTypes := ts }) (hargs : xa.map a.eval = args) (hv : a.eval (.tmp t) = .func (.func f) #[] cap) : (execOp a.eval oi).run P w = .ok (.enter f (args ++ cap)) w := by
  have he := enters_ hf hname hb (args ++ cap) w
  unfold execOp
  simp [hop, resolve, Deferred.ofValue, invoke, hv, hargs, he]
/-- A call of a closure, in a plain region. -/
theorem goesLC {oi : Oper} {a : Act} {w : World} (N : Option Tmp) (hd : oi.dst = N) (hg : oi.guard = none) {t : Tmp} {f : FuncId} {fn : Func} {xa : Array Operand} {ts : Array TypeId} (hf : P.funcs[f]? = some fn) (hname : (fn.name == "runtime.NumGoroutine") = false) (hb : fn.body.isSome = true) (args cap : Array Value)
    (hop : oi.op = .call { callee := .value (.tmp t), args := xa, argTypes := ts }) (hargs : xa.map a.eval = args) (hv : a.eval (.tmp t) = .func (.func f) #[] cap)
    (h : Calls P f (args ++ cap) w fun e w' => ∃ v, e = .returned v ∧ wpList P ops Q rest (a.put N v) w') : wpList P ops Q (oi :: rest) a w := by
  refine wpList_plain hg fun K hK => ?_
  have hrun := run_closure (P := P) (w := w) hf hname hb args cap hop hargs hv
  unfold Oper.wp
  rw [hrun, Oper.upon_enter]
  refine h.mono fun e w'' hh => ?_
  obtain ⟨v, rfl, hk⟩ := hh
  subst hd
  exact hK _ _ hk
/-- So many pairs, while nothing is wrong. -/
def pairsG (T : List Int → Int → Option (ByteArray × Int × Int)) (bs : List Int) : Nat → Int → Int → List S39 → Option (List S39 × Int × Int)
  | 0, a, e, out => some (out, a, e)
  | n + 1, a, e, out => if e = 0 then (textG T bs a e).bind fun x => (textG T bs x.2.1 x.2.2).bind fun y => pairsG T bs n y.2.1 y.2.2 (out ++ [⟨x.1, y.1⟩]) else some (out, a, e)
/-- So many intents, while nothing is wrong. -/
def intentsG (G : List Int → Int → Option (Int × Int × Int)) (T : List Int → Int → Option (ByteArray × Int × Int)) (bs : List Int) : Nat → Int → Int → List S41 → Option (List S41 × Int × Int)
  | 0, a, e, out => some (out, a, e)
  | n + 1, a, e, out => if e = 0 then (textG T bs a e).bind fun x => (numG G bs x.2.1 x.2.2 1099511627776 3).bind fun y => (numG G bs y.2.1 y.2.2 1 3).bind fun z => intentsG G T bs n z.2.1 z.2.2 (out ++ [⟨x.1, y.1, z.1 == 1⟩]) else some (out, a, e)
theorem num_most {G : List Int → Int → Option (Int × Int × Int)} {bs : List Int} {a e most other n a1 e1 : Int} (h : numG G bs a e most other = some (n, a1, e1)) (h0 : 0 ≤ most) (ho : other ≠ 0) (he : e1 = 0) : n ≤ most := by
  unfold numG at h
  by_cases h1 : e = 0
  · rw [if_pos h1] at h
    obtain ⟨⟨n', a', e'⟩, _, hr⟩ := Option.map_eq_some_iff.1 h
    by_cases h2 : e' = 0 ∧ n' > most
    · rw [if_pos h2] at hr
      simp only [Prod.mk.injEq] at hr
      omega
    · rw [if_neg h2] at hr
      simp only [Prod.mk.injEq] at hr
      omega
  · rw [if_neg h1] at h
    simp only [Option.some.injEq, Prod.mk.injEq] at h
    omega
theorem R_turned_pairs {w w1 : World} {gr base : Nat} {ok : Nat → Prop} {v : Value} {xs : List S39} {cells : Array Value} (h : Kd.R k39 39 w base ok v xs) (hb : w.heap[gr]? = some (.cells cells 45 (0, 0))) (ht : Turned gr w w1) : Kd.R k39 39 w1 base ok v xs :=
  Kd.R_mono (Kd.R_step (Kd.R_types h hb (by decide)) (fun k hk hlt => ht.block k hlt hk.2)) (fun _ hk => hk.1)
set_option maxHeartbeats 4000000 in
set_option maxRecDepth 100000 in
theorem pairs_v {w0 w : World} {gr : Nat} {A : Option Addr} {c : Nat} {bs : List Int} {at_ e : Int} (h : Rdr 45 w0 w gr A c bs at_ e) (g4 : Nat) (h4 : w.heap[g4]? = some (.cells #[.pointer (some ⟨gr, 0, none⟩)] 42 (0, 0))) (k : Nat) (n a1 e1 a2 e2 : Int) (xs : List S39) (hn : numG (codeN k) bs at_ e 256 4 = some (n, a1, e1)) (hx : pairsG (codeT k) bs n.toNat a1 e1 [] = some (xs, a2, e2)) :
    Calls Try.prog 21 #[.pointer (some ⟨gr, 0, none⟩), .func (.func 22) #[] #[.pointer (some ⟨g4, 0, none⟩)]] w fun en w' => ∃ v, en = .returned v ∧ Kd.R k39 39 w' w.heap.size (fun _ => True) v xs ∧ Rdr 45 w0 w' gr A c bs a2 e2 ∧ Turned gr w w' := by
  have mixed : Try.prog.follows Departure.mixedOrders = true := by kernel_rfl
  have H0 := Aside0.mk h
  have B4 := Aside0.mk h4
  have HN := Aside0.mk hn
  have HX := Aside0.mk hx
  have HM := Aside0.mk (fun he : e1 = 0 => num_most hn (by decide) (by decide) he)
  have LG := Aside0.mk (blk_lt h.box)
  have LG4 := Aside0.mk (blk_lt h4)
  have N4 := Aside0.mk (blk_ne h4 h.box (by decide))
  clear h h4 hn hx
  go_enter Try.func21, Try.ntmps21
  go_wp2_with (first
    | ((with_reducible refine gate_callee (f := 17) rfl ?_); refine goesL_ (some 8) rfl rfl Try.func17 (by kernel_rfl) rfl #[.pointer (some ⟨gr, 0, none⟩), .int .i64 256, .int .i64 4] rfl (by (try simp only [List.map_toArray, List.map_cons, List.map_nil]); first | done | rfl) ?_; (refine (num_v H0.out k 256 4 _ _ _ HN.out).mono ?_); rintro en w1 ⟨rfl, hh_, ht_⟩; refine ⟨_, rfl, ?_⟩; have HR1 := Aside0.mk hh_; have HT1 := Aside0.mk ht_; have B41 := Aside0.mk (ht_.blk B4.out N4.out); clear hh_ ht_))
  go_loopg [5, 6] n.toNat (fun kq v5 v6 wr => ∃ (m a e : Int) (out : List S39), v6 = .int .i64 m ∧ Aside0 (m.toNat ≤ kq) ∧ Aside0 (Rdr 45 w0 wr gr A c bs a e) ∧ Aside0 (Turned gr w wr) ∧ Aside0 (wr.heap[g4]? = some (.cells #[.pointer (some ⟨gr, 0, none⟩)] 42 (0, 0))) ∧ Aside0 (Kd.R k39 39 wr w.heap.size (fun _ => True) v5 out) ∧ Aside0 (pairsG (codeT k) bs m.toNat a e out = some (xs, a2, e2)) ∧ Aside0 (e = 0 → m + out.length ≤ 256))
  case atStart => exact ⟨n, a1, e1, [], rfl, ⟨Nat.le_refl _⟩, HR1, HT1, B41, ⟨Kd.R_nil _ _ _ _ _⟩, HX, ⟨fun he => by have := HM.out he; simp only [List.length_nil]; omega⟩⟩
  case round =>
    obtain ⟨m, a, e', out, rfl, HK, HRD, HT, HB4, HO, HXR, HLen⟩ := hrel
    clear HR1 HT1 B41 HX HM
    by_cases hm : m > 0
    · have t1 : decide (m > 0) = true := decide_eq_true hm
      have c2 : wr.cell? ⟨gr, 2, none⟩ = some (.int .i64 e') := (blk_cell HRD.out.box 2).trans rfl
      by_cases he : e' = 0
      · have t2 : (e' == 0) = true := beq_iff_eq.2 he
        obtain ⟨m1, hm1⟩ : ∃ m1, m.toNat = m1 + 1 := ⟨m.toNat - 1, by omega⟩
        have hxr := HXR.out
        rw [hm1, pairsG, if_pos he] at hxr
        obtain ⟨⟨key, b1, f1⟩, hk, hxr⟩ := Option.bind_eq_some_iff.1 hxr
        obtain ⟨⟨val, b2, f2⟩, hv, hxr⟩ := Option.bind_eq_some_iff.1 hxr
        have HKY := Aside0.mk hk
        have HVL := Aside0.mk hv
        clear hk hv
        have HX2 := Aside0.mk hxr
        have HL2 := Aside0.mk (show m + (out.length : Int) ≤ 256 from HLen.out he)
        have HM1 := Aside0.mk hm1
        have HMp := Aside0.mk hm
        subst he
        clear hxr hm1 HXR HLen hm
        go_wp2_with (first
          | ((with_reducible refine gate_dst (N := 22) rfl ?_); refine goesLC (some 22) rfl rfl Try.func22 (by kernel_rfl) rfl #[] #[.pointer (some ⟨g4, 0, none⟩)] rfl (by (try simp only [List.map_toArray, List.map_cons, List.map_nil]); first | done | rfl) rfl ?_; (refine (pair_c HRD.out g4 HB4.out k _ _ _ _ _ _ HKY.out HVL.out).mono ?_); rintro en w2 ⟨rfl, hh_, ht_⟩; refine ⟨_, rfl, ?_⟩; have HR2 := Aside0.mk hh_; have HT2 := Aside0.mk (HT.out.trans ht_); have B42 := Aside0.mk (ht_.blk HB4.out N4.out); have HO2 := Aside0.mk (R_turned_pairs HO.out HRD.out.box ht_); clear hh_ ht_ c2)
          | ((with_reducible refine gate_builtin (b := .append) (xs := #[.tmp 20, .tmp 23]) rfl ?_); at_builtin; refine Kd.R_append k39 (w0 := w2) w.heap.size rfl (.tmp 20) (.tmp 23) 23 39 (.agg #[(.string ⟨#[]⟩), (.string ⟨#[]⟩)]) 32 rfl Try.underlying23 info39 rfl (by decide) (by omega) _ out (⟨key, val⟩ : S39) [.string key, .string val] (fun _ => True) (fun _ => False) rfl rfl ?aP (fun _ hk => hk.elim) ?aF ?aO ?aB ?aS ?aL ?_; (case aP => exact k39_mkM _ _ _ (⟨key, val⟩ : S39)); (case aB => exact Below.refl _ _); (case aF => exact (fun _ _ => trivial)); (case aO => exact HO2.out); (case aS => exact HT2.out.size); (case aL => have := HL2.out; have := HMp.out; omega); intro v3 w3 ho hb hg hat; have HO3 := Aside0.mk ho; have HR3 := Aside0.mk (Rdr.mk (w0 := w0) (t := 45) (HR2.out.below.trans (hb.mono H0.out.below.size)) HR2.out.hb ((hb.block gr LG.out).trans HR2.out.box) HR2.out.reads HR2.out.room); have HT3 := Aside0.mk (HT2.out.grown hb); have B43 := Aside0.mk ((hb.block g4 LG4.out).trans B42.out); clear ho hb hg hat))
        go_roundg (m - 1).toNat
        case measure => have := HM1.out; have := HK.out; omega
        case rel => exact ⟨m - 1, _, _, _, by first | rfl | (congr 1; exact Go.IntWalk.wrap64_in _ (by have := HL2.out; have := HMp.out; omega)), ⟨Nat.le_refl _⟩, HR3, HT3, B43, HO3, ⟨by rw [show (m - 1).toNat = m1 by have := HM1.out; omega]; exact HX2.out⟩, ⟨fun _ => by have := HL2.out; rw [List.length_append]; simp only [List.length_cons, List.length_nil]; omega⟩⟩
      · have t2 : (e' == 0) = false := beq_eq_false_iff_ne.2 he
        have hxr := HXR.out
        obtain ⟨m1, hm1⟩ : ∃ m1, m.toNat = m1 + 1 := ⟨m.toNat - 1, by omega⟩
        rw [hm1, pairsG, if_neg he] at hxr
        simp only [Option.some.injEq, Prod.mk.injEq] at hxr
        obtain ⟨rfl, rfl, rfl⟩ := hxr
        clear hm1 HXR HLen hm he
        go_wp2
        go_ret
        exact ⟨_, rfl, HO.out, HRD.out, HT.out⟩
    · have t1 : decide (m > 0) = false := decide_eq_false hm
      have hxr := HXR.out
      rw [show m.toNat = 0 by omega, pairsG] at hxr
      simp only [Option.some.injEq, Prod.mk.injEq] at hxr
      obtain ⟨rfl, rfl, rfl⟩ := hxr
      clear HXR HLen hm
      go_wp2
      go_ret
      exact ⟨_, rfl, HO.out, HRD.out, HT.out⟩
theorem R_turned_intents {w w1 : World} {gr base : Nat} {ok : Nat → Prop} {v : Value} {xs : List S41} {cells : Array Value} (h : Kd.R k41 41 w base ok v xs) (hb : w.heap[gr]? = some (.cells cells 45 (0, 0))) (ht : Turned gr w w1) : Kd.R k41 41 w1 base ok v xs :=
  Kd.R_mono (Kd.R_step (Kd.R_types h hb (by decide)) (fun k hk hlt => ht.block k hlt hk.2)) (fun _ hk => hk.1)
set_option maxHeartbeats 4000000 in
set_option maxRecDepth 100000 in
theorem intents_v {w0 w : World} {gr : Nat} {A : Option Addr} {c : Nat} {bs : List Int} {at_ e : Int} (h : Rdr 45 w0 w gr A c bs at_ e) (g4 : Nat) (h4 : w.heap[g4]? = some (.cells #[.pointer (some ⟨gr, 0, none⟩)] 42 (0, 0))) (k : Nat) (n a1 e1 a2 e2 : Int) (xs : List S41) (hn : numG (codeN k) bs at_ e 256 4 = some (n, a1, e1)) (hx : intentsG (codeN k) (codeT k) bs n.toNat a1 e1 [] = some (xs, a2, e2)) :
    Calls Try.prog 23 #[.pointer (some ⟨gr, 0, none⟩), .func (.func 24) #[] #[.pointer (some ⟨g4, 0, none⟩)]] w fun en w' => ∃ v, en = .returned v ∧ Kd.R k41 41 w' w.heap.size (fun _ => True) v xs ∧ Rdr 45 w0 w' gr A c bs a2 e2 ∧ Turned gr w w' := by
  have mixed : Try.prog.follows Departure.mixedOrders = true := by kernel_rfl
  have H0 := Aside0.mk h
  have B4 := Aside0.mk h4
  have HN := Aside0.mk hn
  have HX := Aside0.mk hx
  have HM := Aside0.mk (fun he : e1 = 0 => num_most hn (by decide) (by decide) he)
  have LG := Aside0.mk (blk_lt h.box)
  have LG4 := Aside0.mk (blk_lt h4)
  have N4 := Aside0.mk (blk_ne h4 h.box (by decide))
  clear h h4 hn hx
  go_enter Try.func23, Try.ntmps23
  go_wp2_with (first
    | ((with_reducible refine gate_callee (f := 17) rfl ?_); refine goesL_ (some 8) rfl rfl Try.func17 (by kernel_rfl) rfl #[.pointer (some ⟨gr, 0, none⟩), .int .i64 256, .int .i64 4] rfl (by (try simp only [List.map_toArray, List.map_cons, List.map_nil]); first | done | rfl) ?_; (refine (num_v H0.out k 256 4 _ _ _ HN.out).mono ?_); rintro en w1 ⟨rfl, hh_, ht_⟩; refine ⟨_, rfl, ?_⟩; have HR1 := Aside0.mk hh_; have HT1 := Aside0.mk ht_; have B41 := Aside0.mk (ht_.blk B4.out N4.out); clear hh_ ht_))
  go_loopg [5, 6] n.toNat (fun kq v5 v6 wr => ∃ (m a e : Int) (out : List S41), v6 = .int .i64 m ∧ Aside0 (m.toNat ≤ kq) ∧ Aside0 (Rdr 45 w0 wr gr A c bs a e) ∧ Aside0 (Turned gr w wr) ∧ Aside0 (wr.heap[g4]? = some (.cells #[.pointer (some ⟨gr, 0, none⟩)] 42 (0, 0))) ∧ Aside0 (Kd.R k41 41 wr w.heap.size (fun _ => True) v5 out) ∧ Aside0 (intentsG (codeN k) (codeT k) bs m.toNat a e out = some (xs, a2, e2)) ∧ Aside0 (e = 0 → m + out.length ≤ 256))
  case atStart => exact ⟨n, a1, e1, [], rfl, ⟨Nat.le_refl _⟩, HR1, HT1, B41, ⟨Kd.R_nil _ _ _ _ _⟩, HX, ⟨fun he => by have := HM.out he; simp only [List.length_nil]; omega⟩⟩
  case round =>
    obtain ⟨m, a, e', out, rfl, HK, HRD, HT, HB4, HO, HXR, HLen⟩ := hrel
    clear HR1 HT1 B41 HX HM
    by_cases hm : m > 0
    · have t1 : decide (m > 0) = true := decide_eq_true hm
      have c2 : wr.cell? ⟨gr, 2, none⟩ = some (.int .i64 e') := (blk_cell HRD.out.box 2).trans rfl
      by_cases he : e' = 0
      · have t2 : (e' == 0) = true := beq_iff_eq.2 he
        obtain ⟨m1, hm1⟩ : ∃ m1, m.toNat = m1 + 1 := ⟨m.toNat - 1, by omega⟩
        have hxr := HXR.out
        rw [hm1, intentsG, if_pos he] at hxr
        obtain ⟨⟨s, b1, f1⟩, hk, hxr⟩ := Option.bind_eq_some_iff.1 hxr
        obtain ⟨⟨v, b2, f2⟩, hv, hxr⟩ := Option.bind_eq_some_iff.1 hxr
        obtain ⟨⟨g, b3, f3⟩, hg, hxr⟩ := Option.bind_eq_some_iff.1 hxr
        have HKY := Aside0.mk hk
        have HVL := Aside0.mk hv
        have HGN := Aside0.mk hg
        clear hk hv hg
        have HX2 := Aside0.mk hxr
        have HL2 := Aside0.mk (show m + (out.length : Int) ≤ 256 from HLen.out he)
        have HM1 := Aside0.mk hm1
        have HMp := Aside0.mk hm
        subst he
        clear hxr hm1 HXR HLen hm
        go_wp2_with (first
          | ((with_reducible refine gate_dst (N := 22) rfl ?_); refine goesLC (some 22) rfl rfl Try.func24 (by kernel_rfl) rfl #[] #[.pointer (some ⟨g4, 0, none⟩)] rfl (by (try simp only [List.map_toArray, List.map_cons, List.map_nil]); first | done | rfl) rfl ?_; (refine (intent_c HRD.out g4 HB4.out k _ _ _ _ _ _ _ _ _ HKY.out HVL.out HGN.out).mono ?_); rintro en w2 ⟨rfl, hh_, ht_⟩; refine ⟨_, rfl, ?_⟩; have HR2 := Aside0.mk hh_; have HT2 := Aside0.mk (HT.out.trans ht_); have B42 := Aside0.mk (ht_.blk HB4.out N4.out); have HO2 := Aside0.mk (R_turned_intents HO.out HRD.out.box ht_); clear hh_ ht_ c2)
          | ((with_reducible refine gate_builtin (b := .append) (xs := #[.tmp 20, .tmp 23]) rfl ?_); at_builtin; refine Kd.R_append k41 (w0 := w2) w.heap.size rfl (.tmp 20) (.tmp 23) 24 41 (.agg #[(.string ⟨#[]⟩), (.int .i64 0), (.bool false)]) 32 rfl Try.underlying24 info41 rfl (by decide) (by omega) _ out (⟨s, v, g == 1⟩ : S41) [.string s, .int .i64 v, .bool (g == 1)] (fun _ => True) (fun _ => False) rfl rfl ?aP (fun _ hk => hk.elim) ?aF ?aO ?aB ?aS ?aL ?_; (case aP => exact k41_mkM _ _ _ (⟨s, v, g == 1⟩ : S41)); (case aB => exact Below.refl _ _); (case aF => exact (fun _ _ => trivial)); (case aO => exact HO2.out); (case aS => exact HT2.out.size); (case aL => have := HL2.out; have := HMp.out; omega); intro v3 w3 ho hb hg hat; have HO3 := Aside0.mk ho; have HR3 := Aside0.mk (Rdr.mk (w0 := w0) (t := 45) (HR2.out.below.trans (hb.mono H0.out.below.size)) HR2.out.hb ((hb.block gr LG.out).trans HR2.out.box) HR2.out.reads HR2.out.room); have HT3 := Aside0.mk (HT2.out.grown hb); have B43 := Aside0.mk ((hb.block g4 LG4.out).trans B42.out); clear ho hb hg hat))
        go_roundg (m - 1).toNat
        case measure => have := HM1.out; have := HK.out; omega
        case rel => exact ⟨m - 1, _, _, _, by first | rfl | (congr 1; exact Go.IntWalk.wrap64_in _ (by have := HL2.out; have := HMp.out; omega)), ⟨Nat.le_refl _⟩, HR3, HT3, B43, HO3, ⟨by rw [show (m - 1).toNat = m1 by have := HM1.out; omega]; exact HX2.out⟩, ⟨fun _ => by have := HL2.out; rw [List.length_append]; simp only [List.length_cons, List.length_nil]; omega⟩⟩
      · have t2 : (e' == 0) = false := beq_eq_false_iff_ne.2 he
        have hxr := HXR.out
        obtain ⟨m1, hm1⟩ : ∃ m1, m.toNat = m1 + 1 := ⟨m.toNat - 1, by omega⟩
        rw [hm1, intentsG, if_neg he] at hxr
        simp only [Option.some.injEq, Prod.mk.injEq] at hxr
        obtain ⟨rfl, rfl, rfl⟩ := hxr
        clear hm1 HXR HLen hm he
        go_wp2
        go_ret
        exact ⟨_, rfl, HO.out, HRD.out, HT.out⟩
    · have t1 : decide (m > 0) = false := decide_eq_false hm
      have hxr := HXR.out
      rw [show m.toNat = 0 by omega, intentsG] at hxr
      simp only [Option.some.injEq, Prod.mk.injEq] at hxr
      obtain ⟨rfl, rfl, rfl⟩ := hxr
      clear HXR HLen hm
      go_wp2
      go_ret
      exact ⟨_, rfl, HO.out, HRD.out, HT.out⟩
end Go.Proofs.Ythghacojbhjeaaa.Lc
namespace Go.Proofs.Ythghacojbhjeaaa.Ld
open Go Go.RowKit Go.Proofs.Ythghacojbhjeaaa.PKp Go.Proofs.YthghacojbhjeaaaW.PrintWords Go.Proofs.YthghacojbhjeaaaW.PrintLast Go.Proofs.Ythghacojbhjeaaa.Hl Go.Proofs.Ythghacojbhjeaaa.Fv Go.Proofs.Ythghacojbhjeaaa.La
set_option linter.unusedSimpArgs false
set_option linter.unusedVariables false
/-- Pointers to the fields fs of what lies in block g. -/
def ptrs (g : Nat) (fs : List Nat) : Array Value := (fs.map fun f => Value.pointer (some ⟨g, f, none⟩)).toArray
theorem ptrs_at {w : World} {gp g t : Nat} {fs : List Nat} (h : w.heap[gp]? = some (.cells (ptrs g fs) t (0, 0))) {i f : Nat} (hf : fs[i]? = some f) : w.cell? ⟨gp, i, none⟩ = some (.pointer (some ⟨g, f, none⟩)) := by
  rw [blk_cell h i]
  unfold ptrs
  simp [hf]
set_option maxHeartbeats 4000000 in
set_option maxRecDepth 100000 in
theorem numbers_v {w : World} {g5 : Nat} {L : Array Value} (h : w.heap[g5]? = some (.cells L 27 (0, 0))) :
    Calls Try.prog 18 #[.pointer (some ⟨g5, 0, none⟩)] w fun en w' => ∃ gp, en = .returned (.slice (some ⟨gp, 0, none⟩) 6 6) ∧ w.heap.size ≤ gp ∧ w'.heap[gp]? = some (.cells (ptrs g5 [1, 2, 3, 4, 5, 6]) 50 (0, 0)) ∧ Below w.heap.size w w' := by
  have mixed : Try.prog.follows Departure.mixedOrders = true := by kernel_rfl
  have hu27 := Try.underlying27
  have H0 := Aside0.mk h
  clear h
  go_enter Try.func18, Try.ntmps18
  go_upto_region 1 with (fail)
  go_region
  all_goals (try go_wp2)
  all_goals go_ret
  all_goals (refine ⟨w.heap.size, rfl, Nat.le_refl _, ?_, ?_⟩)
  · exact blk_drew (blk_new _ _)
  · exact below_drew (below_alloc (Below.refl _ _) _)
set_option maxHeartbeats 4000000 in
set_option maxRecDepth 100000 in
theorem texts_v {w : World} {g5 : Nat} {L : Array Value} (h : w.heap[g5]? = some (.cells L 27 (0, 0))) :
    Calls Try.prog 19 #[.pointer (some ⟨g5, 0, none⟩)] w fun en w' => ∃ gp, en = .returned (.slice (some ⟨gp, 0, none⟩) 3 3) ∧ w.heap.size ≤ gp ∧ w'.heap[gp]? = some (.cells (ptrs g5 [7, 8, 13]) 53 (0, 0)) ∧ Below w.heap.size w w' := by
  have mixed : Try.prog.follows Departure.mixedOrders = true := by kernel_rfl
  have hu27 := Try.underlying27
  have H0 := Aside0.mk h
  clear h
  go_enter Try.func19, Try.ntmps19
  go_upto_region 1 with (fail)
  go_region
  all_goals (try go_wp2)
  all_goals go_ret
  all_goals (refine ⟨w.heap.size, rfl, Nat.le_refl _, ?_, ?_⟩)
  · exact blk_drew (blk_new _ _)
  · exact below_drew (below_alloc (Below.refl _ _) _)
end Go.Proofs.Ythghacojbhjeaaa.Ld
