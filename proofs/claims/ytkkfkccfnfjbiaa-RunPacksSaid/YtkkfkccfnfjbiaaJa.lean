/- DERIVED. A reader that reads on until something is wrong: its methods. Conditions: those that each lemma names. -/
import Derived.Test.YtkkfkccfnfjbiaaPAllx6
import Derived.Test.YtkkfkccfnfjbiaaPAllx7
import Derived.Laws.CopyRow
import Derived.Shelf.RegionOpenPlain
import Derived.WalkKit
import Derived.Deep.RegionHeld3
namespace Go.Proofs.Ytkkfkccfnfjbiaa.Ja
open Go Go.RowKit Go.Proofs.Ytkkfkccfnfjbiaa.PAll Go.Proofs.YtkkfkccfnfjbiaaW.PrintWords Go.Proofs.YtkkfkccfnfjbiaaW.PrintLast Go.Proofs.Ytkkfkccfnfjbiaa.Hl
set_option linter.unusedSimpArgs false
set_option linter.unusedVariables false
/-- All is as it was but block g; nothing was said. -/
structure Turned (g : Nat) (w w' : World) : Prop where
  os : w'.os = w.os
  tape : w'.tape = w.tape
  output : w'.output = w.output
  size : w.heap.size ≤ w'.heap.size
  block : ∀ k, k < w.heap.size → k ≠ g → w'.heap[k]? = w.heap[k]?
theorem Turned.below {g B : Nat} {w0 w w' : World} (h : Turned g w w') (hb : Below B w0 w) (hg : B ≤ g) (hB : B ≤ w.heap.size) : Below B w0 w' :=
  hb.trans ⟨h.os, h.tape, h.output, h.size, fun k hk => h.block k (by omega) (by omega)⟩
theorem Turned.blk {g g' : Nat} {w w' : World} {o : Obj} (h : Turned g w w') (hb : w.heap[g']? = some o) (hne : g' ≠ g) : w'.heap[g']? = some o := (h.block g' (blk_lt hb) hne).trans hb
theorem Turned.refl (g : Nat) (w : World) : Turned g w w := ⟨rfl, rfl, rfl, Nat.le_refl _, fun _ _ _ => rfl⟩
theorem Turned.trans {g : Nat} {w w1 w2 : World} (h : Turned g w w1) (k : Turned g w1 w2) : Turned g w w2 :=
  ⟨k.os.trans h.os, k.tape.trans h.tape, k.output.trans h.output, Nat.le_trans h.size k.size, fun i hi hne => (k.block i (Nat.lt_of_lt_of_le hi h.size) hne).trans (h.block i hi hne)⟩
theorem Turned.of_below {g : Nat} {w w1 : World} (h : Below w.heap.size w w1) : Turned g w w1 := ⟨h.os, h.tape, h.output, h.size, fun i hi _ => h.block i hi⟩
theorem Turned.set {g : Nat} {w w1 : World} (h : Turned g w w1) {p : Addr} (hp : w.heap.size ≤ p.block ∨ p.block = g) (v : Value) : Turned g w (w1.setCell p v) :=
  ⟨h.os, h.tape, h.output, by have := h.size; simpa [World.setCell] using this, fun i hi hne => (Below.heap_setCell _ _ _ _ (by rcases hp with hp | hp <;> omega)).trans (h.block i hi hne)⟩
/-- A reader in block gr. -/
structure Rdr (w0 w : World) (gr : Nat) (A : Option Addr) (c : Nat) (bs : List Int) (at_ e : Int) : Prop where
  below : Below w0.heap.size w0 w
  hb : w0.heap.size ≤ gr
  box : w.heap[gr]? = some (.cells #[.slice A bs.length c, .int .i64 at_, .int .i64 e] 69 (0, 0))
  reads : Kd.C (Kd.int .u8) w0 A bs.length bs
  room : bs.length ≤ c
theorem Rdr.later {w0 w w1 : World} {gr : Nat} {A : Option Addr} {c : Nat} {bs : List Int} {at_ e : Int} (h : Rdr w0 w gr A c bs at_ e) (hb : Below w.heap.size w w1) : Rdr w0 w1 gr A c bs at_ e := ⟨below_step h.below hb, h.hb, blk_below h.box hb, h.reads, h.room⟩
/-- The place and the error are written. -/
theorem Rdr.put {w0 w : World} {gr : Nat} {A : Option Addr} {c : Nat} {bs : List Int} {at_ e : Int} (h : Rdr w0 w gr A c bs at_ e) (a1 e1 : Int) : Rdr w0 ((w.setCell ⟨gr, 1, none⟩ (.int .i64 a1)).setCell ⟨gr, 2, none⟩ (.int .i64 e1)) gr A c bs a1 e1 :=
  ⟨(h.below.setCell (p := ⟨gr, 1, none⟩) h.hb _).setCell (p := ⟨gr, 2, none⟩) h.hb _, h.hb, blk_put (blk_put h.box 1 _ rfl) 2 _ rfl, h.reads, h.room⟩
theorem Rdr.err {w0 w : World} {gr : Nat} {A : Option Addr} {c : Nat} {bs : List Int} {at_ e : Int} (h : Rdr w0 w gr A c bs at_ e) (e1 : Int) : Rdr w0 (w.setCell ⟨gr, 2, none⟩ (.int .i64 e1)) gr A c bs at_ e1 :=
  ⟨h.below.setCell (p := ⟨gr, 2, none⟩) h.hb _, h.hb, blk_put h.box 2 _ rfl, h.reads, h.room⟩
theorem keepR {W : World} {gr : Nat} {a b c : Value} (h : W.heap[gr]? = some (.cells #[a, b, c] 69 (0, 0))) : W.cell? ⟨gr, 0, none⟩ = some a ∧ W.cell? ⟨gr, 1, none⟩ = some b := ⟨(blk_cell h 0).trans rfl, (blk_cell h 1).trans rfl⟩
def numF (k : Nat) (bs : List Int) (at_ e : Int) : Option (Int × Int × Int) := if e = 0 then pack_GetNum.f k bs at_ else some (0, at_, e)
def textF (k : Nat) (bs : List Int) (at_ e : Int) : Option (ByteArray × Int × Int) := if e = 0 then (pack_GetText.f k bs at_ (bs.length : Int)).map fun r => (r.1, r.2.1, if r.2.2 = 4 then 2 else r.2.2) else some (⟨#[]⟩, at_, e)
set_option maxHeartbeats 4000000 in
set_option maxRecDepth 100000 in
theorem num_v {w0 w : World} {gr : Nat} {A : Option Addr} {c : Nat} {bs : List Int} {at_ e : Int} (h : Rdr w0 w gr A c bs at_ e) (k : Nat) (n a1 e1 : Int) (hf : numF k bs at_ e = some (n, a1, e1)) :
    Calls Try.prog 41 #[.pointer (some ⟨gr, 0, none⟩)] w fun en w' => en = .returned (.int .i64 n) ∧ Rdr w0 w' gr A c bs a1 e1 ∧ Turned gr w w' := by
  have mixed : Try.prog.follows Departure.mixedOrders = true := by kernel_rfl
  have H0 := Aside0.mk h
  have c0 : w.cell? ⟨gr, 0, none⟩ = some (.slice A bs.length c) := (blk_cell h.box 0).trans rfl
  have c1 : w.cell? ⟨gr, 1, none⟩ = some (.int .i64 at_) := (blk_cell h.box 1).trans rfl
  have c2 : w.cell? ⟨gr, 2, none⟩ = some (.int .i64 e) := (blk_cell h.box 2).trans rfl
  unfold numF at hf
  by_cases he : e = 0
  · rw [if_pos he] at hf
    subst he
    have HF := Aside0.mk hf
    clear h hf
    go_enter Try.func41, Try.ntmps41
    go_upto_region 3 with (fail)
    go_cut [3, 4, 5] from 3 to 32 (fun v3 v4 v5 wc => v3 = .int .i64 n ∧ v4 = .int .i64 a1 ∧ v5 = .int .i64 e1 ∧ Aside0 (Below w.heap.size w wc))
    case first =>
      go_region_held3 (fun W : World => W.cell? ⟨gr, 0, none⟩ = some (.slice A bs.length c) ∧ W.cell? ⟨gr, 1, none⟩ = some (.int .i64 at_)) (exact keepR (by repeat (first | exact H0.out.box | exact HX5.out | refine blk_drewN ?_ _ | refine blk_drew ?_ | refine blk_alloc ?_ _))) (first
        | (go_at_call 56; (with_reducible refine (pack_GetNum.calls k _ _ bs at_ n a1 e1 _ ?side1 ?side2 HF.out).mono ?_); (case side1 => repeat (first | exact Kd.C_below H0.out.reads H0.out.below | (with_reducible refine Kd.C_drewN ?_ _) | (with_reducible refine Kd.C_drew ?_))); (case side2 => exact H0.out.room); rintro e w5 ⟨rfl, hB⟩; have HB5 := Aside0.mk (below_step (show Below w.heap.size w _ by repeat (first | exact Below.refl _ _ | apply pw_below_drewN | apply below_drew)) hB); have HX5 := Aside0.mk (blk_below (by repeat (first | exact H0.out.box | refine blk_drewN ?_ _ | refine blk_drew ?_)) hB); clear hB))
      all_goals (try go_wp2)
      all_goals go_meet
      all_goals exact ⟨rfl, rfl, rfl, HB5⟩
    case rest =>
      obtain ⟨rfl, rfl, rfl, HB⟩ := hcut
      have H1 := Aside0.mk (H0.out.later HB.out)
      clear c0 c1 c2
      have c1 : wc.cell? ⟨gr, 1, none⟩ = some (.int .i64 at_) := (blk_cell H1.out.box 1).trans rfl
      have c2 : wc.cell? ⟨gr, 2, none⟩ = some (.int .i64 0) := (blk_cell H1.out.box 2).trans rfl
      have f1 := blk_frozen H1.out.box 1
      have f2 := blk_frozen H1.out.box 2
      go_wp2
      go_ret
      exact ⟨rfl, H1.out.put a1 e1, ((Turned.of_below HB.out).set (p := ⟨gr, 1, none⟩) (.inr rfl) _).set (p := ⟨gr, 2, none⟩) (.inr rfl) _⟩
  · rw [if_neg he] at hf
    simp only [Option.some.injEq, Prod.mk.injEq] at hf
    obtain ⟨rfl, rfl, rfl⟩ := hf
    have q1 : (e != 0) = true := bne_iff_ne.2 he
    clear he h
    go_enter Try.func41, Try.ntmps41
    go_wp2
    go_ret
    exact ⟨rfl, H0.out, Turned.refl _ _⟩
set_option maxHeartbeats 4000000 in
set_option maxRecDepth 100000 in
theorem text_v {w0 w : World} {gr : Nat} {A : Option Addr} {c : Nat} {bs : List Int} {at_ e : Int} (h : Rdr w0 w gr A c bs at_ e) (k : Nat) (s : ByteArray) (a1 e1 : Int) (hf : textF k bs at_ e = some (s, a1, e1)) :
    Calls Try.prog 42 #[.pointer (some ⟨gr, 0, none⟩)] w fun en w' => en = .returned (.string s) ∧ Rdr w0 w' gr A c bs a1 e1 ∧ Turned gr w w' := by
  have mixed : Try.prog.follows Departure.mixedOrders = true := by kernel_rfl
  have H0 := Aside0.mk h
  have c0 : w.cell? ⟨gr, 0, none⟩ = some (.slice A bs.length c) := (blk_cell h.box 0).trans rfl
  have c1 : w.cell? ⟨gr, 1, none⟩ = some (.int .i64 at_) := (blk_cell h.box 1).trans rfl
  have c2 : w.cell? ⟨gr, 2, none⟩ = some (.int .i64 e) := (blk_cell h.box 2).trans rfl
  unfold textF at hf
  by_cases he : e = 0
  · rw [if_pos he] at hf
    subst he
    replace hf := Option.map_eq_some_iff.1 hf
    obtain ⟨r, hf, hr⟩ := hf
    obtain ⟨s', a', e'⟩ := r
    simp only [Prod.mk.injEq] at hr
    obtain ⟨rfl, rfl, he1⟩ := hr
    have HF := Aside0.mk hf
    have HE1 := Aside0.mk he1
    clear h hf he1
    go_enter Try.func42, Try.ntmps42
    go_upto_region 3 with (fail)
    go_cut [3, 4, 5] from 3 to 39 (fun v3 v4 v5 wc => v3 = .string s' ∧ v4 = .int .i64 a' ∧ v5 = .int .i64 e' ∧ Aside0 (Below w.heap.size w wc))
    case first =>
      go_region_held3 (fun W : World => W.cell? ⟨gr, 0, none⟩ = some (.slice A bs.length c) ∧ W.cell? ⟨gr, 1, none⟩ = some (.int .i64 at_)) (exact keepR (by repeat (first | exact H0.out.box | exact HX5.out | refine blk_drewN ?_ _ | refine blk_drew ?_ | refine blk_alloc ?_ _))) (first
        | (go_at_call 57; (with_reducible refine (pack_GetText.calls k _ _ bs at_ (bs.length : Int) s' a' e' _ ?side1 ?side2 HF.out).mono ?_); (case side1 => repeat (first | exact Kd.C_below H0.out.reads H0.out.below | (with_reducible refine Kd.C_drewN ?_ _) | (with_reducible refine Kd.C_drew ?_))); (case side2 => exact H0.out.room); rintro e w5 ⟨rfl, hB⟩; have HB5 := Aside0.mk (below_step (show Below w.heap.size w _ by repeat (first | exact Below.refl _ _ | apply pw_below_drewN | apply below_drew)) hB); have HX5 := Aside0.mk (blk_below (by repeat (first | exact H0.out.box | refine blk_drewN ?_ _ | refine blk_drew ?_)) hB); clear hB))
      all_goals (try go_wp2)
      all_goals go_meet
      all_goals exact ⟨rfl, rfl, rfl, HB5⟩
    case rest =>
      obtain ⟨rfl, rfl, rfl, HB⟩ := hcut
      have H1 := Aside0.mk (H0.out.later HB.out)
      clear c0 c1 c2
      have c1 : wc.cell? ⟨gr, 1, none⟩ = some (.int .i64 at_) := (blk_cell H1.out.box 1).trans rfl
      have c2 : wc.cell? ⟨gr, 2, none⟩ = some (.int .i64 0) := (blk_cell H1.out.box 2).trans rfl
      have f1 := blk_frozen H1.out.box 1
      have f2 := blk_frozen H1.out.box 2
      by_cases h4 : e' = 4
      · have q1 : (e' == 4) = true := beq_iff_eq.2 h4
        have HQ := Aside0.mk (show e1 = 2 by rw [← HE1.out, if_pos h4])
        clear h4
        go_wp2
        go_ret
        rw [HQ.out]
        exact ⟨rfl, H1.out.put _ _, ((Turned.of_below HB.out).set (p := ⟨gr, 1, none⟩) (.inr rfl) _).set (p := ⟨gr, 2, none⟩) (.inr rfl) _⟩
      · have q1 : (e' == 4) = false := beq_eq_false_iff_ne.2 h4
        have HQ := Aside0.mk (show e1 = e' by rw [← HE1.out, if_neg h4])
        clear h4
        go_wp2
        go_ret
        rw [HQ.out]
        exact ⟨rfl, H1.out.put _ _, ((Turned.of_below HB.out).set (p := ⟨gr, 1, none⟩) (.inr rfl) _).set (p := ⟨gr, 2, none⟩) (.inr rfl) _⟩
  · rw [if_neg he] at hf
    simp only [Option.some.injEq, Prod.mk.injEq] at hf
    obtain ⟨rfl, rfl, rfl⟩ := hf
    have q1 : (e != 0) = true := bne_iff_ne.2 he
    clear he h
    go_enter Try.func42, Try.ntmps42
    go_wp2
    go_ret
    exact ⟨rfl, H0.out, Turned.refl _ _⟩
end Go.Proofs.Ytkkfkccfnfjbiaa.Ja
