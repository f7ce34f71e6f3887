/- DERIVED. What the second closure of Split does. Conditions: those that each lemma names. -/
import Derived.Test.YtmgjccpolkhhhaaIc
namespace Go.Proofs.Ytmgjccpolkhhhaa.Ie
open Go.Shelf Go.RowKit Go.Lib Go.Proofs.Ytmgjccpolkhhhaa.PAll Go.Proofs.YtmgjccpolkhhhaaW.PrintWords Go.Proofs.YtmgjccpolkhhhaaW.PrintLast Go.Proofs.Ytmgjccpolkhhhaa.Hl Go.Proofs.Ytmgjccpolkhhhaa.In Go.Proofs.Ytmgjccpolkhhhaa.Is Go.Proofs.Ytmgjccpolkhhhaa.Id
set_option linter.unusedSimpArgs false
set_option linter.unusedVariables false
set_option maxHeartbeats 4000000 in
set_option maxRecDepth 100000 in
theorem split2 (w : World) (base : Nat) (S : Value) (xs : List S46) (A : Option Addr) (n c : Nat) (hSe : S = .slice A n c) (hn : n = xs.length) (hS : Kd.R k46 46 w base (fun _ => True) S xs) (gi ga i : Nat) (at_ : ByteArray) (hi : w.cell? ⟨gi, 0, none⟩ = some (.int .i64 (i : Int))) (ha : w.cell? ⟨ga, 0, none⟩ = some (.string at_)) (h1 : 1 ≤ i) (hin : i ≤ n) (hl : n ≤ 1000) (hb : base ≤ w.heap.size) :
    Calls Try.prog 36 #[S, .pointer (some ⟨gi, 0, none⟩), .pointer (some ⟨ga, 0, none⟩)] w fun e w' => ∃ v', e = .returned v' ∧ Kd.R k46 46 w' base (fun _ => True) v' (xs.take i ++ (⟨at_, (rd_T46 xs ((i : Int) - 1)).f1⟩ : S46) :: xs.drop i) ∧ Below base w w' := by
  subst hSe
  have HS := Aside0.mk hS
  have hlt := Kd.R_lt hS
  obtain ⟨ad, e, hx0, hx1⟩ := at_T46 (Kd.R_reads' hS).2.2 ((i : Int) - 1) (by omega) (by omega)
  subst e
  rw [show ((i : Int) - 1).toNat = i - 1 by omega] at hx0 hx1
  have q3 : ((1 : Int) ≤ (i : Int)) = True := eq_true (by omega)
  have q4 : (1 ≤ i) = True := eq_true h1
  have q1 : (0 ≤ (i : Int) - 1) = True := eq_true (by omega)
  have q2 : ((i : Int) - 1 < (n : Int)) = True := eq_true (by omega)
  have hu46 := Try.underlying46
  have mixed : Try.prog.follows Departure.mixedOrders = true := by kernel_rfl
  have HI := Aside0.mk (insert_part ((w.alloc (.cells #[.string at_, .int .i64 (rd_T46 xs ((i : Int) - 1)).f1] 46)).drew) base 0 (.slice (some ad) n c) (.slice (some ⟨w.heap.size, 0, none⟩) 1 1) xs ⟨at_, (rd_T46 xs ((i : Int) - 1)).f1⟩ (Kd.R_drew (Kd.R_alloc hS _)) (cells_R (xs := [⟨at_, (rd_T46 xs ((i : Int) - 1)).f1⟩]) trivial (Nat.zero_le _) (heap_alloc_new w _) (by simp) (by decide) rfl rfl) (by intro e; have := hlt w.heap.size (by rw [← e]; rfl); omega) i (by omega) (by omega) (by simp; omega))
  have HBA := Aside0.mk (show Below base w ((w.alloc (.cells #[.string at_, .int .i64 (rd_T46 xs ((i : Int) - 1)).f1] 46)).drew) from below_drew1 ((Below.refl base w).alloc hb _))
  have hbA : Below w.heap.size w (w.alloc (.cells #[.string at_, .int .i64 (rd_T46 xs ((i : Int) - 1)).f1] 46)) := (Below.refl _ _).alloc (Nat.le_refl _) _
  have hi2 := (hbA.cell (World.block_lt_of_cell? w _ hi)).trans hi
  have ha2 := (hbA.cell (World.block_lt_of_cell? w _ ha)).trans ha
  clear hbA
  have HN := Aside0.mk hn
  have HH := Aside0.mk (show i ≤ xs.length ∧ xs.length ≤ 1000 by omega)
  obtain ⟨hw1, hw2⟩ : wrap64 ((i : Int) - 1) = (i : Int) - 1 ∧ IntKind.i64.wrap ((i : Int) - 1) = (i : Int) - 1 := ⟨Go.IntWalk.wrap64_in _ (by omega), by rw [IntKind.wrap_i64]; omega⟩
  clear hS hn hlt
  go_enter Try.func36, Try.ntmps36
  go_upto_region 1 with (fail)
  go_region_law_o (refine goes_ Try.func37 (by kernel_rfl) rfl #[.slice (some ad) n c, .int .i64 (i : Int), .slice (some ⟨w.heap.size, 0, none⟩) 1 1] (by rfl) rfl rfl (by (try simp only [List.map_toArray, List.map_cons, List.map_nil]); first | done | rfl) ?_; refine HI.out.mono ?_; rintro e w' ⟨v', rfl, hR, hB⟩; refine ⟨_, rfl, ?_⟩; have HR := Aside0.mk hR; have HB := Aside0.mk (HBA.out.trans hB); clear hR hB)
  all_goals (try go_wp2)
  all_goals go_ret
  all_goals exact ⟨_, rfl, HR.out, HB.out⟩
end Go.Proofs.Ytmgjccpolkhhhaa.Ie
