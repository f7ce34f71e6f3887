-- Written by a program of this session for this claim (mp.py, over the kit's print); Lean checks it.
import Derived.Test.YthghacojbhjeaaaRows
import Derived.Test.YthghacojbhjeaaaPLtx15
import Derived.Test.YthghacojbhjeaaaPureLetterPacks
import Derived.Test.YthghacojbhjeaaaRw
import Derived.Test.YthghacojbhjeaaaRs
import Derived.WalkKit
import Derived.ProofKit
import Derived.OpenShut
import Derived.ShutString
import Derived.ChangeOld
import Derived.Below
import Derived.SizedLaws
import Derived.Lib.SmallJoins
namespace Go.Proofs.Ythghacojbhjeaaa.letterPacks
open Go.ChangeShapes Go.WideShapes Go.ChangeAt Go.RowKit Go.Proofs.Ythghacojbhjeaaa Go.Proofs.YthghacojbhjeaaaW.PrintWords Go.Proofs.Ythghacojbhjeaaa.Rs Go.Proofs.Ythghacojbhjeaaa.PLt
open Go.ChangeMaps (open_string shut_string)
set_option linter.unusedVariables false
theorem own : ownKnob Try.prog.godebug = none := by kernel_rfl
theorem laidOut : laidOutB Try.prog = true := by kernel_rfl
set_option maxRecDepth 100000 in
theorem lifted (os : Os) (started : os.Started) (H : Type) (enc : TypeId × Value → H) :
    ReturnsInHanded {} Try.checked os 5 .any (Rows.letterPacksSpec.pre6 enc Try.prog Try.f5 Rows.letterPacksRow.domain false) (Rows.letterPacksSpec.post enc Try.prog Try.f5 false true false false) := by
  refine returnsInHanded_of_change_sized (C := Try.checked) own started (by kernel_rfl) Try.func5
    (ChangeSpec.witness6 (enc := enc) (C := Try.checked) false ⟨#[], #[.agg #[.int .i64 0, .int .i64 0, .int .i64 0, .int .i64 0, .int .i64 0, .int .i64 0, .int .i64 0, .string ByteArray.empty, .string ByteArray.empty, .slice none 0 0, .slice none 0 0, .int .i64 0, .bool false, .string ByteArray.empty]], []⟩ 8 (by kernel_rfl) (by kernel_rfl) (by kernel_rfl) (by kernel_rfl)) ?_
  intro W base args ds gs before hval0 hW hcnd hsz0 _
  have hsz : (DataW.weightsEach Try.prog (Try.f5.params.toList ++ Rows.letterPacksSpec.plain.varTypes Try.prog) (ds ++ gs)).all (· ≤ reachBytes) = true := hsz0
  have hval : ∀ (j : Nat) t v, Try.f5.params[j]? = some t → args[j]? = some v → Value.okWide Try.prog W .any base t v := hval0
  have hW' := hW
  obtain ⟨p, q, hA0, hV, rfl, hfz, hnd⟩ := hW
  have hA : DataW.TrodAll enc Try.prog W 0 (fun _ => true) true Try.f5.params.toList args.toList ds p := hA0
  rw [Try.params5] at hA hval hsz
  obtain ⟨v0, vs0, d0, ds0, p0, q0, hargs, rfl, rfl, h0, r0⟩ := trodAll_cons hA
  obtain ⟨rfl, rfl, rfl⟩ := trodAll_nil r0
  obtain rfl : args = #[v0] := by cases args; simp_all
  obtain ⟨rfl, rfl⟩ := trodVars_none hV
  have k0 := h0
  have lt0 : ∀ x ∈ p0, x.block < W.heap.size := by obtain ⟨m, hm⟩ := k0; exact DataW.trod_lt m _ _ _ hm
  obtain ⟨cs0, rfl, hcs0⟩ := okWide_struct Try.underlying27 (hval 0 27 v0 rfl rfl)
  obtain ⟨x0, K0, w0⟩ : ∃ x, k27.K W x cs0.toList ∧ WF27 x := by obtain ⟨fuel, hf⟩ := h0; exact opens27 H enc W true fuel _ _ hf
  obtain ⟨A0_9, c0_9, A0_10, c0_10, e0, hc0_9, hr0_9, hc0_10, hr0_10⟩ := k27_open K0
  obtain rfl : cs0 = #[.int .i64 x0.f0, .int .i64 x0.f1, .int .i64 x0.f2, .int .i64 x0.f3, .int .i64 x0.f4, .int .i64 x0.f5, .int .i64 x0.f6, .string x0.f7, .string x0.f8, .slice A0_9 x0.f9.length c0_9, .slice A0_10 x0.f10.length c0_10, .int .i64 x0.f11, .bool x0.f12, .string x0.f13] := Array.toList_inj.1 e0
  clear hA0 hval0 hsz0 hsz
  obtain ⟨k, hp⟩ := Pure.LetterPacks x0 w0
  refine (PLt.shelfmarklaw13_LetterPacks.calls k x0.f0 x0.f1 x0.f2 x0.f3 x0.f4 x0.f5 x0.f6 x0.f7 x0.f8 _ _ x0.f9 _ _ x0.f10 x0.f11 x0.f12 x0.f13 true W hr0_9 hc0_9 hr0_10 hc0_10 hp rfl).mono fun e W' ⟨he, bel⟩ => ?_
  subst he
  exact ⟨_, rfl, _, _, _, [], _, [], hW', trodAll_mk1 (shut_bool Try.underlying4 _), (trodAll_cons_mk (Below.trod laidOut (by kernel_rfl) (of_decide_eq_true (by kernel_rfl)) k0 bel lt0) trodAll_mk0), rfl, bel.frame _, fun h => by cases h⟩
theorem over : Rows.letterPacksRow.holds Try.pinned (OpenSpec.ofChange Rows.letterPacksSpec) :=
  OpenClaim.holds_of_wide 5 Try.f5 rfl rfl rfl rfl rfl rfl rfl ⟨rfl, rfl, rfl, rfl, rfl⟩ rfl rfl rfl rfl rfl (by kernel_rfl) Try.func5 (by kernel_rfl)
    (of_decide_eq_true (by kernel_rfl)) (by unfold Func.isWrapper; first | (rw [if_pos (by decide +kernel)]; kernel_rfl) | (rw [if_neg (by decide +kernel)]; exact ⟨rfl, rfl⟩))
    (fun os started H enc _ => lifted os started H enc)
theorem proved : Rows.LetterPacksSaid := over
#print axioms proved
end Go.Proofs.Ythghacojbhjeaaa.letterPacks
namespace Go.Proofs.Ythghacojbhjeaaa
/-- The row, under a short name, for the claim. -/
theorem letterPacks_holds : Rows.LetterPacksSaid := letterPacks.proved
end Go.Proofs.Ythghacojbhjeaaa
