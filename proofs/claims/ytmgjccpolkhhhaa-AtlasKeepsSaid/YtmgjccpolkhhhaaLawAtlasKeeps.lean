-- The row's text as mp.py writes it, turned to a contract walked by hand; Lean checks it.
import Derived.Test.YtmgjccpolkhhhaaRows
import Derived.Test.YtmgjccpolkhhhaaAk
import Derived.Test.YtmgjccpolkhhhaaPureAtlasKeeps
import Derived.Test.YtmgjccpolkhhhaaRw
import Derived.Test.YtmgjccpolkhhhaaRs
import Derived.WalkKit
import Derived.ProofKit
import Derived.OpenShut
import Derived.ShutString
import Derived.ChangeOld
import Derived.Below
import Derived.SizedLaws
import Derived.Lib.SmallJoins
namespace Go.Proofs.Ytmgjccpolkhhhaa.atlasKeeps
open Go.ChangeShapes Go.WideShapes Go.ChangeAt Go.RowKit Go.Proofs.Ytmgjccpolkhhhaa Go.Proofs.YtmgjccpolkhhhaaW.PrintWords Go.Proofs.Ytmgjccpolkhhhaa.Rs Go.Proofs.Ytmgjccpolkhhhaa.PAll
open Go.ChangeMaps (open_string shut_string)
set_option linter.unusedVariables false
theorem own : ownKnob Try.prog.godebug = none := by kernel_rfl
theorem laidOut : laidOutB Try.prog = true := by kernel_rfl
set_option maxRecDepth 100000 in
theorem lifted (os : Os) (started : os.Started) (H : Type) (enc : TypeId × Value → H) :
    ReturnsInHanded {} Try.checked os 6 .any (Rows.atlasKeepsSpec.pre6 enc Try.prog Try.f6 Rows.atlasKeepsRow.domain false) (Rows.atlasKeepsSpec.post enc Try.prog Try.f6 false true false false) := by
  refine returnsInHanded_of_change_sized (C := Try.checked) own started (by kernel_rfl) Try.func6
    (ChangeSpec.witness6 (enc := enc) (C := Try.checked) false ⟨#[], #[.agg #[.int .i64 0, .slice none 0 0], .agg #[.int .i64 0, .string ByteArray.empty, .int .i64 0]], []⟩ 8 (by kernel_rfl) (by kernel_rfl) (by kernel_rfl) (by kernel_rfl)) ?_
  intro W base args ds gs before hval0 hW hcnd hsz0 _
  have hsz : (DataW.weightsEach Try.prog (Try.f6.params.toList ++ Rows.atlasKeepsSpec.plain.varTypes Try.prog) (ds ++ gs)).all (· ≤ reachBytes) = true := hsz0
  have hval : ∀ (j : Nat) t v, Try.f6.params[j]? = some t → args[j]? = some v → Value.okWide Try.prog W .any base t v := hval0
  have hW' := hW
  obtain ⟨p, q, hA0, hV, rfl, hfz, hnd⟩ := hW
  have hA : DataW.TrodAll enc Try.prog W 0 (fun _ => true) true Try.f6.params.toList args.toList ds p := hA0
  rw [Try.params6] at hA hval hsz
  obtain ⟨v0, vs0, d0, ds0, p0, q0, hargs, rfl, rfl, h0, r0⟩ := trodAll_cons hA
  obtain ⟨v1, vs1, d1, ds1, p1, q1, rfl, rfl, rfl, h1, r1⟩ := trodAll_cons r0
  obtain ⟨rfl, rfl, rfl⟩ := trodAll_nil r1
  obtain rfl : args = #[v0, v1] := by cases args; simp_all
  obtain ⟨rfl, rfl⟩ := trodVars_none hV
  have k0 := h0
  have lt0 : ∀ x ∈ p0, x.block < W.heap.size := by obtain ⟨m, hm⟩ := k0; exact DataW.trod_lt m _ _ _ hm
  obtain ⟨cs0, rfl, hcs0⟩ := okWide_struct Try.underlying24 (hval 0 24 v0 rfl rfl)
  obtain ⟨x0, K0, w0⟩ : ∃ x, k24.K W x cs0.toList ∧ WF24 x := by obtain ⟨fuel, hf⟩ := h0; exact opens24 H enc W true fuel _ _ hf
  obtain ⟨A0_1, c0_1, e0, hc0_1, hr0_1⟩ := k24_open K0
  obtain rfl : cs0 = #[.int .i64 x0.f0, .slice A0_1 x0.f1.length c0_1] := Array.toList_inj.1 e0
  have k1 := h1
  have lt1 : ∀ x ∈ p1, x.block < W.heap.size := by obtain ⟨m, hm⟩ := k1; exact DataW.trod_lt m _ _ _ hm
  obtain ⟨cs1, rfl, hcs1⟩ := okWide_struct Try.underlying40 (hval 1 40 v1 rfl rfl)
  obtain ⟨x1, K1, w1⟩ : ∃ x, k40.K W x cs1.toList ∧ WF40 x := by obtain ⟨fuel, hf⟩ := h1; exact opens40 H enc W true fuel _ _ hf
  have e1 := k40_open K1
  obtain rfl : cs1 = #[.int .i64 x1.f0, .string x1.f1, .int .i64 x1.f2] := Array.toList_inj.1 e1
  clear hA0 hval0 hsz0 hsz
  refine (Pure.AtlasKeeps x0 w0 x1 A0_1 c0_1 W hr0_1 hc0_1).mono fun e W' ⟨he, bel⟩ => ?_
  subst he
  exact ⟨_, rfl, _, _, _, [], _, [], hW', trodAll_mk1 (shut_bool Try.underlying4 _), (trodAll_cons_mk (Below.trod laidOut (by kernel_rfl) (of_decide_eq_true (by kernel_rfl)) k0 bel lt0) (trodAll_cons_mk (Below.trod laidOut (by kernel_rfl) (of_decide_eq_true (by kernel_rfl)) k1 bel lt1) trodAll_mk0)), rfl, bel.frame _, fun h => by cases h⟩
theorem over : Rows.atlasKeepsRow.holds Try.pinned (OpenSpec.ofChange Rows.atlasKeepsSpec) :=
  OpenClaim.holds_of_wide 6 Try.f6 rfl rfl rfl rfl rfl rfl rfl ⟨rfl, rfl, rfl, rfl, rfl⟩ rfl rfl rfl rfl rfl (by kernel_rfl) Try.func6 (by kernel_rfl)
    (of_decide_eq_true (by kernel_rfl)) (by unfold Func.isWrapper; first | (rw [if_pos (by decide +kernel)]; kernel_rfl) | (rw [if_neg (by decide +kernel)]; exact ⟨rfl, rfl⟩))
    (fun os started H enc _ => lifted os started H enc)
theorem proved : Rows.AtlasKeepsSaid := over
#print axioms proved
end Go.Proofs.Ytmgjccpolkhhhaa.atlasKeeps
namespace Go.Proofs.Ytmgjccpolkhhhaa
/-- The row, under a short name, for the claim. -/
theorem atlasKeeps_holds : Rows.AtlasKeepsSaid := atlasKeeps.proved
end Go.Proofs.Ytmgjccpolkhhhaa
