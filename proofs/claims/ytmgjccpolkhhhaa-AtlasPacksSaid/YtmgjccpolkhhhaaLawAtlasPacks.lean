-- Written by a program of this session for this claim (mp.py, over the kit's print); Lean checks it.
import Derived.Test.YtmgjccpolkhhhaaRows
import Derived.Test.YtmgjccpolkhhhaaPAllx31
import Derived.Test.YtmgjccpolkhhhaaPureAtlasPacks
import Derived.Test.YtmgjccpolkhhhaaRw
import Derived.Test.YtmgjccpolkhhhaaRs
import Derived.WalkKit
import Derived.ProofKit
import Derived.OpenShut
import Derived.ShutString
import Derived.ChangeOld
import Derived.Below
import Derived.SizedLaws
import Derived.Lib.SmallJoins
namespace Go.Proofs.Ytmgjccpolkhhhaa.atlasPacks
open Go.ChangeShapes Go.WideShapes Go.ChangeAt Go.RowKit Go.Proofs.Ytmgjccpolkhhhaa Go.Proofs.YtmgjccpolkhhhaaW.PrintWords Go.Proofs.Ytmgjccpolkhhhaa.Rs Go.Proofs.Ytmgjccpolkhhhaa.PAll
open Go.ChangeMaps (open_string shut_string)
set_option linter.unusedVariables false
theorem own : ownKnob Try.prog.godebug = none := by kernel_rfl
theorem laidOut : laidOutB Try.prog = true := by kernel_rfl
set_option maxRecDepth 100000 in
theorem lifted (os : Os) (started : os.Started) (H : Type) (enc : TypeId × Value → H) :
    ReturnsInHanded {} Try.checked os 8 .any (Rows.atlasPacksSpec.pre6 enc Try.prog Try.f8 Rows.atlasPacksRow.domain false) (Rows.atlasPacksSpec.post enc Try.prog Try.f8 false true false false) := by
  refine returnsInHanded_of_change_sized (C := Try.checked) own started (by kernel_rfl) Try.func8
    (ChangeSpec.witness6 (enc := enc) (C := Try.checked) false ⟨#[], #[.agg #[.int .i64 0, .slice none 0 0], .string ByteArray.empty], []⟩ 8 (by kernel_rfl) (by kernel_rfl) (by kernel_rfl) (by kernel_rfl)) ?_
  intro W base args ds gs before hval0 hW hcnd hsz0 _
  have hsz : (DataW.weightsEach Try.prog (Try.f8.params.toList ++ Rows.atlasPacksSpec.plain.varTypes Try.prog) (ds ++ gs)).all (· ≤ reachBytes) = true := hsz0
  have hval : ∀ (j : Nat) t v, Try.f8.params[j]? = some t → args[j]? = some v → Value.okWide Try.prog W .any base t v := hval0
  have hW' := hW
  obtain ⟨p, q, hA0, hV, rfl, hfz, hnd⟩ := hW
  have hA : DataW.TrodAll enc Try.prog W 0 (fun _ => true) true Try.f8.params.toList args.toList ds p := hA0
  rw [Try.params8] at hA hval hsz
  obtain ⟨v0, vs0, d0, ds0, p0, q0, hargs, rfl, rfl, h0, r0⟩ := trodAll_cons hA
  obtain ⟨v1, vs1, d1, ds1, p1, q1, rfl, rfl, rfl, h1, r1⟩ := trodAll_cons r0
  obtain ⟨rfl, rfl, rfl⟩ := trodAll_nil r1
  obtain rfl : args = #[v0, v1] := by cases args; simp_all
  obtain ⟨rfl, rfl⟩ := trodVars_none hV
  have k0 := h0
  have lt0 : ∀ x ∈ p0, x.block < W.heap.size := by obtain ⟨m, hm⟩ := k0; exact DataW.trod_lt m _ _ _ hm
  obtain ⟨cs0, rfl, hcs0⟩ := okWide_struct Try.underlying24 (hval 0 24 v0 rfl rfl)
  obtain ⟨x0, K0, w0⟩ : ∃ x, k24.K W x cs0.toList ∧ WF24 x := by obtain ⟨fuel, hf⟩ := h0; exact opens24 H enc W true fuel _ _ hf
  obtain ⟨A0_1, c0_1, e0, hc0_1, hr0_1⟩ := k24_open K0
  obtain rfl : cs0 = #[.int .i64 x0.f0, .slice A0_1 x0.f1.length c0_1] := Array.toList_inj.1 e0
  obtain ⟨a1, rfl, rfl, rfl, z1⟩ := open_string Try.underlying9 (hval 1 9 v1 rfl rfl) h1
  have w1 : a1.size ≤ 140737488351232 := by
    have z := sized_string hsz (j := 1) (t := 9) rfl rfl
    rw [Array.length_toList] at z
    exact z
  clear hA0 hval0 hsz0 hsz
  obtain ⟨k, hp⟩ := Pure.AtlasPacks x0 w0 a1 w1
  refine (PAll.shelfmarklaw12_AtlasPacks.calls k x0.f0 _ _ x0.f1 a1 true W hr0_1 hc0_1 hp rfl).mono fun e W' ⟨he, bel⟩ => ?_
  subst he
  exact ⟨_, rfl, _, _, _, [], _, [], hW', trodAll_mk1 (shut_bool Try.underlying4 _), (trodAll_cons_mk (Below.trod laidOut (by kernel_rfl) (of_decide_eq_true (by kernel_rfl)) k0 bel lt0) (trodAll_cons_mk (shut_string Try.underlying9 z1) trodAll_mk0)), rfl, bel.frame _, fun h => by cases h⟩
theorem over : Rows.atlasPacksRow.holds Try.pinned (OpenSpec.ofChange Rows.atlasPacksSpec) :=
  OpenClaim.holds_of_wide 8 Try.f8 rfl rfl rfl rfl rfl rfl rfl ⟨rfl, rfl, rfl, rfl, rfl⟩ rfl rfl rfl rfl rfl (by kernel_rfl) Try.func8 (by kernel_rfl)
    (of_decide_eq_true (by kernel_rfl)) (by unfold Func.isWrapper; first | (rw [if_pos (by decide +kernel)]; kernel_rfl) | (rw [if_neg (by decide +kernel)]; exact ⟨rfl, rfl⟩))
    (fun os started H enc _ => lifted os started H enc)
theorem proved : Rows.AtlasPacksSaid := over
#print axioms proved
end Go.Proofs.Ytmgjccpolkhhhaa.atlasPacks
namespace Go.Proofs.Ytmgjccpolkhhhaa
/-- The row, under a short name, for the claim. -/
theorem atlasPacks_holds : Rows.AtlasPacksSaid := atlasPacks.proved
end Go.Proofs.Ytmgjccpolkhhhaa
