-- Written by a program of this session for this claim (mp.py, over the kit's print); Lean checks it.
import Derived.Test.YtkkfkccfnfjbiaaRows
import Derived.Test.YtkkfkccfnfjbiaaPAllx20
import Derived.Test.YtkkfkccfnfjbiaaPureRunFinds
import Derived.Test.YtkkfkccfnfjbiaaRw
import Derived.Test.YtkkfkccfnfjbiaaRs
import Derived.WalkKit
import Derived.ProofKit
import Derived.OpenShut
import Derived.ShutString
import Derived.ChangeOld
import Derived.Below
import Derived.SizedLaws
import Derived.Lib.SmallJoins
namespace Go.Proofs.Ytkkfkccfnfjbiaa.runFinds
open Go.ChangeShapes Go.WideShapes Go.ChangeAt Go.RowKit Go.Proofs.Ytkkfkccfnfjbiaa Go.Proofs.YtkkfkccfnfjbiaaW.PrintWords Go.Proofs.Ytkkfkccfnfjbiaa.Rs Go.Proofs.Ytkkfkccfnfjbiaa.PAll
open Go.ChangeMaps (open_string shut_string)
set_option linter.unusedVariables false
theorem own : ownKnob Try.prog.godebug = none := by kernel_rfl
theorem laidOut : laidOutB Try.prog = true := by kernel_rfl
set_option maxRecDepth 100000 in
theorem lifted (os : Os) (started : os.Started) (H : Type) (enc : TypeId × Value → H) :
    ReturnsInHanded {} Try.checked os 4 .any (Rows.runFindsSpec.pre6 enc Try.prog Try.f4 Rows.runFindsRow.domain false) (Rows.runFindsSpec.post enc Try.prog Try.f4 false true false false) := by
  refine returnsInHanded_of_change_sized (C := Try.checked) own started (by kernel_rfl) Try.func4
    (ChangeSpec.witness6 (enc := enc) (C := Try.checked) false ⟨#[], #[.slice none 0 0, .string ByteArray.empty, .agg #[.string ByteArray.empty, .string ByteArray.empty]], []⟩ 8 (by kernel_rfl) (by kernel_rfl) (by kernel_rfl) (by kernel_rfl)) ?_
  intro W base args ds gs before hval0 hW hcnd hsz0 _
  have hsz : (DataW.weightsEach Try.prog (Try.f4.params.toList ++ Rows.runFindsSpec.plain.varTypes Try.prog) (ds ++ gs)).all (· ≤ reachBytes) = true := hsz0
  have hval : ∀ (j : Nat) t v, Try.f4.params[j]? = some t → args[j]? = some v → Value.okWide Try.prog W .any base t v := hval0
  have hW' := hW
  obtain ⟨p, q, hA0, hV, rfl, hfz, hnd⟩ := hW
  have hA : DataW.TrodAll enc Try.prog W 0 (fun _ => true) true Try.f4.params.toList args.toList ds p := hA0
  rw [Try.params4] at hA hval hsz
  obtain ⟨v0, vs0, d0, ds0, p0, q0, hargs, rfl, rfl, h0, r0⟩ := trodAll_cons hA
  obtain ⟨v1, vs1, d1, ds1, p1, q1, rfl, rfl, rfl, h1, r1⟩ := trodAll_cons r0
  obtain ⟨v2, vs2, d2, ds2, p2, q2, rfl, rfl, rfl, h2, r2⟩ := trodAll_cons r1
  obtain ⟨rfl, rfl, rfl⟩ := trodAll_nil r2
  obtain rfl : args = #[v0, v1, v2] := by cases args; simp_all
  obtain ⟨rfl, rfl⟩ := trodVars_none hV
  have k0 := h0
  have lt0 : ∀ x ∈ p0, x.block < W.heap.size := by obtain ⟨m, hm⟩ := k0; exact DataW.trod_lt m _ _ _ hm
  obtain ⟨A0, len0, c0, rfl⟩ := okWide_slice Try.underlying25 (hval 0 25 v0 rfl rfl)
  have y0 : len0 * 40 ≤ 140737488351232 := Rw.slice_sized hsz (j := 0) (t := 25) rfl rfl Try.underlying25 h0
  obtain ⟨l0, rfl, hc0, hr0, w0⟩ := Rw.slice_in (Rw.opens_slice Try.underlying25 (by kernel_rfl) opens37) h0
  obtain ⟨a1, rfl, rfl, rfl, z1⟩ := open_string Try.underlying9 (hval 1 9 v1 rfl rfl) h1
  have w1 : a1.size ≤ 140737488351232 := by
    have z := sized_string hsz (j := 1) (t := 9) rfl rfl
    rw [Array.length_toList] at z
    exact z
  have k2 := h2
  have lt2 : ∀ x ∈ p2, x.block < W.heap.size := by obtain ⟨m, hm⟩ := k2; exact DataW.trod_lt m _ _ _ hm
  obtain ⟨cs2, rfl, hcs2⟩ := okWide_struct Try.underlying34 (hval 2 34 v2 rfl rfl)
  obtain ⟨x2, K2, w2⟩ : ∃ x, k34.K W x cs2.toList ∧ WF34 x := by obtain ⟨fuel, hf⟩ := h2; exact opens34 H enc W true fuel _ _ hf
  have e2 := k34_open K2
  obtain rfl : cs2 = #[.string x2.f0, .string x2.f1] := Array.toList_inj.1 e2
  clear hA0 hval0 hsz0 hsz
  obtain ⟨k, hp⟩ := Pure.RunFinds l0 w0 y0 a1 w1 x2 w2
  refine (PAll.shelfmarklaw09_RunFinds.calls k _ _ l0 a1 x2.f0 x2.f1 true W hr0 hc0 hp rfl).mono fun e W' ⟨he, bel⟩ => ?_
  subst he
  exact ⟨_, rfl, _, _, _, [], _, [], hW', trodAll_mk1 (shut_bool Try.underlying4 _), (trodAll_cons_mk (Below.trod laidOut (by kernel_rfl) (of_decide_eq_true (by kernel_rfl)) k0 bel lt0) (trodAll_cons_mk (shut_string Try.underlying9 z1) (trodAll_cons_mk (Below.trod laidOut (by kernel_rfl) (of_decide_eq_true (by kernel_rfl)) k2 bel lt2) trodAll_mk0))), rfl, bel.frame _, fun h => by cases h⟩
theorem over : Rows.runFindsRow.holds Try.pinned (OpenSpec.ofChange Rows.runFindsSpec) :=
  OpenClaim.holds_of_wide 4 Try.f4 rfl rfl rfl rfl rfl rfl rfl ⟨rfl, rfl, rfl, rfl, rfl⟩ rfl rfl rfl rfl rfl (by kernel_rfl) Try.func4 (by kernel_rfl)
    (of_decide_eq_true (by kernel_rfl)) (by unfold Func.isWrapper; first | (rw [if_pos (by decide +kernel)]; kernel_rfl) | (rw [if_neg (by decide +kernel)]; exact ⟨rfl, rfl⟩))
    (fun os started H enc _ => lifted os started H enc)
theorem proved : Rows.RunFindsSaid := over
#print axioms proved
end Go.Proofs.Ytkkfkccfnfjbiaa.runFinds
namespace Go.Proofs.Ytkkfkccfnfjbiaa
/-- The row, under a short name, for the claim. -/
theorem runFinds_holds : Rows.RunFindsSaid := runFinds.proved
end Go.Proofs.Ytkkfkccfnfjbiaa
