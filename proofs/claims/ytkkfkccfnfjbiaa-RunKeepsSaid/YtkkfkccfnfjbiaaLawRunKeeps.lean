/- DERIVED. RunKeeps answers true at all inputs. Conditions: none but those of the statement. -/
import Derived.Test.YtkkfkccfnfjbiaaRows
import Derived.Test.YtkkfkccfnfjbiaaGk
import Derived.Test.YtkkfkccfnfjbiaaPureRunKeeps
import Derived.Test.YtkkfkccfnfjbiaaRw
import Derived.Test.YtkkfkccfnfjbiaaRs
import Derived.WalkKit
import Derived.ProofKit
import Derived.OpenShut
import Derived.ShutString
import Derived.ChangeOld
import Derived.Below
import Derived.SizedLaws
import Derived.Lib.SmallJoins
namespace Go.Proofs.Ytkkfkccfnfjbiaa.runKeeps
open Go.ChangeShapes Go.WideShapes Go.ChangeAt Go.RowKit Go.Proofs.Ytkkfkccfnfjbiaa Go.Proofs.YtkkfkccfnfjbiaaW.PrintWords Go.Proofs.Ytkkfkccfnfjbiaa.Rs Go.Proofs.Ytkkfkccfnfjbiaa.PGr
open Go.ChangeMaps (open_string shut_string)
set_option linter.unusedVariables false
theorem own : ownKnob Try.prog.godebug = none := by kernel_rfl
theorem laidOut : laidOutB Try.prog = true := by kernel_rfl
/-- The call, whatever is handed in. -/
theorem calls (A0 : Option Addr) (c0 : Nat) (l : List S37) (w : World) (ha : k37.C w A0 l.length l) (hca : l.length ≤ c0) :
    Calls Try.prog 8 #[.slice A0 l.length c0] w fun e w' => e = .returned (.bool true) ∧ Below w.heap.size w w' := by
  obtain ⟨k, h1, h2 | ⟨h2, hl, want, x, y, z, f3, f4, f5, f6, f7, f8, ly, lz⟩⟩ := Pure.RunKeeps l
  · exact Gk.dark k A0 c0 l w ha hca h1 h2
  · exact Gk.keeps k A0 c0 l want x y z 0 w ha hca hl ly lz h1 h2 f3 f4 f5 f6 f7 f8
set_option maxRecDepth 100000 in
theorem lifted (os : Os) (started : os.Started) (H : Type) (enc : TypeId × Value → H) :
    ReturnsInHanded {} Try.checked os 8 .any (Rows.runKeepsSpec.pre6 enc Try.prog Try.f8 Rows.runKeepsRow.domain false) (Rows.runKeepsSpec.post enc Try.prog Try.f8 false true false false) := by
  refine returnsInHanded_of_change_sized (C := Try.checked) own started (by kernel_rfl) Try.func8
    (ChangeSpec.witness6 (enc := enc) (C := Try.checked) false ⟨#[], #[.slice none 0 0], []⟩ 8 (by kernel_rfl) (by kernel_rfl) (by kernel_rfl) (by kernel_rfl)) ?_
  intro W base args ds gs before hval0 hW hcnd hsz0 _
  have hsz : (DataW.weightsEach Try.prog (Try.f8.params.toList ++ Rows.runKeepsSpec.plain.varTypes Try.prog) (ds ++ gs)).all (· ≤ reachBytes) = true := hsz0
  have hval : ∀ (j : Nat) t v, Try.f8.params[j]? = some t → args[j]? = some v → Value.okWide Try.prog W .any base t v := hval0
  have hW' := hW
  obtain ⟨p, q, hA0, hV, rfl, hfz, hnd⟩ := hW
  have hA : DataW.TrodAll enc Try.prog W 0 (fun _ => true) true Try.f8.params.toList args.toList ds p := hA0
  rw [Try.params8] at hA hval hsz
  obtain ⟨v0, vs0, d0, ds0, p0, q0, hargs, rfl, rfl, h0, r0⟩ := trodAll_cons hA
  obtain ⟨rfl, rfl, rfl⟩ := trodAll_nil r0
  obtain rfl : args = #[v0] := by cases args; simp_all
  obtain ⟨rfl, rfl⟩ := trodVars_none hV
  have k0 := h0
  have lt0 : ∀ x ∈ p0, x.block < W.heap.size := by obtain ⟨m, hm⟩ := k0; exact DataW.trod_lt m _ _ _ hm
  obtain ⟨A0, len0, c0, rfl⟩ := okWide_slice Try.underlying25 (hval 0 25 v0 rfl rfl)
  have y0 : len0 * 40 ≤ 140737488351232 := Rw.slice_sized hsz (j := 0) (t := 25) rfl rfl Try.underlying25 h0
  obtain ⟨l0, rfl, hc0, hr0, w0⟩ := Rw.slice_in (Rw.opens_slice Try.underlying25 (by kernel_rfl) opens37) h0
  clear hA0 hval0 hsz0 hsz
  refine (calls _ _ l0 W hr0 hc0).mono fun e W' ⟨he, bel⟩ => ?_
  subst he
  exact ⟨_, rfl, _, _, _, [], _, [], hW', trodAll_mk1 (shut_bool Try.underlying4 _), (trodAll_cons_mk (Below.trod laidOut (by kernel_rfl) (of_decide_eq_true (by kernel_rfl)) k0 bel lt0) trodAll_mk0), rfl, bel.frame _, fun h => by cases h⟩
theorem over : Rows.runKeepsRow.holds Try.pinned (OpenSpec.ofChange Rows.runKeepsSpec) :=
  OpenClaim.holds_of_wide 8 Try.f8 rfl rfl rfl rfl rfl rfl rfl ⟨rfl, rfl, rfl, rfl, rfl⟩ rfl rfl rfl rfl rfl (by kernel_rfl) Try.func8 (by kernel_rfl)
    (of_decide_eq_true (by kernel_rfl)) (by unfold Func.isWrapper; first | (rw [if_pos (by decide +kernel)]; kernel_rfl) | (rw [if_neg (by decide +kernel)]; exact ⟨rfl, rfl⟩))
    (fun os started H enc _ => lifted os started H enc)
theorem proved : Rows.RunKeepsSaid := over
#print axioms proved
end Go.Proofs.Ytkkfkccfnfjbiaa.runKeeps
namespace Go.Proofs.Ytkkfkccfnfjbiaa
/-- The row, under a short name, for the claim. -/
theorem runKeeps_holds : Rows.RunKeepsSaid := runKeeps.proved
end Go.Proofs.Ytkkfkccfnfjbiaa
