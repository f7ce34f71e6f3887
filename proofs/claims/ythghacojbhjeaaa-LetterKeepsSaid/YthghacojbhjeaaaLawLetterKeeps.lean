-- Written by a program of this session for this claim (mp.py, over the kit's print); Lean checks it.
import Derived.Test.YthghacojbhjeaaaRows
import Derived.Test.YthghacojbhjeaaaLo
import Derived.Test.YthghacojbhjeaaaPureLetterKeeps
import Derived.Test.YthghacojbhjeaaaRw
import Derived.Test.YthghacojbhjeaaaRs
import Derived.WalkKit
import Derived.ProofKit
import Derived.OpenShut
import Derived.ShutString
import Derived.ChangeOld
import Derived.Below
import Derived.SizedLaws
import Derived.Lib.SmallJoins
namespace Go.Proofs.Ythghacojbhjeaaa.letterKeeps
open Go.ChangeShapes Go.WideShapes Go.ChangeAt Go.RowKit Go.Proofs.Ythghacojbhjeaaa Go.Proofs.YthghacojbhjeaaaW.PrintWords Go.Proofs.Ythghacojbhjeaaa.Rs Go.Proofs.Ythghacojbhjeaaa.PKp
open Go.ChangeMaps (open_string shut_string)
set_option linter.unusedVariables false
theorem own : ownKnob Try.prog.godebug = none := by kernel_rfl
theorem laidOut : laidOutB Try.prog = true := by kernel_rfl
set_option maxRecDepth 100000 in
theorem lifted (os : Os) (started : os.Started) (H : Type) (enc : TypeId × Value → H) :
    ReturnsInHanded {} Try.checked os 6 .any (Rows.letterKeepsSpec.pre6 enc Try.prog Try.f6 Rows.letterKeepsRow.domain false) (Rows.letterKeepsSpec.post enc Try.prog Try.f6 false true false false) := by
  refine returnsInHanded_of_change_sized (C := Try.checked) own started (by kernel_rfl) Try.func6
    (ChangeSpec.witness6 (enc := enc) (C := Try.checked) false ⟨#[], #[.agg #[.int .i64 0, .int .i64 0, .int .i64 0, .int .i64 0, .int .i64 0, .int .i64 0, .int .i64 0, .string ByteArray.empty, .string ByteArray.empty, .slice none 0 0, .slice none 0 0, .int .i64 0, .bool false, .string ByteArray.empty], .agg #[.int .i64 0, .int .i64 0, .int .i64 0, .int .i64 0, .int .i64 0, .int .i64 0, .int .i64 0, .string ByteArray.empty, .string ByteArray.empty, .slice none 0 0, .slice none 0 0, .int .i64 0, .bool false, .string ByteArray.empty]], []⟩ 8 (by kernel_rfl) (by kernel_rfl) (by kernel_rfl) (by kernel_rfl)) ?_
  intro W base args ds gs before hval0 hW hcnd hsz0 _
  have hsz : (DataW.weightsEach Try.prog (Try.f6.params.toList ++ Rows.letterKeepsSpec.plain.varTypes Try.prog) (ds ++ gs)).all (· ≤ reachBytes) = true := hsz0
  have hval : ∀ (j : Nat) t v, Try.f6.params[j]? = some t → args[j]? = some v → Value.okWide Try.prog W .any base t v := hval0
  have hW' := hW
  obtain ⟨p, q, hA0, hV, rfl, hfz, hnd⟩ := hW
  have hA : DataW.TrodAll enc Try.prog W 0 (fun _ => true) true Try.f6.params.toList args.toList ds p := hA0
  rw [Try.params6] at hA hval hsz
  obtain ⟨v0, vs0, d0, ds0, p0, q0, hargs, rfl, rfl, h0, r0⟩ := trodAll_cons hA
  obtain ⟨v1, vs1, d1, ds1, p1, q1, rfl, rfl, rfl, h1, r1⟩ := trodAll_cons r0
  obtain ⟨rfl, rfl, rfl⟩ := trodAll_nil r1
  obtain rfl : args = #[v0, v1] := by cases args; simp_all
  obtain ⟨rfl, rfl⟩ := trodVars_none hV
  have k0 := h0
  have lt0 : ∀ x ∈ p0, x.block < W.heap.size := by obtain ⟨m, hm⟩ := k0; exact DataW.trod_lt m _ _ _ hm
  obtain ⟨cs0, rfl, hcs0⟩ := okWide_struct Try.underlying27 (hval 0 27 v0 rfl rfl)
  obtain ⟨x0, K0, w0⟩ : ∃ x, k27.K W x cs0.toList ∧ WF27 x := by obtain ⟨fuel, hf⟩ := h0; exact opens27 H enc W true fuel _ _ hf
  obtain ⟨A0_9, c0_9, A0_10, c0_10, e0, hc0_9, hr0_9, hc0_10, hr0_10⟩ := k27_open K0
  obtain rfl : cs0 = #[.int .i64 x0.f0, .int .i64 x0.f1, .int .i64 x0.f2, .int .i64 x0.f3, .int .i64 x0.f4, .int .i64 x0.f5, .int .i64 x0.f6, .string x0.f7, .string x0.f8, .slice A0_9 x0.f9.length c0_9, .slice A0_10 x0.f10.length c0_10, .int .i64 x0.f11, .bool x0.f12, .string x0.f13] := Array.toList_inj.1 e0
  have k1 := h1
  have lt1 : ∀ x ∈ p1, x.block < W.heap.size := by obtain ⟨m, hm⟩ := k1; exact DataW.trod_lt m _ _ _ hm
  obtain ⟨cs1, rfl, hcs1⟩ := okWide_struct Try.underlying27 (hval 1 27 v1 rfl rfl)
  obtain ⟨x1, K1, w1⟩ : ∃ x, k27.K W x cs1.toList ∧ WF27 x := by obtain ⟨fuel, hf⟩ := h1; exact opens27 H enc W true fuel _ _ hf
  obtain ⟨A1_9, c1_9, A1_10, c1_10, e1, hc1_9, hr1_9, hc1_10, hr1_10⟩ := k27_open K1
  obtain rfl : cs1 = #[.int .i64 x1.f0, .int .i64 x1.f1, .int .i64 x1.f2, .int .i64 x1.f3, .int .i64 x1.f4, .int .i64 x1.f5, .int .i64 x1.f6, .string x1.f7, .string x1.f8, .slice A1_9 x1.f9.length c1_9, .slice A1_10 x1.f10.length c1_10, .int .i64 x1.f11, .bool x1.f12, .string x1.f13] := Array.toList_inj.1 e1
  clear hA0 hval0 hsz0 hsz
  obtain ⟨k, la, lb, ep, ei, haw, hla, hlb, hsm, hrest⟩ := Pure.LetterKeeps x0 x1
  refine (Lo.keeps_v k W x0 x1 A0_9 A0_10 A1_9 A1_10 c0_9 c0_10 c1_9 c1_10 la lb ep ei hr0_9 hc0_9 hr0_10 hc0_10 hr1_9 hc1_9 hr1_10 hc1_10 haw hla hlb hsm hrest).mono fun e W' ⟨he, bel⟩ => ?_
  subst he
  exact ⟨_, rfl, _, _, _, [], _, [], hW', trodAll_mk1 (shut_bool Try.underlying4 _), (trodAll_cons_mk (Below.trod laidOut (by kernel_rfl) (of_decide_eq_true (by kernel_rfl)) k0 bel lt0) (trodAll_cons_mk (Below.trod laidOut (by kernel_rfl) (of_decide_eq_true (by kernel_rfl)) k1 bel lt1) trodAll_mk0)), rfl, bel.frame _, fun h => by cases h⟩
theorem over : Rows.letterKeepsRow.holds Try.pinned (OpenSpec.ofChange Rows.letterKeepsSpec) :=
  OpenClaim.holds_of_wide 6 Try.f6 rfl rfl rfl rfl rfl rfl rfl ⟨rfl, rfl, rfl, rfl, rfl⟩ rfl rfl rfl rfl rfl (by kernel_rfl) Try.func6 (by kernel_rfl)
    (of_decide_eq_true (by kernel_rfl)) (by unfold Func.isWrapper; first | (rw [if_pos (by decide +kernel)]; kernel_rfl) | (rw [if_neg (by decide +kernel)]; exact ⟨rfl, rfl⟩))
    (fun os started H enc _ => lifted os started H enc)
theorem proved : Rows.LetterKeepsSaid := over
#print axioms proved
end Go.Proofs.Ythghacojbhjeaaa.letterKeeps
namespace Go.Proofs.Ythghacojbhjeaaa
/-- The row, under a short name, for the claim. -/
theorem letterKeeps_holds : Rows.LetterKeepsSaid := letterKeeps.proved
end Go.Proofs.Ythghacojbhjeaaa
