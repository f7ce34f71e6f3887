/- DERIVED. RunGroups answers true at all inputs. Conditions: none but those of the statement. -/
import Derived.Test.YtkkfkccfnfjbiaaRows
import Derived.Test.YtkkfkccfnfjbiaaGb
import Derived.Test.YtkkfkccfnfjbiaaPureRunGroups
import Derived.Test.YtkkfkccfnfjbiaaRw
import Derived.Test.YtkkfkccfnfjbiaaRs
import Derived.WalkKit
import Derived.ProofKit
import Derived.OpenShut
import Derived.ShutString
import Derived.ChangeOld
import Derived.Below
import Derived.SizedLaws
import Derived.Lib.SmallJoins
namespace Go.Proofs.Ytkkfkccfnfjbiaa.runGroups
open Go.ChangeShapes Go.WideShapes Go.ChangeAt Go.RowKit Go.Proofs.Ytkkfkccfnfjbiaa Go.Proofs.YtkkfkccfnfjbiaaW.PrintWords Go.Proofs.Ytkkfkccfnfjbiaa.Rs Go.Proofs.Ytkkfkccfnfjbiaa.PGr
open Go.ChangeMaps (open_string shut_string)
set_option linter.unusedVariables false
theorem own : ownKnob Try.prog.godebug = none := by kernel_rfl
theorem laidOut : laidOutB Try.prog = true := by kernel_rfl
/-- The call, whatever is handed in. -/
theorem calls (A0 A1 A2 : Option Addr) (c0 c1 c2 : Nat) (a b c : List S37) (at_ : ByteArray) (w : World) (ha : k37.C w A0 a.length a) (hca : a.length ≤ c0) (hb : k37.C w A1 b.length b) (hcb : b.length ≤ c1) (hc : k37.C w A2 c.length c) (hcc : c.length ≤ c2) :
    Calls Try.prog 7 #[.slice A0 a.length c0, .slice A1 b.length c1, .slice A2 c.length c2, .string at_] w fun e w' => e = .returned (.bool true) ∧ Below w.heap.size w w' := by
  have hne : (⟨#[97]⟩ : ByteArray).toList ≠ [] := by decide +kernel
  by_cases hnil : at_.toList = []
  · obtain ⟨k, h1, h2 | ⟨h2, x, y, z, p, q, r, s, t, low, high, u, f3, f4, f5, f6, f7, f8, f9, f10, f11, f12, f13, f14, f15, f16, hlen, hsm⟩⟩ := Pure.RunGroups a b c ⟨#[97]⟩ hne
    · exact Gb.dark k A0 A1 A2 c0 c1 c2 a b c at_ w ha hca hb hcb hc hcc h1 h2
    · by_cases hbig : (at_.size : Int) > 1000
      · exact Gb.long k A0 A1 A2 c0 c1 c2 a b c at_ w ha hca hb hcb hc hcc h1 h2 hbig
      · exact Gb.bare k A0 A1 A2 c0 c1 c2 a b c x y z p q r s t at_ w ha hca hb hcb hc hcc h1 h2 hbig f3 f4 f5 f6 f7 f8 f9 f10 f11 f12 hnil
  · obtain ⟨k, h1, h2 | ⟨h2, x, y, z, p, q, r, s, t, low, high, u, f3, f4, f5, f6, f7, f8, f9, f10, f11, f12, f13, f14, f15, f16, hlen, hsm⟩⟩ := Pure.RunGroups a b c at_ hnil
    · exact Gb.dark k A0 A1 A2 c0 c1 c2 a b c at_ w ha hca hb hcb hc hcc h1 h2
    · by_cases hbig : (at_.size : Int) > 1000
      · exact Gb.long k A0 A1 A2 c0 c1 c2 a b c at_ w ha hca hb hcb hc hcc h1 h2 hbig
      · refine Gb.whole k (run_Slice.f k) (fun A cc l lo hi r w hC hl hf => ?_) A0 A1 A2 c0 c1 c2 a b c x y z p q r s t low high u at_ w ha hca hb hcb hc hcc h1 h2 hbig f3 f4 f5 f6 f7 f8 f9 f10 f11 f12 hnil f13 f14 f15 f16 hlen hsm
        exact run_Slice.calls k A cc l lo hi r w hC hl hf
set_option maxRecDepth 100000 in
theorem lifted (os : Os) (started : os.Started) (H : Type) (enc : TypeId × Value → H) :
    ReturnsInHanded {} Try.checked os 7 .any (Rows.runGroupsSpec.pre6 enc Try.prog Try.f7 Rows.runGroupsRow.domain false) (Rows.runGroupsSpec.post enc Try.prog Try.f7 false true false false) := by
  refine returnsInHanded_of_change_sized (C := Try.checked) own started (by kernel_rfl) Try.func7
    (ChangeSpec.witness6 (enc := enc) (C := Try.checked) false ⟨#[], #[.slice none 0 0, .slice none 0 0, .slice none 0 0, .string ByteArray.empty], []⟩ 8 (by kernel_rfl) (by kernel_rfl) (by kernel_rfl) (by kernel_rfl)) ?_
  intro W base args ds gs before hval0 hW hcnd hsz0 _
  have hval : ∀ (j : Nat) t v, Try.f7.params[j]? = some t → args[j]? = some v → Value.okWide Try.prog W .any base t v := hval0
  have hW' := hW
  obtain ⟨p, q, hA0, hV, rfl, hfz, hnd⟩ := hW
  have hA : DataW.TrodAll enc Try.prog W 0 (fun _ => true) true Try.f7.params.toList args.toList ds p := hA0
  rw [Try.params7] at hA hval
  obtain ⟨v0, vs0, d0, ds0, p0, q0, hargs, rfl, rfl, h0, r0⟩ := trodAll_cons hA
  obtain ⟨v1, vs1, d1, ds1, p1, q1, rfl, rfl, rfl, h1, r1⟩ := trodAll_cons r0
  obtain ⟨v2, vs2, d2, ds2, p2, q2, rfl, rfl, rfl, h2, r2⟩ := trodAll_cons r1
  obtain ⟨v3, vs3, d3, ds3, p3, q3, rfl, rfl, rfl, h3, r3⟩ := trodAll_cons r2
  obtain ⟨rfl, rfl, rfl⟩ := trodAll_nil r3
  obtain rfl : args = #[v0, v1, v2, v3] := by cases args; simp_all
  obtain ⟨rfl, rfl⟩ := trodVars_none hV
  have k0 := h0
  have lt0 : ∀ x ∈ p0, x.block < W.heap.size := by obtain ⟨m, hm⟩ := k0; exact DataW.trod_lt m _ _ _ hm
  obtain ⟨A0, len0, c0, rfl⟩ := okWide_slice Try.underlying25 (hval 0 25 v0 rfl rfl)
  obtain ⟨l0, rfl, hc0, hr0, w0⟩ := Rw.slice_in (Rw.opens_slice Try.underlying25 (by kernel_rfl) opens37) h0
  have k1 := h1
  have lt1 : ∀ x ∈ p1, x.block < W.heap.size := by obtain ⟨m, hm⟩ := k1; exact DataW.trod_lt m _ _ _ hm
  obtain ⟨A1, len1, c1, rfl⟩ := okWide_slice Try.underlying25 (hval 1 25 v1 rfl rfl)
  obtain ⟨l1, rfl, hc1, hr1, w1⟩ := Rw.slice_in (Rw.opens_slice Try.underlying25 (by kernel_rfl) opens37) h1
  have k2 := h2
  have lt2 : ∀ x ∈ p2, x.block < W.heap.size := by obtain ⟨m, hm⟩ := k2; exact DataW.trod_lt m _ _ _ hm
  obtain ⟨A2, len2, c2, rfl⟩ := okWide_slice Try.underlying25 (hval 2 25 v2 rfl rfl)
  obtain ⟨l2, rfl, hc2, hr2, w2⟩ := Rw.slice_in (Rw.opens_slice Try.underlying25 (by kernel_rfl) opens37) h2
  obtain ⟨a3, rfl, rfl, rfl, z3⟩ := open_string Try.underlying9 (hval 3 9 v3 rfl rfl) h3
  clear hA0 hval0 hsz0
  refine (calls _ _ _ _ _ _ l0 l1 l2 a3 W hr0 hc0 hr1 hc1 hr2 hc2).mono fun e W' ⟨he, bel⟩ => ?_
  subst he
  exact ⟨_, rfl, _, _, _, [], _, [], hW', trodAll_mk1 (shut_bool Try.underlying4 _), (trodAll_cons_mk (Below.trod laidOut (by kernel_rfl) (of_decide_eq_true (by kernel_rfl)) k0 bel lt0) (trodAll_cons_mk (Below.trod laidOut (by kernel_rfl) (of_decide_eq_true (by kernel_rfl)) k1 bel lt1) (trodAll_cons_mk (Below.trod laidOut (by kernel_rfl) (of_decide_eq_true (by kernel_rfl)) k2 bel lt2) (trodAll_cons_mk (shut_string Try.underlying9 z3) trodAll_mk0)))), rfl, bel.frame _, fun h => by cases h⟩
theorem over : Rows.runGroupsRow.holds Try.pinned (OpenSpec.ofChange Rows.runGroupsSpec) :=
  OpenClaim.holds_of_wide 7 Try.f7 rfl rfl rfl rfl rfl rfl rfl ⟨rfl, rfl, rfl, rfl, rfl⟩ rfl rfl rfl rfl rfl (by kernel_rfl) Try.func7 (by kernel_rfl)
    (of_decide_eq_true (by kernel_rfl)) (by unfold Func.isWrapper; first | (rw [if_pos (by decide +kernel)]; kernel_rfl) | (rw [if_neg (by decide +kernel)]; exact ⟨rfl, rfl⟩))
    (fun os started H enc _ => lifted os started H enc)
theorem proved : Rows.RunGroupsSaid := over
#print axioms proved
end Go.Proofs.Ytkkfkccfnfjbiaa.runGroups
namespace Go.Proofs.Ytkkfkccfnfjbiaa
/-- The row, under a short name, for the claim. -/
theorem runGroups_holds : Rows.RunGroupsSaid := runGroups.proved
end Go.Proofs.Ytkkfkccfnfjbiaa
