-- Written by a program of this session for this claim (mp.py, over the kit's print); Lean checks it.
import Derived.Test.YtieifhjjjlmkbaaDoorTie
import Derived.Test.YtieifhjjjlmkbaaDoorCards
import Derived.LaidMore
import Derived.Lay
import Derived.SevenTiedAt
import Derived.Stop.Joined
import Derived.Test.YtieifhjjjlmkbaaDoorRows
import Derived.Test.YtieifhjjjlmkbaaDoorPOrdx12
import Derived.Test.YtieifhjjjlmkbaaDoorPureRecordOrder
import Derived.Test.YtieifhjjjlmkbaaDoorRw
import Derived.Test.YtieifhjjjlmkbaaDoorRs
import Derived.WalkKit
import Derived.ProofKit
import Derived.OpenShut
import Derived.ShutString
import Derived.ChangeOld
import Derived.Below
import Derived.SizedLaws
import Derived.Lib.SmallJoins
namespace Go.Proofs.YtieifhjjjlmkbaaDoor.recordOrder
open Go.ChangeShapes Go.WideShapes Go.ChangeAt Go.RowKit Go.Proofs.YtieifhjjjlmkbaaDoor Go.Proofs.YtieifhjjjlmkbaaDoorW.PrintWords Go.Proofs.YtieifhjjjlmkbaaDoor.Rs Go.Proofs.YtieifhjjjlmkbaaDoor.POrd
open Go.ChangeMaps (open_string shut_string)
set_option linter.unusedVariables false
theorem own : ownKnob Tryd.prog.godebug = none := by kernel_rfl
theorem laidOut : laidOutB Tryd.prog = true := by kernel_rfl
set_option maxRecDepth 100000 in
theorem lifted (os : Os) (started : os.Started) (H : Type) (enc : TypeId × Value → H) :
    ReturnsInHanded {} Tryd.checked os 4 .any (fun w args => (Rows.recordOrderSpec.pre enc Tryd.prog Tryd.f4 Rows.recordOrderRow.domain false w args ∧ laidMetH Tryd.prog Rows.recordOrderRow.laid w) ∧ sizedMet enc Tryd.prog Tryd.f4 (OpenSpec.ofChange Rows.recordOrderSpec) false w args) (Rows.recordOrderSpec.post enc Tryd.prog Tryd.f4 false true false false) := by
  refine returnsInHanded_of_change_and (C := Tryd.checked) (X := fun w _ => laidMetH Tryd.prog Rows.recordOrderRow.laid w) (fun _ _ _ hh h => h.of_heap hh) own started (by kernel_rfl) Tryd.func4
    (ChangeSpec.witness_shaped (enc := enc) (C := Tryd.checked) (os := os) (X := fun w _ => laidMetH Tryd.prog Rows.recordOrderRow.laid w) false (World.laidAll Tryd.prog os Rows.recordOrderRow.laid) #[.agg #[.int .i64 0, .int .i64 0], .slice none 0 0, .slice none 0 0, .agg #[.string ByteArray.empty, .string ByteArray.empty]] 8 (World.laidAll_os _ _ _)
      (World.shaped_of_ZipB (by kernel_rfl) (by kernel_rfl)) (by kernel_rfl) (by kernel_rfl) (by kernel_rfl)
      (by rw [MakeChecks.laidMetH_plain _ _ _ (by kernel_rfl)]; exact laidMet_laidAll _ (by kernel_rfl) (by kernel_rfl))) ?_
  intro W base args ds gs before hval0 hW hcnd hsz0 _ _
  have hsz : (DataW.weightsEach Tryd.prog (Tryd.f4.params.toList ++ Rows.recordOrderSpec.plain.varTypes Tryd.prog) (ds ++ gs)).all (· ≤ reachBytes) = true := hsz0
  have hval : ∀ (j : Nat) t v, Tryd.f4.params[j]? = some t → args[j]? = some v → Value.okWide Tryd.prog W .any base t v := hval0
  have hW' := hW
  obtain ⟨p, q, hA0, hV, rfl, hfz, hnd⟩ := hW
  have hA : DataW.TrodAll enc Tryd.prog W 0 (fun _ => true) true Tryd.f4.params.toList args.toList ds p := hA0
  rw [Tryd.params4] at hA hval hsz
  obtain ⟨v0, vs0, d0, ds0, p0, q0, hargs, rfl, rfl, h0, r0⟩ := trodAll_cons hA
  obtain ⟨v1, vs1, d1, ds1, p1, q1, rfl, rfl, rfl, h1, r1⟩ := trodAll_cons r0
  obtain ⟨v2, vs2, d2, ds2, p2, q2, rfl, rfl, rfl, h2, r2⟩ := trodAll_cons r1
  obtain ⟨v3, vs3, d3, ds3, p3, q3, rfl, rfl, rfl, h3, r3⟩ := trodAll_cons r2
  obtain ⟨rfl, rfl, rfl⟩ := trodAll_nil r3
  obtain rfl : args = #[v0, v1, v2, v3] := by cases args; simp_all
  obtain ⟨rfl, rfl⟩ := trodVars_none hV
  have k0 := h0
  have lt0 : ∀ x ∈ p0, x.block < W.heap.size := by obtain ⟨m, hm⟩ := k0; exact DataW.trod_lt m _ _ _ hm
  obtain ⟨cs0, rfl, hcs0, _⟩ : ∃ cs, v0 = .agg cs ∧ cs.size = Tryd.prog.cellsOf 34 ∧ True := by have z := (hval 0 34 v0 rfl rfl); simp only [Value.okWide, Tryd.underlying34] at z; obtain ⟨cs, z1, z2, _⟩ := z; exact ⟨cs, z1, z2, trivial⟩
  obtain ⟨x0, K0, w0⟩ : ∃ x, k34.K W x cs0.toList ∧ WF34 x := by obtain ⟨fuel, hf⟩ := h0; exact opens34 H enc W true fuel _ _ hf
  have e0 := k34_open K0
  obtain rfl : cs0 = #[.int .i64 x0.f0, .int .i64 x0.f1] := Array.toList_inj.1 e0
  have k1 := h1
  have lt1 : ∀ x ∈ p1, x.block < W.heap.size := by obtain ⟨m, hm⟩ := k1; exact DataW.trod_lt m _ _ _ hm
  obtain ⟨A1, len1, c1, rfl⟩ := okWide_slice Tryd.underlying25 (hval 1 25 v1 rfl rfl)
  have y1 : len1 * 32 ≤ 140737488351232 := Rw.slice_sized hsz (j := 1) (t := 25) rfl rfl Tryd.underlying25 h1
  obtain ⟨l1, rfl, hc1, hr1, w1⟩ := Rw.slice_in (Rw.opens_slice Tryd.underlying25 (by kernel_rfl) opens41) h1
  have k2 := h2
  have lt2 : ∀ x ∈ p2, x.block < W.heap.size := by obtain ⟨m, hm⟩ := k2; exact DataW.trod_lt m _ _ _ hm
  obtain ⟨A2, len2, c2, rfl⟩ := okWide_slice Tryd.underlying25 (hval 2 25 v2 rfl rfl)
  have y2 : len2 * 32 ≤ 140737488351232 := Rw.slice_sized hsz (j := 2) (t := 25) rfl rfl Tryd.underlying25 h2
  obtain ⟨l2, rfl, hc2, hr2, w2⟩ := Rw.slice_in (Rw.opens_slice Tryd.underlying25 (by kernel_rfl) opens41) h2
  have k3 := h3
  have lt3 : ∀ x ∈ p3, x.block < W.heap.size := by obtain ⟨m, hm⟩ := k3; exact DataW.trod_lt m _ _ _ hm
  obtain ⟨cs3, rfl, hcs3, _⟩ : ∃ cs, v3 = .agg cs ∧ cs.size = Tryd.prog.cellsOf 35 ∧ True := by have z := (hval 3 35 v3 rfl rfl); simp only [Value.okWide, Tryd.underlying35] at z; obtain ⟨cs, z1, z2, _⟩ := z; exact ⟨cs, z1, z2, trivial⟩
  obtain ⟨x3, K3, w3⟩ : ∃ x, k35.K W x cs3.toList ∧ WF35 x := by obtain ⟨fuel, hf⟩ := h3; exact opens35 H enc W true fuel _ _ hf
  have e3 := k35_open K3
  obtain rfl : cs3 = #[.string x3.f0, .string x3.f1] := Array.toList_inj.1 e3
  clear hA0 hval0 hsz0 hsz
  obtain ⟨k, hp⟩ := Pure.RecordOrder x0 w0 l1 w1 y1 l2 w2 y2 x3 w3
  refine (POrd.shelfmarklaw04_RecordOrder.calls k x0.f0 x0.f1 _ _ l1 _ _ l2 x3.f0 x3.f1 true W hr1 hc1 hr2 hc2 hp).mono fun e W' ⟨he, bel⟩ => ?_
  subst he
  exact ⟨_, rfl, _, _, _, [], _, [], hW', trodAll_mk1 (shut_bool Tryd.underlying4 _), (trodAll_cons_mk (Below.trod laidOut (by kernel_rfl) (of_decide_eq_true (by kernel_rfl)) k0 bel lt0) (trodAll_cons_mk (Below.trod laidOut (by kernel_rfl) (of_decide_eq_true (by kernel_rfl)) k1 bel lt1) (trodAll_cons_mk (Below.trod laidOut (by kernel_rfl) (of_decide_eq_true (by kernel_rfl)) k2 bel lt2) (trodAll_cons_mk (Below.trod laidOut (by kernel_rfl) (of_decide_eq_true (by kernel_rfl)) k3 bel lt3) trodAll_mk0)))), rfl, bel.frame _, fun h => by cases h⟩
theorem over : Rows.recordOrderRow.holds Tryd.pinned (OpenSpec.ofChange Rows.recordOrderSpec) :=
  OpenClaim.holds_of_wide 4 Tryd.f4 rfl rfl rfl rfl rfl rfl rfl ⟨rfl, rfl, rfl, rfl, rfl⟩ rfl rfl rfl rfl rfl (by kernel_rfl) Tryd.func4 (by kernel_rfl)
    (of_decide_eq_true (by kernel_rfl)) (by unfold Func.isWrapper; first | (rw [if_pos (by decide +kernel)]; kernel_rfl) | (rw [if_neg (by decide +kernel)]; exact ⟨rfl, rfl⟩))
    (fun os started H enc _ => lifted os started H enc)
theorem proved : Rows.RecordOrderSaid := over
#print axioms proved
end Go.Proofs.YtieifhjjjlmkbaaDoor.recordOrder
namespace Go.Proofs.YtieifhjjjlmkbaaDoor
/-- The tied card: the law's row, its listed variables tied to the program's text by the given tie. -/
theorem recordOrder_holds : Rows.RecordOrderCardSaid :=
  Claim7.holds_tied_plain_at .later [] [.data, .pinned] true (true, "1387506f5e06ffea3a66f3dced7b306cf36551a5d7a22201a43aa6f468224a34") false
    recordOrder.proved (fun _ h => by cases h) (by kernel_rfl) (fun _ h => by cases h) recordOrder_row_tie rfl ⟨rfl, rfl⟩ (by kernel_rfl) rfl
    (fun f fn hf hfn => by
      obtain rfl : f = 4 := Option.some.inj ((show Tryd.prog.funcNamed "shelfmark/shelfmarklaw04.RecordOrder" = some 4 by kernel_rfl).symm.trans hf) |>.symm
      obtain rfl : fn = Tryd.f4 := (Option.some.inj (Tryd.func4.symm.trans hfn)).symm
      exact ⟨by kernel_rfl, fun j t ht => by
        rw [Tryd.params4] at ht
        have hm : t ∈ [34, 25, 25, 35] := by simpa using Array.mem_of_getElem? ht
        have hall : ([34, 25, 25, 35].all fun u => !Tryd.prog.wantsStandIn u) = true := by kernel_rfl
        exact (show Tryd.prog.wantsStandIn t = false by simpa using List.all_eq_true.1 hall t hm)⟩)
    (by kernel_rfl)
#print axioms recordOrder_holds
end Go.Proofs.YtieifhjjjlmkbaaDoor
