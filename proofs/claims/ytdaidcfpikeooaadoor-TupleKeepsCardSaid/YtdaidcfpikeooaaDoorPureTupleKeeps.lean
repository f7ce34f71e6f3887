/- DERIVED. What is handed in stays; what is answered is new memory. Conditions: those of the statement. -/
import Derived.Test.YtdaidcfpikeooaaDoorPAllx10
import Derived.Test.YtdaidcfpikeooaaDoorPAllx6
import Derived.Test.YtdaidcfpikeooaaDoorTu
import Derived.Test.YtdaidcfpikeooaaDoorRs
namespace Go.Proofs.YtdaidcfpikeooaaDoor.Pure
open Go.RowKit Go.Proofs.YtdaidcfpikeooaaDoor.PAll Go.Proofs.YtdaidcfpikeooaaDoorW.PrintWords Go.Proofs.YtdaidcfpikeooaaDoorW.PrintLast Go.Proofs.YtdaidcfpikeooaaDoor.Hl Go.Proofs.YtdaidcfpikeooaaDoor.Tl Go.Proofs.YtdaidcfpikeooaaDoor.Tb Go.Proofs.YtdaidcfpikeooaaDoor.Tk Go.Proofs.YtdaidcfpikeooaaDoor.Tr Go.Proofs.YtdaidcfpikeooaaDoor.Tu Go.Proofs.YtdaidcfpikeooaaDoor.Rs
set_option linter.unusedSimpArgs false
set_option linter.unusedVariables false
theorem awake_TupleKeeps : Ev (fun k => shelfmarklaw03_awake.f k) true := Ev.of shelfmarklaw03_awake.mono (k := 30) (by decide +kernel)
theorem keeps_l0 (a m : List S37) (hm : Ev (fun k => shelfmarkref03_Same.f k m a) true) : ∀ (n i : Nat) (l : List S37), i + n = l.length → l.length ≤ 4 → Ev (fun k => shelfmarklaw03_TupleKeeps.l0 k a l m (i : Int)) true
  | 0, i, l, h, hl => by
    refine Ev.step (fun _ => shelfmarklaw03_TupleKeeps.l0.eq_2 ..) ?_
    simp only [if_neg (show ¬ (i : Int) < (l.length : Int) by omega), if_pos (show l.length < 4398046511104 by omega)]
    refine Ev.bind hm ?_
    exact Ev.now _
  | n + 1, i, l, h, hl => by
    refine Ev.step (fun _ => shelfmarklaw03_TupleKeeps.l0.eq_2 ..) ?_
    simp only [if_pos (show (i : Int) < (l.length : Int) by omega), if_pos (show (0 : Int) ≤ (i : Int) by omega)]
    rw [w64 (by omega) (by omega)]
    exact keeps_l0 a m hm n (i + 1) _ (by rw [List.length_set]; omega) (by rw [List.length_set]; omega)
theorem range_of {l : List S37} (h : ∀ x ∈ l, WF37 x) : ∀ v ∈ l, -9223372036854775808 ≤ v.f1 ∧ v.f1 < 9223372036854775808 := by
  intro v hv
  have := (h v hv).2.1
  simp [Lit.wf, IntKind.has, IntKind.min, IntKind.max, IntKind.bits, IntKind.signed] at this
  omega
theorem TupleKeeps (l0 : List (S37)) (w0 : l0.length ≤ maxLen ∧ ∀ x ∈ l0, WF37 x) (y0 : l0.length * 32 ≤ 140737488351232) : ∃ k, shelfmarklaw03_TupleKeeps.f k l0 = some true := by
  refine Ev.rounds ?_
  unfold shelfmarklaw03_TupleKeeps.f
  refine Ev.bind awake_TupleKeeps ?_
  simp only [if_true]
  refine Ev.bind (light_ev l0 200 (by omega)) ?_
  by_cases h : lightB 200 l0 0 0 = true
  · simp only [h, if_true, Option.bind_some, List.length_nil, List.nil_append, Nat.zero_add]
    simp only [if_pos (show l0.length < 4398046511104 by omega), List.length_append, List.length_cons, List.length_nil, if_pos (show (0 : Int) ≤ (l0.length : Int) by omega), if_pos (show (l0.length : Int) ≤ ((l0.length + (0 + 1) : Nat) : Int) by omega), Int.toNat_natCast, List.take_left, if_pos (show (l0.length : Int) < ((l0.length + (0 + 1) : Nat) : Int) by omega)]
    refine Ev.bind (key_ev l0) ?_
    have hrd : (rd_T37 (l0 ++ [(⟨7, 0, (⟨#[]⟩ : ByteArray)⟩ : S37)]) (l0.length : Int)).f0 = 7 := by
      rw [rd_get _ _ (by simp)]; simp
    simp only [hrd, if_true]
    refine Ev.bind (same_ev l0 (by omega)) ?_
    refine Ev.step (fun _ => shelfmarklaw03_TupleKeeps.j0.eq_2 ..) ?_
    simp only [Bool.not_true, Bool.false_eq_true, if_false]
    unfold keyR
    by_cases hr : rowE l0 = 0
    · obtain ⟨hl, hg⟩ := row_ok hr
      simp only [hr, if_true]
      have hk := key_bytes l0
      have hsz : (strOfNums (keyL l0)).size ≤ 140737488351232 := by
        rw [← data_length, hk]
        have : (rowB l0).length ≤ 67 * l0.length := by
          clear hk h y0 w0 hr hl hrd
          induction l0 with
          | nil => simp [rowB]
          | cons v t ih =>
            rw [List.all_cons, Bool.and_eq_true] at hg
            have h1 := ih hg.2
            have h2 := form_len v hg.1
            rw [← formB_length] at h2
            simp only [rowB, List.flatMap_cons, List.length_append, List.length_cons] at *
            omega
        omega
      have hc := cut_put [] (.inl rfl) l0 4 (strOfNums (keyL l0)) [] hl hg (range_of w0.2) (by rw [hk, List.append_nil])
      have hv : valsR (strOfNums (keyL l0)) = (l0, 0) := by
        unfold valsR
        rw [hc]
        have : (⟨([] : List UInt8).toArray⟩ : ByteArray).toList = [] := by rw [Lib.toList_data]
        simp [this]
      have hV := vals_ev _ hsz
      rw [hv] at hV
      refine Ev.bind hV ?_
      refine Ev.bind hV ?_
      exact keeps_l0 l0 l0 (same_ev l0 (by omega)) l0.length 0 l0 (by omega) hl
    · simp only [if_neg hr]
      have : (⟨#[]⟩ : ByteArray).toList = ([] : List UInt8) := by rw [Lib.toList_data]
      rw [this]
      simpa using Ev.now true
  · have h' : lightB 200 l0 0 0 = false := by simpa using h
    simp only [h', Bool.false_eq_true, if_false]
    exact Ev.now _
end Go.Proofs.YtdaidcfpikeooaaDoor.Pure
