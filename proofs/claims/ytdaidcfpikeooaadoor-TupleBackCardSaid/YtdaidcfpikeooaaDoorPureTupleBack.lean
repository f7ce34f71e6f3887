/- DERIVED. Rows that were put are read as they were; what is read, put anew, is what was read. Conditions: those of the statement. -/
import Derived.Test.YtdaidcfpikeooaaDoorPAllx8
import Derived.Test.YtdaidcfpikeooaaDoorPAllx6
import Derived.Test.YtdaidcfpikeooaaDoorTv
import Derived.Test.YtdaidcfpikeooaaDoorRs
namespace Go.Proofs.YtdaidcfpikeooaaDoor.Pure
open Go.RowKit Go.Proofs.YtdaidcfpikeooaaDoor.PAll Go.Proofs.YtdaidcfpikeooaaDoorW.PrintWords Go.Proofs.YtdaidcfpikeooaaDoorW.PrintLast Go.Proofs.YtdaidcfpikeooaaDoor.Hl Go.Proofs.YtdaidcfpikeooaaDoor.Tl Go.Proofs.YtdaidcfpikeooaaDoor.Tb Go.Proofs.YtdaidcfpikeooaaDoor.Tk Go.Proofs.YtdaidcfpikeooaaDoor.Tr Go.Proofs.YtdaidcfpikeooaaDoor.Tu Go.Proofs.YtdaidcfpikeooaaDoor.Tv Go.Proofs.YtdaidcfpikeooaaDoor.Rs
set_option linter.unusedSimpArgs false
set_option linter.unusedVariables false
theorem awake_TupleBack : Ev (fun k => shelfmarklaw03_awake.f k) true := Ev.of shelfmarklaw03_awake.mono (k := 30) (by decide +kernel)
theorem rowB_len : ∀ (l : List S37), l.all good = true → (rowB l).length ≤ 67 * l.length
  | [], _ => by simp [rowB]
  | v :: t, hg => by
    rw [List.all_cons, Bool.and_eq_true] at hg
    have h1 := rowB_len t hg.2
    have h2 := form_len v hg.1
    rw [← formB_length] at h2
    simp only [rowB, List.flatMap_cons, List.length_append, List.length_cons] at *
    omega
theorem back_j1 (s : ByteArray) (hs : s.size ≤ 140737488351232) : Ev (fun k => shelfmarklaw03_TupleBack.j1 k s) true := by
  refine Ev.step (fun _ => shelfmarklaw03_TupleBack.j1.eq_2 ..) ?_
  refine Ev.bind (cut_ev s hs) ?_
  obtain ⟨g1, g2⟩ := cut_got 4 s []
  by_cases h : (cutF 4 s []).2.2 = 0
  · obtain ⟨w, e1, e2, e3, e4⟩ := g1 h
    simp only [if_pos h]
    rw [e1, List.nil_append]
    have hr : rowE w = 0 := by unfold rowE; rw [if_neg (by omega), if_pos e2]
    have hk := key_ev w
    unfold keyR at hk
    rw [if_pos hr] at hk
    refine Ev.bind hk ?_
    have hsz : (strOfNums (keyL w)).size + (cutF 4 s []).2.1.size = s.size := by
      rw [← data_length, ← data_length, ← data_length s, key_bytes, e4, List.length_append]
    simp only [if_true, hsz, if_pos (show s.size ≤ 9223372036854775807 by omega)]
    have : (strOfNums (keyL w) ++ (cutF 4 s []).2.1).toList = s.toList := by
      rw [Lib.toList_data, Lib.toList_data, e4, ← key_bytes]; simp
    rw [this]
    simpa using Ev.now true
  · obtain ⟨e1, e2⟩ := g2 h
    simp only [if_neg h, e1, e2]
    have : (⟨#[]⟩ : ByteArray).toList = ([] : List UInt8) := by rw [Lib.toList_data]
    rw [this]
    simpa using Ev.now true
theorem range_of {l : List S37} (h : ∀ x ∈ l, WF37 x) : ∀ v ∈ l, -9223372036854775808 ≤ v.f1 ∧ v.f1 < 9223372036854775808 := by
  intro v hv
  have := (h v hv).2.1
  simp [Lit.wf, IntKind.has, IntKind.min, IntKind.max, IntKind.bits, IntKind.signed] at this
  omega
theorem TupleBack (l0 : List (S37)) (w0 : l0.length ≤ maxLen ∧ ∀ x ∈ l0, WF37 x) (y0 : l0.length * 32 ≤ 140737488351232) (a1 : ByteArray) (w1 : a1.size ≤ 140737488351232) (a2 : ByteArray) (w2 : a2.size ≤ 140737488351232) : ∃ k, shelfmarklaw03_TupleBack.f k l0 a1 a2 = some true := by
  refine Ev.rounds ?_
  unfold shelfmarklaw03_TupleBack.f
  refine Ev.bind awake_TupleBack ?_
  simp only [if_true]
  have hend : Ev (fun k => shelfmarklaw03_TupleBack.j0 k l0 a1 a2 true) true := by
    refine Ev.step (fun _ => shelfmarklaw03_TupleBack.j0.eq_2 ..) ?_
    simp only [if_true]
    exact Ev.now _
  refine Ev.bind (light_ev l0 2000 (by omega)) ?_
  by_cases h : lightB 2000 l0 0 0 = true
  · simp only [h, if_true]
    by_cases h1 : (a1.size : Int) > 2000
    · simp only [if_pos h1]
      exact hend
    · simp only [if_neg h1]
      by_cases h2 : (a2.size : Int) > 2000
      · simp only [decide_eq_true h2]
        exact hend
      · simp only [decide_eq_false h2]
        refine Ev.step (fun _ => shelfmarklaw03_TupleBack.j0.eq_2 ..) ?_
        simp only [Bool.false_eq_true, if_false]
        refine Ev.bind (key_ev l0) ?_
        unfold keyR
        by_cases hr : rowE l0 = 0
        · obtain ⟨hl, hg⟩ := row_ok hr
          have hk := key_bytes l0
          have hb := rowB_len l0 hg
          have hsz : (strOfNums (keyL l0)).size ≤ 268 := by rw [← data_length, hk]; omega
          have hsz2 : ((strOfNums (keyL l0)) ++ (⟨#[0]⟩ : ByteArray)).size = (strOfNums (keyL l0)).size + 1 := by rw [ByteArray.size_append]; rfl
          have hd : (((strOfNums (keyL l0)) ++ (⟨#[0]⟩ : ByteArray)) ++ a1).data.toList = rowB l0 ++ (0 :: a1.data.toList) := by rw [← hk]; simp
          have hc := cut_put [] (.inl rfl) l0 4 (strOfNums (keyL l0)) [] hl hg (range_of w0.2) (by rw [hk, List.append_nil])
          have hc2 := cut_put (0 :: a1.data.toList) (.inr ⟨_, rfl⟩) l0 4 _ [] hl hg (range_of w0.2) hd
          have hv : valsR (strOfNums (keyL l0)) = (l0, 0) := by
            unfold valsR
            rw [hc]
            have : (⟨([] : List UInt8).toArray⟩ : ByteArray).toList = [] := by rw [Lib.toList_data]
            simp [this]
          have hV := vals_ev (strOfNums (keyL l0)) (by omega)
          rw [hv] at hV
          have hC := cut_ev (((strOfNums (keyL l0)) ++ (⟨#[0]⟩ : ByteArray)) ++ a1) (by rw [ByteArray.size_append, hsz2]; omega)
          rw [hc2] at hC
          simp only [hr, if_true]
          refine Ev.bind hV ?_
          simp only [hsz2, if_pos (show (strOfNums (keyL l0)).size + 1 ≤ 9223372036854775807 by omega), if_pos (show (strOfNums (keyL l0)).size + 1 + a1.size ≤ 9223372036854775807 by omega)]
          refine Ev.bind hC ?_
          simp only [if_true, List.nil_append]
          refine Ev.bind (same_ev l0 (by omega)) ?_
          simp only [if_true]
          refine Ev.bind (same_ev l0 (by omega)) ?_
          have he : (⟨(0 :: a1.data.toList).toArray⟩ : ByteArray).toList = ((⟨#[0]⟩ : ByteArray) ++ a1).toList := by
            rw [Lib.toList_data, Lib.toList_data]; simp
          simp only [if_true, if_pos (show 1 + a1.size ≤ 9223372036854775807 by omega), he]
          exact back_j1 a2 (by omega)
        · simp only [if_neg hr]
          exact back_j1 a2 (by omega)
  · have h' : lightB 2000 l0 0 0 = false := by simpa using h
    simp only [h', Bool.false_eq_true, if_false]
    exact hend
end Go.Proofs.YtdaidcfpikeooaaDoor.Pure
