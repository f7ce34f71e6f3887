/- DERIVED. Each text is in just one part at all times; only a move changes who has it. Conditions: none but those of the statement. -/
import Derived.Test.YtmgjccpolkhhhaaAt
import Derived.Test.YtmgjccpolkhhhaaApo
import Derived.Test.YtmgjccpolkhhhaaRs
import Derived.Test.YtmgjccpolkhhhaaPAllx10
import Derived.Test.YtmgjccpolkhhhaaPAllx17
import Derived.Test.YtmgjccpolkhhhaaPAllx24
namespace Go.Proofs.Ytmgjccpolkhhhaa.Pure
open Go.RowKit Go.Proofs.Ytmgjccpolkhhhaa.PAll Go.Proofs.YtmgjccpolkhhhaaW.PrintWords Go.Proofs.YtmgjccpolkhhhaaW.PrintLast Go.Proofs.Ytmgjccpolkhhhaa.Ap Go.Proofs.Ytmgjccpolkhhhaa.Aq Go.Proofs.Ytmgjccpolkhhhaa.Ar Go.Proofs.Ytmgjccpolkhhhaa.At Go.Proofs.Ytmgjccpolkhhhaa.Rs
set_option linter.unusedSimpArgs false
set_option linter.unusedVariables false
theorem awake_AtlasTiles : Ev (fun k => shelfmarklaw12_awake.f k) true := Ev.of shelfmarklaw12_awake.mono (k := 40) (by decide +kernel)
theorem act_ev (ep : Int) (l : List S46) (kind : Int) (a : ByteArray) (n : Int) (hl : l.length < 9223372036854775808) : Ev (fun k => shelfmarklaw12_act.f k ep l kind a n) (actS ep l kind a n) := by
  unfold shelfmarklaw12_act.f actS
  by_cases h1 : kind = 1
  · simp only [if_pos h1]; exact Ev.bind (Split_ev ep l a hl) (Ev.now _)
  · by_cases h2 : kind = 2
    · simp only [if_neg h1, if_pos h2]; exact Ev.bind (Merge_ev ep l a hl) (Ev.now _)
    · by_cases h3 : kind = 3
      · simp only [if_neg h1, if_neg h2, if_pos h3]; exact Ev.bind (Move_ev ep l a n hl) (Ev.now _)
      · simp only [if_neg h1, if_neg h2, if_neg h3]; exact Ev.now _
section
variable (l1 : List S40) (l2 : List ByteArray)
theorem tiles_l2 (i : Nat) (place : Int) (kk : Nat) (ep : Int) (ps : List S46) (ep' : Int) (ps' : List S46) (hk : kk < l2.length) (hk2 : l2.length ≤ 20) (hc : chk ep' ps' = 0)
    (hnext : Ev (fun k => shelfmarklaw12_AtlasTiles.l1 k l1 l2 (i : Int) place ((kk + 1 : Nat) : Int) ep ps ep' ps') true) : ∀ m j, j + m = ps'.length → Ev (fun k => shelfmarklaw12_AtlasTiles.l2 k l1 l2 (i : Int) place (kk : Int) (if j ≤ pl ps' (rdOf ByteArray.empty l2 (kk : Int)).toList then 0 else 1) (j : Int) ep ps ep' ps') true
  | 0, j, h => by
    have hg := (chk_zero.1 hc).2.2
    have hp := hg.pl_lt (rdOf ByteArray.empty l2 (kk : Int)).toList
    have hw : wrap64 ((kk : Int) + 1) = ((kk + 1 : Nat) : Int) := by rw [w64 (by omega) (by omega)]; omega
    refine Ev.step (fun _ => shelfmarklaw12_AtlasTiles.l2.eq_2 ..) ?_
    simp only [if_neg (show ¬ (j : Int) < (ps'.length : Int) by omega), if_neg (show ¬ j ≤ pl ps' (rdOf ByteArray.empty l2 (kk : Int)).toList by omega), if_true, hw]
    exact hnext
  | m + 1, j, h => by
    have hg := (chk_zero.1 hc).2.2
    have hle := hg.le
    have hj : j < ps'.length := by omega
    have ih := tiles_l2 i place kk ep ps ep' ps' hk hk2 hc hnext m (j + 1) (by omega)
    have hw : wrap64 ((j : Int) + 1) = ((j + 1 : Nat) : Int) := by rw [w64 (by omega) (by omega)]; omega
    refine Ev.step (fun _ => shelfmarklaw12_AtlasTiles.l2.eq_2 ..) ?_
    simp only [if_pos (show (j : Int) < (ps'.length : Int) by omega)]
    refine Ev.bind (Of_ev ep' ps' j (by omega)) ?_
    unfold ofS
    simp only [hc, true_and, if_pos (show 0 ≤ (j : Int) ∧ (j : Int) < (ps'.length : Int) by omega), if_true, bl_eq, decide_eq_true_eq, rd_get ps' j hj, hw, if_pos (show 0 ≤ (kk : Int) by omega), if_pos (show (kk : Int) < (l2.length : Int) by omega)]
    generalize rdOf ByteArray.empty l2 (kk : Int) = key at *
    have hat := hg.pl_at key.toList
    have hpl := hg.pl_lt key.toList
    by_cases c1 : key.toList < ps'[j].f0.toList
    · simp only [if_pos c1]
      have hgt : ¬ j ≤ pl ps' key.toList := by
        intro hle2
        rcases Nat.eq_or_lt_of_le hle2 with he | he
        · exact hat (by unfold L; simpa only [← he] using c1)
        · exact hat (List.lt_trans c1 (hg.lt he hpl))
      rw [if_neg hgt]
      rw [if_neg (by omega)] at ih
      exact ih
    · simp only [if_neg c1]
      by_cases c2 : j + 1 < ps'.length
      · have e1 : rd_T46 ps' ((j : Int) + 1) = ps'[j + 1] := by rw [show (j : Int) + 1 = ((j + 1 : Nat) : Int) by omega, rd_get ps' _ c2]
        have hne : ¬ ps'[j + 1].f0.toList = [] := nil_lt_ne (hg.lt (Nat.lt_succ_self j) c2)
        simp only [if_pos (show (j : Int) + 1 < (ps'.length : Int) by omega), e1, if_neg hne]
        by_cases c3 : key.toList < ps'[j + 1].f0.toList
        · simp only [if_pos c3]
          have hjp := pl_uniq hg key.toList j hj c1 (fun _ => c3)
          rw [if_neg (by omega)] at ih
          rw [if_pos (by omega), w64 (by omega) (by omega)]
          exact ih
        · simp only [if_neg c3]
          have hjp : j < pl ps' key.toList := by
            rcases Nat.lt_or_ge j (pl ps' key.toList) with h | h
            · exact h
            · exact absurd (hg.pl_next key.toList (j + 1) (by omega) c2) c3
          rw [if_pos (by omega)] at ih
          rw [if_pos (by omega)]
          exact ih
      · simp only [if_neg (show ¬ (j : Int) + 1 < (ps'.length : Int) by omega)]
        have : (⟨#[]⟩ : ByteArray).toList = [] := by rw [ByteArray.toList_eq]
        simp only [this, if_true]
        have hjp := pl_uniq hg key.toList j hj c1 (fun h => by omega)
        rw [if_neg (by omega)] at ih
        rw [if_pos (by omega), w64 (by omega) (by omega)]
        exact ih
theorem tiles_l1 (i : Nat) (hi : i < l1.length) (hi2 : l1.length ≤ 60) (hk2 : l2.length ≤ 20) (ep : Int) (ps : List S46) (ep' : Int) (ps' : List S46) (hc : chk ep ps = 0) (hc' : chk ep' ps' = 0)
    (hwho : ∀ key, who ps' key = if (rd_T40 l1 (i : Int)).f0 = 3 ∧ pl ps key = pl ps (rd_T40 l1 (i : Int)).f1.toList then (rd_T40 l1 (i : Int)).f2 else who ps key)
    (hnext : Ev (fun k => shelfmarklaw12_AtlasTiles.l0 k l1 l2 ((i + 1 : Nat) : Int) ep' ps') true) : ∀ m kk, kk + m = l2.length → Ev (fun k => shelfmarklaw12_AtlasTiles.l1 k l1 l2 (i : Int) (pl ps (rd_T40 l1 (i : Int)).f1.toList : Int) (kk : Int) ep ps ep' ps') true
  | 0, kk, h => by
    have hw : wrap64 ((i : Int) + 1) = ((i + 1 : Nat) : Int) := by rw [w64 (by omega) (by omega)]; omega
    refine Ev.step (fun _ => shelfmarklaw12_AtlasTiles.l1.eq_2 ..) ?_
    simp only [if_neg (show ¬ (kk : Int) < (l2.length : Int) by omega), hw]
    exact hnext
  | m + 1, kk, h => by
    have hg := (chk_zero.1 hc).2.2
    have hg' := (chk_zero.1 hc').2.2
    have hle := hg.le
    have hle' := hg'.le
    have ih := tiles_l1 i hi hi2 hk2 ep ps ep' ps' hc hc' hwho hnext m (kk + 1) (by omega)
    have hl2 := tiles_l2 l1 l2 i (pl ps (rd_T40 l1 (i : Int)).f1.toList : Int) kk ep ps ep' ps' (by omega) hk2 hc' ih ps'.length 0 (by omega)
    have hwk := hwho (rdOf ByteArray.empty l2 (kk : Int)).toList
    refine Ev.step (fun _ => shelfmarklaw12_AtlasTiles.l1.eq_2 ..) ?_
    simp only [if_pos (show (kk : Int) < (l2.length : Int) by omega), if_pos (show 0 ≤ (kk : Int) by omega)]
    by_cases hs : ((rdOf ByteArray.empty l2 (kk : Int)).size : Int) > 300
    · simp only [if_pos hs]; exact Ev.now _
    · simp only [if_neg hs]
      refine Ev.bind (Find_ev ep ps _ (by omega)) ?_
      refine Ev.bind (Find_ev ep' ps' _ (by omega)) ?_
      generalize rdOf ByteArray.empty l2 (kk : Int) = key at *
      have hp := hg.pl_lt key.toList
      have hp' := hg'.pl_lt key.toList
      simp only [if_pos hc, if_pos hc', if_true, if_neg (show ¬ ((pl ps key.toList : Nat) : Int) < 0 by omega), if_neg (show ¬ ((pl ps' key.toList : Nat) : Int) < 0 by omega), if_neg (show ¬ ((pl ps key.toList : Nat) : Int) ≥ (ps.length : Int) by omega), decide_eq_false (show ¬ ((pl ps' key.toList : Nat) : Int) ≥ (ps'.length : Int) by omega)]
      refine Ev.step (fun _ => shelfmarklaw12_AtlasTiles.j4.eq_2 ..) ?_
      simp only [Bool.false_eq_true, if_false, if_pos (show (0 : Int) ≤ ((pl ps key.toList : Nat) : Int) by omega), if_pos (show ((pl ps key.toList : Nat) : Int) < (ps.length : Int) by omega), if_pos (show 0 ≤ (i : Int) by omega), if_pos (show (i : Int) < (l1.length : Int) by omega)]
      have hj6 : ∀ want : Int, who ps' key.toList = want → Ev (fun k => shelfmarklaw12_AtlasTiles.j6 k l1 l2 (i : Int) (pl ps (rd_T40 l1 (i : Int)).f1.toList : Int) (kk : Int) (pl ps' key.toList : Int) want ep ps ep' ps') true := fun want hw => by
        refine Ev.step (fun _ => shelfmarklaw12_AtlasTiles.j6.eq_2 ..) ?_
        have hw2 : (rd_T46 ps' (pl ps' key.toList : Int)).f1 = want := hw
        simp only [if_pos (show (0 : Int) ≤ ((pl ps' key.toList : Nat) : Int) by omega), if_pos (show ((pl ps' key.toList : Nat) : Int) < (ps'.length : Int) by omega), if_pos hw2]
        simpa using hl2
      by_cases k3 : (rd_T40 l1 (i : Int)).f0 = 3
      · simp only [if_pos k3]
        refine Ev.step (fun _ => shelfmarklaw12_AtlasTiles.j5.eq_2 ..) ?_
        by_cases hpp : pl ps key.toList = pl ps (rd_T40 l1 (i : Int)).f1.toList
        · have hb : (((pl ps key.toList : Nat) : Int) == ((pl ps (rd_T40 l1 (i : Int)).f1.toList : Nat) : Int)) = true := by rw [hpp]; exact beq_self_eq_true _
          simp only [hb, if_true, if_pos (show 0 ≤ (i : Int) by omega), if_pos (show (i : Int) < (l1.length : Int) by omega)]
          exact hj6 _ (by rw [hwk, if_pos ⟨k3, hpp⟩])
        · have hb : (((pl ps key.toList : Nat) : Int) == ((pl ps (rd_T40 l1 (i : Int)).f1.toList : Nat) : Int)) = false := beq_eq_false_iff_ne.2 (by omega)
          simp only [hb, Bool.false_eq_true, if_false]
          exact hj6 _ (by rw [hwk, if_neg (fun h => hpp h.2)]; rfl)
      · simp only [if_neg k3]
        refine Ev.step (fun _ => shelfmarklaw12_AtlasTiles.j5.eq_2 ..) ?_
        simp only [Bool.false_eq_true, if_false]
        exact hj6 _ (by rw [hwk, if_neg (fun h => k3 h.1)]; rfl)
theorem tiles_l0 (hi2 : l1.length ≤ 60) (hk2 : l2.length ≤ 20) : ∀ m i ep ps, i + m = l1.length → chk ep ps = 0 → ep + m ≤ 1000 → Ev (fun k => shelfmarklaw12_AtlasTiles.l0 k l1 l2 (i : Int) ep ps) true
  | 0, i, ep, ps, h, hc, he => by
    refine Ev.step (fun _ => shelfmarklaw12_AtlasTiles.l0.eq_2 ..) ?_
    simp only [if_neg (show ¬ (i : Int) < (l1.length : Int) by omega)]
    exact Ev.now _
  | m + 1, i, ep, ps, h, hc, he => by
    have hg := (chk_zero.1 hc).2.2
    have hle := hg.le
    have hep := (chk_zero.1 hc).1
    have hw : wrap64 ((i : Int) + 1) = ((i + 1 : Nat) : Int) := by rw [w64 (by omega) (by omega)]; omega
    have hwe : wrap64 (ep + 1) = ep + 1 := w64 (by omega) (by omega)
    refine Ev.step (fun _ => shelfmarklaw12_AtlasTiles.l0.eq_2 ..) ?_
    simp only [if_pos (show (i : Int) < (l1.length : Int) by omega), if_pos (show 0 ≤ (i : Int) by omega)]
    by_cases hs : ((rd_T40 l1 (i : Int)).f1.size : Int) > 300
    · simp only [if_pos hs]; exact Ev.now _
    · simp only [if_neg hs]
      refine Ev.bind (act_ev ep ps _ _ _ (by omega)) ?_
      rcases act_good hc (by omega) (rd_T40 l1 (i : Int)).f0 (rd_T40 l1 (i : Int)).f1 (rd_T40 l1 (i : Int)).f2 with ⟨b1, b2, b3⟩ | ⟨b1, b2, b3, b4, b5⟩
      · simp only [if_neg b1, b2, b3, List.length_nil, if_pos (show ((0 : Nat) : Int) = 0 from rfl), if_true, hw]
        exact tiles_l0 hi2 hk2 m (i + 1) ep ps (by omega) hc (by omega)
      · simp only [if_pos b1, hwe]
        generalize actS ep ps (rd_T40 l1 (i : Int)).f0 (rd_T40 l1 (i : Int)).f1 (rd_T40 l1 (i : Int)).f2 = r at *
        have hnext := tiles_l0 hi2 hk2 m (i + 1) r.1 r.2.1 (by omega) b2 (by omega)
        have hj2 : Ev (fun k => shelfmarklaw12_AtlasTiles.j2 k l1 l2 (i : Int) false ep ps r.1 r.2.1) true := by
          refine Ev.step (fun _ => shelfmarklaw12_AtlasTiles.j2.eq_2 ..) ?_
          simp only [Bool.false_eq_true, if_false, if_pos (show (i : Int) < (l1.length : Int) by omega), if_pos (show 0 ≤ (i : Int) by omega)]
          refine Ev.bind (Find_ev ep ps _ (by omega)) ?_
          simp only [if_pos hc]
          exact tiles_l1 l1 l2 i (by omega) hi2 hk2 ep ps r.1 r.2.1 hc b2 b5 hnext l2.length 0 (by omega)
        by_cases k1 : (rd_T40 l1 (i : Int)).f0 ≥ 1
        · simp only [if_pos k1]
          by_cases k2 : (rd_T40 l1 (i : Int)).f0 ≤ 3
          · have := b3 k1 k2
            have hne : (r.1 != ep + 1) = false := by rw [this]; exact bne_self_eq_false _
            simp only [if_pos k2, hne]
            exact hj2
          · simp only [if_neg k2]; exact hj2
        · simp only [if_neg k1]; exact hj2
end
theorem AtlasTiles (a0 : Int) (w0 : (Lit.int .i64 a0).wf = true) (l1 : List (S40)) (w1 : l1.length ≤ maxLen ∧ ∀ x ∈ l1, WF40 x) (y1 : l1.length * 32 ≤ 140737488351232) (l2 : List ByteArray) (w2 : l2.length ≤ maxLen ∧ ∀ x ∈ l2, x.size ≤ maxLen) (y2 : l2.length * 16 ≤ 140737488351232) : ∃ k, shelfmarklaw12_AtlasTiles.f k a0 l1 l2 = some true := by
  suffices h : Ev (fun k => shelfmarklaw12_AtlasTiles.f k a0 l1 l2) true from h.rounds
  unfold shelfmarklaw12_AtlasTiles.f
  refine Ev.bind awake_AtlasTiles ?_
  simp only [if_true]
  have hend : Ev (fun k => shelfmarklaw12_AtlasTiles.j0 k a0 l1 l2 true) true := by
    refine Ev.step (fun _ => shelfmarklaw12_AtlasTiles.j0.eq_2 ..) ?_
    simp only [if_true]; exact Ev.now _
  by_cases h1 : (l1.length : Int) > 60
  · simp only [if_pos h1]; exact hend
  · simp only [if_neg h1]
    by_cases h2 : (l2.length : Int) > 20
    · simp only [decide_eq_true h2]; exact hend
    · simp only [decide_eq_false h2]
      refine Ev.step (fun _ => shelfmarklaw12_AtlasTiles.j0.eq_2 ..) ?_
      simp only [Bool.false_eq_true, if_false]
      rw [Start_eq]
      unfold shelfmarkref12_Start.f
      by_cases c1 : a0 < 1
      · simp only [if_pos c1, Option.bind_some, if_neg (show ¬ (1 : Int) = 0 by omega)]; exact Ev.now _
      · by_cases c2 : a0 > 4
        · simp only [if_neg c1, if_pos c2, Option.bind_some, if_neg (show ¬ (1 : Int) = 0 by omega), decide_eq_true c2]; exact Ev.now _
        · simp only [if_neg c1, if_neg c2, Option.bind_some, if_true]
          have hc : chk 1 [(⟨(⟨#[]⟩ : ByteArray), a0⟩ : S46)] = 0 := by
            have e : (⟨#[]⟩ : ByteArray).toList = [] := by rw [ByteArray.toList_eq]
            refine chk_zero.2 ⟨by omega, by omega, by simp, by simp, ?_, by simp, ?_⟩
            · show L (rd_T46 _ ((0 : Nat) : Int)) = []
              rw [rd_get _ 0 (by simp)]; exact e
            · intro p hp
              rw [List.mem_singleton] at hp
              subst hp
              rw [partOk_iff]
              refine ⟨?_, by show 1 ≤ a0; omega, by show a0 ≤ 4; omega⟩
              show ((#[] : Array UInt8).size : Int) ≤ 100
              simp
          exact tiles_l0 l1 l2 (by omega) (by omega) l1.length 0 1 _ (by omega) hc (by omega)
end Go.Proofs.Ytmgjccpolkhhhaa.Pure
