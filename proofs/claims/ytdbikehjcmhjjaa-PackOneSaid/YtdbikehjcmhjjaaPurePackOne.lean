/- DERIVED. Whatever is read, put anew, is just the bytes that were read: everything has one form. Conditions: those of the statement. -/
import Derived.Test.YtdbikehjcmhjjaaPAllEv
import Derived.Test.YtdbikehjcmhjjaaPAllx13
import Derived.Test.YtdbikehjcmhjjaaPAllx2
namespace Go.Proofs.Ytdbikehjcmhjjaa.Pure
open Go.RowKit Go.Proofs.Ytdbikehjcmhjjaa.PAll Go.Proofs.YtdbikehjcmhjjaaW.PrintWords Go.Proofs.YtdbikehjcmhjjaaW.PrintLast Go.Proofs.Ytdbikehjcmhjjaa.Pk Go.Proofs.Ytdbikehjcmhjjaa.PAllEv
set_option linter.unusedSimpArgs false
theorem awake_PackOne : Ev (fun k => shelfmarklaw01_awake.f k) true := Ev.of shelfmarklaw01_awake.mono (k := 12) (by decide +kernel)

theorem PackOne : shelfmarklaw01_PackOne.Pure := by
  intro l0 a1 hm hy hw w1
  refine Ev.rounds ?_
  have hb := bytes_of_wf hw
  have ha := bounds_i64 w1
  unfold shelfmarklaw01_PackOne.f
  refine Ev.bind awake_PackOne ?_
  simp only [if_true]
  by_cases h : (l0.length : Int) > 3000
  · simp only [if_pos h]
    exact Ev.now _
  · simp only [if_neg h]
    refine Ev.bind (GetNum_ev l0 a1 hb (by omega)) ?_
    -- a list is read only where a number is
    have second : (hx : (getN l0 a1).2.2 = 0 ∨ (getL l0 a1 3000 3000).2.2 ≠ 0) → Ev (fun k => shelfmarklaw01_PackOne.j0 k l0 a1 (getN l0 a1).2.2 false) true := by
      intro hx
      refine Ev.step (fun _ => shelfmarklaw01_PackOne.j0.eq_2 ..) ?_
      simp only [Bool.false_eq_true, if_false]
      refine Ev.bind (GetTexts_ev l0 a1 3000 3000 hb (by omega)) ?_
      by_cases h0 : (getL l0 a1 3000 3000).2.2 = 0
      · obtain ⟨hp, hq, hql, _, hcut, hall, hlt⟩ := getL_inv (b := l0) (p := a1) (count := 3000) (most := 3000) (l := (getL l0 a1 3000 3000).1) (q := (getL l0 a1 3000 3000).2.1) hb (by rw [← h0])
        have h1 := encAll_len (getL l0 a1 3000 3000).1
        have h2 : (encL (getL l0 a1 3000 3000).1).length = (encN (getL l0 a1 3000 3000).1.length).length + (encAll (getL l0 a1 3000 3000).1).length := by unfold encL; rw [List.length_append]
        have h3 : (texts (getL l0 a1 3000 3000).1).length = (getL l0 a1 3000 3000).1.length := by simp [texts]
        have hn0 : (getN l0 a1).2.2 = 0 := by
          rcases hx with hx | hx
          · exact hx
          · exact absurd h0 hx
        have hlt2 := lists_texts (fun s hs => (hall s hs).1)
        simp only [if_pos h0, if_neg (show ¬ (getL l0 a1 3000 3000).2.1 < a1 by omega), if_neg (show ¬ (getL l0 a1 3000 3000).2.1 > (l0.length : Int) by omega)]
        refine Ev.bind (Texts_ev _ (by omega) ?_ ?_) ?_
        · intro s hs
          obtain ⟨t, ht, rfl⟩ := List.mem_map.1 hs
          rw [strOfNums_size]
          have := (hall t ht).2.1
          omega
        · rw [hlt2]
          omega
        · rw [hlt2]
          simp only [if_pos (show (0 : Int) ≤ a1 by omega), if_pos (show a1 ≤ (getL l0 a1 3000 3000).2.1 by omega), if_pos (show (getL l0 a1 3000 3000).2.1 ≤ (l0.length : Int) by omega), hcut, Same_self, Option.bind_some, if_true, if_pos hn0]
          exact Ev.now _
      · simp only [if_neg h0]
        by_cases hn0 : (getN l0 a1).2.2 = 0
        · simp only [if_pos hn0]
          exact Ev.now _
        · simp only [if_neg hn0]
          have : ((getL l0 a1 3000 3000).2.2 != 0) = true := by simpa using h0
          simp only [this]
          exact Ev.now _
    by_cases h0 : (getN l0 a1).2.2 = 0
    · obtain ⟨hp, n, hv, hn, hq, hqb, hcut, _⟩ := getN_inv (b := l0) (p := a1) (v := (getN l0 a1).1) (q := (getN l0 a1).2.1) hb (by rw [← h0])
      simp only [if_pos h0, if_neg (show ¬ (getN l0 a1).2.1 < a1 by omega), if_neg (show ¬ (getN l0 a1).2.1 > (l0.length : Int) by omega)]
      rw [hv]
      refine Ev.bind (Num_ev n hn) ?_
      simp only [if_pos (show (0 : Int) ≤ a1 by omega), if_pos (show a1 ≤ (getN l0 a1).2.1 by omega), if_pos (show (getN l0 a1).2.1 ≤ (l0.length : Int) by omega), hcut, Same_self, Option.bind_some, Bool.not_true]
      exact second (Or.inl h0)
    · simp only [if_neg h0]
      refine second (Or.inr ?_)
      unfold getL
      rw [if_neg h0]
      exact h0

end Go.Proofs.Ytdbikehjcmhjjaa.Pure
