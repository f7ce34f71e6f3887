/- DERIVED. Numbers, texts and lists have the forms that the document says. Conditions: those of the statement. -/
import Derived.Test.YtdbikehjcmhjjaaPAllEv
import Derived.Test.YtdbikehjcmhjjaaPAllx11
import Derived.Test.YtdbikehjcmhjjaaPAllx2
namespace Go.Proofs.Ytdbikehjcmhjjaa.Pure
open Go.RowKit Go.Proofs.Ytdbikehjcmhjjaa.PAll Go.Proofs.YtdbikehjcmhjjaaW.PrintWords Go.Proofs.YtdbikehjcmhjjaaW.PrintLast Go.Proofs.Ytdbikehjcmhjjaa.Pk Go.Proofs.Ytdbikehjcmhjjaa.PAllEv
set_option linter.unusedSimpArgs false
theorem awake_PackPuts : Ev (fun k => shelfmarklaw01_awake.f k) true := Ev.of shelfmarklaw01_awake.mono (k := 12) (by decide +kernel)

theorem Same_eq (a b : List Int) (h : a = b) : shelfmarkref01_Same.f a b = some true := by subst h; exact Same_self a

theorem PackPuts (a0 : Int) (w0 : (Lit.int .i64 a0).wf = true) (a1 : ByteArray) (w1 : a1.size ≤ 140737488351232) (l2 : List ByteArray) (_w2 : l2.length ≤ maxLen ∧ ∀ x ∈ l2, x.size ≤ maxLen) (y2 : l2.length * 16 ≤ 140737488351232) : ∃ k, shelfmarklaw01_PackPuts.f k a0 a1 l2 = some true := by
  refine Ev.rounds ?_
  have ha := bounds_i64 w0
  unfold shelfmarklaw01_PackPuts.f
  refine Ev.bind awake_PackPuts ?_
  simp only [if_true]
  have skip : Ev (fun k => shelfmarklaw01_PackPuts.j0 k a0 a1 l2 true) true := by
    refine Ev.step (fun _ => shelfmarklaw01_PackPuts.j0.eq_2 ..) ?_
    simp only [if_true]
    exact Ev.now _
  by_cases h1 : (a1.size : Int) > 3000
  · simp only [if_pos h1]
    exact skip
  · simp only [if_neg h1]
    obtain ⟨v, hv, hvb⟩ := Bulk_ev l2 3000 (by omega) (by omega)
    refine Ev.bind hv ?_
    by_cases h2 : v > 3000
    · simp only [decide_eq_true h2]
      exact skip
    · simp only [decide_eq_false h2]
      obtain ⟨hs, hl, hall⟩ := bulk_each (by omega) (hvb (by omega))
      have hn := encN_le (n := l2.length) (by omega)
      have hL : (encL (lists l2)).length = (encN l2.length).length + (encAll (lists l2)).length := by unfold encL; rw [List.length_append, lists_length]
      have hT : (encT (bytesOf a1)).length = (encN a1.size).length + a1.size := by unfold encT; rw [List.length_append, bytesOf_size]
      have hTn := encN_le (n := a1.size) (by omega)
      obtain ⟨A, hA, hB, hAl⟩ : ∃ A, Ev (fun k => shelfmarkref01_Num.f k a0) A ∧ Ev (fun k => pack_Num.f k a0) A ∧ A.length ≤ 9 := by
        by_cases h0 : a0 < 0
        · exact ⟨[], refNum_neg a0 h0, Num_neg a0 h0, by simp⟩
        · obtain ⟨n, rfl⟩ := Int.eq_ofNat_of_zero_le (show 0 ≤ a0 by omega)
          exact ⟨encN n, refNum_ev n (by omega), Num_ev n (by omega), encN_le (by omega)⟩
      refine Ev.step (fun _ => shelfmarklaw01_PackPuts.j0.eq_2 ..) ?_
      simp only [Bool.false_eq_true, if_false]
      refine Ev.bind hA ?_
      refine Ev.bind (refText_ev a1 w1) ?_
      refine Ev.bind (refTexts_ev l2 (by omega) (fun s hsm => by have := hs s hsm; omega) (by omega)) ?_
      simp only [Option.bind_some, List.nil_append, List.length_nil, List.length_append, Nat.zero_add, if_pos (show A.length < 140737488355328 by omega), if_pos (show A.length + (encT (bytesOf a1)).length < 140737488355328 by omega), if_pos (show A.length + (encT (bytesOf a1)).length + (encL (lists l2)).length < 140737488355328 by omega)]
      refine Ev.bind hB ?_
      simp only [Same_self, Option.bind_some, if_true]
      refine Ev.bind (Text_ev a1 w1) ?_
      simp only [Same_self, Option.bind_some, if_true]
      refine Ev.bind (Texts_ev l2 (by omega) (fun s hsm => by have := hs s hsm; omega) (by omega)) ?_
      simp only [Same_self, Option.bind_some, if_true]
      refine Ev.bind (Join_ev [A, encT (bytesOf a1), encL (lists l2)] (by simp) (by simp; omega)) ?_
      rw [show [A, encT (bytesOf a1), encL (lists l2)].flatten = A ++ encT (bytesOf a1) ++ encL (lists l2) by simp]
      simp only [Same_self, Option.bind_some, if_true]
      refine Ev.bind (Join_ev [] (by simp) (by simp)) ?_
      simpa using Ev.now true

end Go.Proofs.Ytdbikehjcmhjjaa.Pure
