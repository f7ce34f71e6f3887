/- DERIVED. What is handed in stays, its spare room too; what is answered is new memory. Conditions: those of the statement. -/
import Derived.Test.YtdbikehjcmhjjaaPAllEv
import Derived.Test.YtdbikehjcmhjjaaPAllx12
import Derived.Test.YtdbikehjcmhjjaaPAllx2
namespace Go.Proofs.Ytdbikehjcmhjjaa.Pure
open Go.RowKit Go.Proofs.Ytdbikehjcmhjjaa.PAll Go.Proofs.YtdbikehjcmhjjaaW.PrintWords Go.Proofs.YtdbikehjcmhjjaaW.PrintLast Go.Proofs.Ytdbikehjcmhjjaa.Pk Go.Proofs.Ytdbikehjcmhjjaa.PAllEv
set_option linter.unusedSimpArgs false
theorem awake_PackKeeps : Ev (fun k => shelfmarklaw01_awake.f k) true := Ev.of shelfmarklaw01_awake.mono (k := 12) (by decide +kernel)

theorem Same_eq (a b : List Int) (h : a = b) : shelfmarkref01_Same.f a b = some true := by subst h; exact Same_self a

theorem keeps_l1 (l0 : List Int) (hl0 : l0.length ≤ 1000) (l1 : List ByteArray) (z : List Int) (hz : Ev (fun k => shelfmarkref01_Texts.f k l1) z) (L : Nat) (hL : L ≤ 100000) (m : Nat) : ∀ (i : Nat) (t : List Int), t.length = L → i + m = L →
    Ev (fun k => shelfmarklaw01_PackKeeps.l1 k l0 l1 (l0 ++ [1, 2, 3]) (l0 ++ [9]) z t (i : Int)) true := by
  induction m with
  | zero =>
    intro i t ht hi
    refine Ev.step (fun _ => shelfmarklaw01_PackKeeps.l1.eq_2 ..) ?_
    simp only [if_neg (show ¬ (i : Int) < (t.length : Int) by omega), Option.bind_some, List.nil_append, List.length_nil, if_pos (show 0 + l0.length < 140737488355328 by omega), if_pos (show l0.length + ([1, 2, 3] : List Int).length < 140737488355328 by simp; omega), if_pos (show l0.length < 140737488355328 by omega), Same_self, if_true]
    refine Ev.bind hz ?_
    simp only [Same_self, Option.bind_some]
    exact Ev.now _
  | succ m ih =>
    intro i t ht hi
    refine Ev.step (fun _ => shelfmarklaw01_PackKeeps.l1.eq_2 ..) ?_
    simp only [if_pos (show (i : Int) < (t.length : Int) by omega), if_pos (show (0 : Int) ≤ (i : Int) by omega)]
    rw [w64 (x := (i : Int) + 1) (by omega) (by omega), show ((i : Int) + 1) = ((i + 1 : Nat) : Int) by omega]
    exact ih (i + 1) _ (by rw [List.length_set]; exact ht) (by omega)

theorem keeps_l0 (l0 : List Int) (l1 : List ByteArray) (hend : Ev (fun k => (pack_Texts.f k l1).bind fun t1 => ((pack_Texts.f k l1).bind fun t2 => (if t2.length < 140737488355328 then (shelfmarklaw01_PackKeeps.l1 k l0 l1 (l0 ++ [1, 2, 3]) (l0 ++ [9]) t1 (t2 ++ [7]) 0) else (none)))) true) (L : Nat) (hL : L ≤ 100000) (m : Nat) : ∀ (i : Nat) (t : List Int), t.length = L → i + m = L →
    Ev (fun k => shelfmarklaw01_PackKeeps.l0 k l0 l1 (l0 ++ [1, 2, 3]) (l0 ++ [9]) t (i : Int)) true := by
  induction m with
  | zero =>
    intro i t ht hi
    refine Ev.step (fun _ => shelfmarklaw01_PackKeeps.l0.eq_2 ..) ?_
    simp only [if_neg (show ¬ (i : Int) < (t.length : Int) by omega)]
    exact hend
  | succ m ih =>
    intro i t ht hi
    refine Ev.step (fun _ => shelfmarklaw01_PackKeeps.l0.eq_2 ..) ?_
    simp only [if_pos (show (i : Int) < (t.length : Int) by omega), if_pos (show (0 : Int) ≤ (i : Int) by omega)]
    rw [w64 (x := (i : Int) + 1) (by omega) (by omega), show ((i : Int) + 1) = ((i + 1 : Nat) : Int) by omega]
    exact ih (i + 1) _ (by rw [List.length_set]; exact ht) (by omega)

theorem PackKeeps (l0 : List Int) (_w0 : l0.length ≤ maxLen ∧ ∀ x ∈ l0, (Lit.int .u8 x).wf = true) (_y0 : l0.length * 1 ≤ 140737488351232) (l1 : List ByteArray) (_w1 : l1.length ≤ maxLen ∧ ∀ x ∈ l1, x.size ≤ maxLen) (y1 : l1.length * 16 ≤ 140737488351232) : ∃ k, shelfmarklaw01_PackKeeps.f k l0 l1 = some true := by
  refine Ev.rounds ?_
  unfold shelfmarklaw01_PackKeeps.f
  refine Ev.bind awake_PackKeeps ?_
  simp only [if_true]
  have skip : Ev (fun k => shelfmarklaw01_PackKeeps.j0 k l0 l1 true) true := by
    refine Ev.step (fun _ => shelfmarklaw01_PackKeeps.j0.eq_2 ..) ?_
    simp only [if_true]
    exact Ev.now _
  by_cases h1 : (l0.length : Int) > 1000
  · simp only [if_pos h1]
    exact skip
  · simp only [if_neg h1]
    obtain ⟨v, hv, hvb⟩ := Bulk_ev l1 1000 (by omega) (by omega)
    refine Ev.bind hv ?_
    by_cases h2 : v > 1000
    · simp only [decide_eq_true h2]
      exact skip
    · simp only [decide_eq_false h2]
      obtain ⟨hs, hl, hall⟩ := bulk_each (by omega) (hvb (by omega))
      have hn := encN_le (n := l1.length) (by omega)
      have hL : (encL (lists l1)).length = (encN l1.length).length + (encAll (lists l1)).length := by unfold encL; rw [List.length_append, lists_length]
      have hT := Texts_ev l1 (by omega) (fun s hsm => by have := hs s hsm; omega) (by omega)
      have hR := refTexts_ev l1 (by omega) (fun s hsm => by have := hs s hsm; omega) (by omega)
      have hend : Ev (fun k => (pack_Texts.f k l1).bind fun t1 => ((pack_Texts.f k l1).bind fun t2 => (if t2.length < 140737488355328 then (shelfmarklaw01_PackKeeps.l1 k l0 l1 (l0 ++ [1, 2, 3]) (l0 ++ [9]) t1 (t2 ++ [7]) 0) else (none)))) true := by
        refine Ev.bind hT ?_
        refine Ev.bind hT ?_
        simp only [if_pos (show (encL (lists l1)).length < 140737488355328 by omega)]
        have := keeps_l1 l0 (by omega) l1 _ hR ((encL (lists l1)).length + 1) (by omega) ((encL (lists l1)).length + 1) 0 (encL (lists l1) ++ [7]) (by simp) (by omega)
        simpa using this
      refine Ev.step (fun _ => shelfmarklaw01_PackKeeps.j0.eq_2 ..) ?_
      simp only [Bool.false_eq_true, if_false, Option.bind_some, List.nil_append, List.length_nil, List.length_append, List.length_cons, Nat.zero_add, if_pos (show l0.length < 140737488355328 by omega), if_pos (show l0.length + (1 + 1 + 1) < 140737488355328 by omega), if_pos (show (0 : Int) ≤ (l0.length : Int) by omega), if_pos (show (l0.length : Int) ≤ ((l0.length + (1 + 1 + 1) : Nat) : Int) by omega), Int.toNat_natCast, List.take_left]
      refine Ev.bind (Join_ev [l0, [9]] (by simp) (by simp; omega)) ?_
      refine Ev.bind (Join_ev [l0] (by simp) (by simp; omega)) ?_
      have := keeps_l0 l0 l1 hend l0.length (by omega) l0.length 0 l0 rfl (by omega)
      simpa using this

end Go.Proofs.Ytdbikehjcmhjjaa.Pure
