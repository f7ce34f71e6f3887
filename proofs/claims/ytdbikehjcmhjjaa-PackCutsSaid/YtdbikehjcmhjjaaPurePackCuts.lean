/- DERIVED. Of a form that is cut off anywhere more bytes are asked for. Conditions: those of the statement. -/
import Derived.Test.YtdbikehjcmhjjaaPAllEv
import Derived.Test.YtdbikehjcmhjjaaPAllx14
import Derived.Test.YtdbikehjcmhjjaaPAllx2
namespace Go.Proofs.Ytdbikehjcmhjjaa.Pure
open Go.RowKit Go.Proofs.Ytdbikehjcmhjjaa.PAll Go.Proofs.YtdbikehjcmhjjaaW.PrintWords Go.Proofs.YtdbikehjcmhjjaaW.PrintLast Go.Proofs.Ytdbikehjcmhjjaa.Pk Go.Proofs.Ytdbikehjcmhjjaa.PAllEv
set_option linter.unusedSimpArgs false
theorem awake_PackCuts : Ev (fun k => shelfmarklaw01_awake.f k) true := Ev.of shelfmarklaw01_awake.mono (k := 12) (by decide +kernel)

theorem cuts_l2 (L : List (List Int)) (hL : L.length ≤ 1000) (hs : ∀ s ∈ L, (s.length : Int) ≤ 1000 ∧ s.length < 9223372036854775808) (hB : ∀ s ∈ L, Bytes s) (hb : (encL L).length ≤ 100000) (m : Nat) : ∀ i : Nat, i + m = (encL L).length →
    Ev (fun k => shelfmarklaw01_PackCuts.l2 k (encL L) (i : Int)) true := by
  induction m with
  | zero =>
    intro i hi
    refine Ev.step (fun _ => shelfmarklaw01_PackCuts.l2.eq_2 ..) ?_
    simp only [if_neg (show ¬ (i : Int) < ((encL L).length : Int) by omega)]
    exact Ev.now _
  | succ m ih =>
    intro i hi
    refine Ev.step (fun _ => shelfmarklaw01_PackCuts.l2.eq_2 ..) ?_
    simp only [if_pos (show (i : Int) < ((encL L).length : Int) by omega), if_pos (show (0 : Int) ≤ (i : Int) by omega), if_pos (show (i : Int) ≤ ((encL L).length : Int) by omega), Int.toNat_natCast]
    have h := GetTexts_ev ((encL L).take i) 0 1000 1000 ((encL_bytes hB).take i) (by rw [List.length_take]; omega)
    rw [getL_cut (by omega) (by omega) hs (by omega)] at h
    refine Ev.bind h ?_
    simp only [if_true]
    rw [w64 (x := (i : Int) + 1) (by omega) (by omega), show ((i : Int) + 1) = ((i + 1 : Nat) : Int) by omega]
    exact ih (i + 1) (by omega)

theorem cuts_l1 (s : List Int) (hs : s.length ≤ 1000) (hB : Bytes s) (c : List Int) (hc : Ev (fun k => shelfmarklaw01_PackCuts.l2 k c 0) true) (hb : (encT s).length ≤ 100000) (m : Nat) : ∀ i : Nat, i + m = (encT s).length →
    Ev (fun k => shelfmarklaw01_PackCuts.l1 k (encT s) c (i : Int)) true := by
  induction m with
  | zero =>
    intro i hi
    refine Ev.step (fun _ => shelfmarklaw01_PackCuts.l1.eq_2 ..) ?_
    simp only [if_neg (show ¬ (i : Int) < ((encT s).length : Int) by omega)]
    exact hc
  | succ m ih =>
    intro i hi
    refine Ev.step (fun _ => shelfmarklaw01_PackCuts.l1.eq_2 ..) ?_
    simp only [if_pos (show (i : Int) < ((encT s).length : Int) by omega), if_pos (show (0 : Int) ≤ (i : Int) by omega), if_pos (show (i : Int) ≤ ((encT s).length : Int) by omega), Int.toNat_natCast]
    have h := GetText_ev ((encT s).take i) 0 1000 ((encT_bytes hB).take i) (by rw [List.length_take]; omega)
    rw [getT_cut (by omega) (by omega) (by omega)] at h
    refine Ev.bind h ?_
    simp only [if_true]
    rw [w64 (x := (i : Int) + 1) (by omega) (by omega), show ((i : Int) + 1) = ((i + 1 : Nat) : Int) by omega]
    exact ih (i + 1) (by omega)

theorem cuts_l0 (n : Nat) (hn : n < 9223372036854775808) (b c : List Int) (hc : Ev (fun k => shelfmarklaw01_PackCuts.l1 k b c 0) true) (m : Nat) : ∀ i : Nat, i + m = (encN n).length →
    Ev (fun k => shelfmarklaw01_PackCuts.l0 k (encN n) b c (i : Int)) true := by
  have hb := encN_le hn
  induction m with
  | zero =>
    intro i hi
    refine Ev.step (fun _ => shelfmarklaw01_PackCuts.l0.eq_2 ..) ?_
    simp only [if_neg (show ¬ (i : Int) < ((encN n).length : Int) by omega)]
    exact hc
  | succ m ih =>
    intro i hi
    refine Ev.step (fun _ => shelfmarklaw01_PackCuts.l0.eq_2 ..) ?_
    simp only [if_pos (show (i : Int) < ((encN n).length : Int) by omega), if_pos (show (0 : Int) ≤ (i : Int) by omega), if_pos (show (i : Int) ≤ ((encN n).length : Int) by omega), Int.toNat_natCast]
    have h := GetNum_ev ((encN n).take i) 0 ((encN_bytes n).take i) (by rw [List.length_take]; omega)
    rw [getN_cut hn (by omega)] at h
    refine Ev.bind h ?_
    simp only [if_true]
    rw [w64 (x := (i : Int) + 1) (by omega) (by omega), show ((i : Int) + 1) = ((i + 1 : Nat) : Int) by omega]
    exact ih (i + 1) (by omega)

theorem PackCuts (a0 : Int) (w0 : (Lit.int .i64 a0).wf = true) (a1 : ByteArray) (w1 : a1.size ≤ 140737488351232) (l2 : List ByteArray) (_w2 : l2.length ≤ maxLen ∧ ∀ x ∈ l2, x.size ≤ maxLen) (y2 : l2.length * 16 ≤ 140737488351232) : ∃ k, shelfmarklaw01_PackCuts.f k a0 a1 l2 = some true := by
  refine Ev.rounds ?_
  have ha := bounds_i64 w0
  unfold shelfmarklaw01_PackCuts.f
  refine Ev.bind awake_PackCuts ?_
  simp only [if_true]
  have skip : Ev (fun k => shelfmarklaw01_PackCuts.j0 k a0 a1 l2 true) true := by
    refine Ev.step (fun _ => shelfmarklaw01_PackCuts.j0.eq_2 ..) ?_
    simp only [if_true]
    exact Ev.now _
  by_cases h0 : a0 < 0
  · simp only [if_pos h0]
    exact skip
  · simp only [if_neg h0]
    by_cases h1 : (a1.size : Int) > 1000
    · simp only [if_pos h1]
      exact skip
    · simp only [if_neg h1]
      obtain ⟨v, hv, hvb⟩ := Bulk_ev l2 1000 (by omega) (by omega)
      refine Ev.bind hv ?_
      by_cases h2 : v > 1000
      · simp only [decide_eq_true h2]
        exact skip
      · simp only [decide_eq_false h2]
        obtain ⟨hs, hl, hall⟩ := bulk_each (by omega) (hvb (by omega))
        obtain ⟨n, rfl⟩ := Int.eq_ofNat_of_zero_le (show 0 ≤ a0 by omega)
        have hb := encN_le (n := n) (by omega)
        have hn := encN_le (n := l2.length) (by omega)
        have hL : (encL (lists l2)).length = (encN l2.length).length + (encAll (lists l2)).length := by unfold encL; rw [List.length_append, lists_length]
        have hls : ∀ s ∈ lists l2, (s.length : Int) ≤ 1000 ∧ s.length < 9223372036854775808 := by
          intro s hsm
          obtain ⟨x, hx, rfl⟩ := List.mem_map.1 hsm
          have := hs x hx
          rw [bytesOf_size]
          omega
        refine Ev.step (fun _ => shelfmarklaw01_PackCuts.j0.eq_2 ..) ?_
        simp only [Bool.false_eq_true, if_false]
        refine Ev.bind (Num_ev n (by omega)) ?_
        refine Ev.bind (Text_ev a1 w1) ?_
        refine Ev.bind (Texts_ev l2 (by omega) (fun s hsm => by have := hs s hsm; omega) (by omega)) ?_
        have hT : (encT (bytesOf a1)).length = (encN a1.size).length + a1.size := by unfold encT; rw [List.length_append, bytesOf_size]
        have hTn := encN_le (n := a1.size) (by omega)
        have e2 := cuts_l2 (lists l2) (by rw [lists_length]; omega) hls (lists_bytes l2) (by omega) (encL (lists l2)).length 0 (by omega)
        have e1 := cuts_l1 (bytesOf a1) (by rw [bytesOf_size]; omega) (bytesOf_bytes a1) (encL (lists l2)) (by simpa using e2) (by omega) (encT (bytesOf a1)).length 0 (by omega)
        have e0 := cuts_l0 n (by omega) (encT (bytesOf a1)) (encL (lists l2)) (by simpa using e1) (encN n).length 0 (by omega)
        simpa using e0

end Go.Proofs.Ytdbikehjcmhjjaa.Pure
