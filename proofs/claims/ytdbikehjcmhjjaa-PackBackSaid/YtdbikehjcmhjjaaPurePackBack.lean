/- DERIVED. What was put is read as it was, whatever stands behind it. Conditions: those of the statement. -/
import Derived.Test.YtdbikehjcmhjjaaPAllEv
import Derived.Test.YtdbikehjcmhjjaaPAllx15
import Derived.Test.YtdbikehjcmhjjaaPAllx2
namespace Go.Proofs.Ytdbikehjcmhjjaa.Pure
open Go.RowKit Go.Proofs.Ytdbikehjcmhjjaa.PAll Go.Proofs.YtdbikehjcmhjjaaW.PrintWords Go.Proofs.YtdbikehjcmhjjaaW.PrintLast Go.Proofs.Ytdbikehjcmhjjaa.Pk Go.Proofs.Ytdbikehjcmhjjaa.PAllEv
set_option linter.unusedSimpArgs false
theorem awake_PackBack : Ev (fun k => shelfmarklaw01_awake.f k) true := Ev.of shelfmarklaw01_awake.mono (k := 12) (by decide +kernel)

theorem PackBack (a0 : Int) (w0 : (Lit.int .i64 a0).wf = true) (a1 : ByteArray) (w1 : a1.size ≤ 140737488351232) (l2 : List ByteArray) (_w2 : l2.length ≤ maxLen ∧ ∀ x ∈ l2, x.size ≤ maxLen) (y2 : l2.length * 16 ≤ 140737488351232) (l3 : List Int) (w3 : l3.length ≤ maxLen ∧ ∀ x ∈ l3, (Lit.int .u8 x).wf = true) (_y3 : l3.length * 1 ≤ 140737488351232) : ∃ k, shelfmarklaw01_PackBack.f k a0 a1 l2 l3 = some true := by
  refine Ev.rounds ?_
  have ha := bounds_i64 w0
  have hb3 := bytes_of_wf w3.2
  unfold shelfmarklaw01_PackBack.f
  refine Ev.bind awake_PackBack ?_
  simp only [if_true]
  have skip : Ev (fun k => shelfmarklaw01_PackBack.j0 k a0 a1 l2 l3 true) true := by
    refine Ev.step (fun _ => shelfmarklaw01_PackBack.j0.eq_2 ..) ?_
    simp only [if_true]
    exact Ev.now _
  by_cases h1 : (a1.size : Int) > 3000
  · simp only [if_pos h1]
    exact skip
  · simp only [if_neg h1]
    by_cases h3 : (l3.length : Int) > 3000
    · simp only [if_pos h3]
      exact skip
    · simp only [if_neg h3]
      obtain ⟨v, hv, hvb⟩ := Bulk_ev l2 3000 (by omega) (by omega)
      refine Ev.bind hv ?_
      by_cases h2 : v > 3000
      · simp only [decide_eq_true h2]
        exact skip
      · simp only [decide_eq_false h2]
        obtain ⟨hs, hl, hall⟩ := bulk_each (by omega) (hvb (by omega))
        have hn := encN_le (n := l2.length) (by omega)
        have hL : (encL (lists l2)).length = (encN l2.length).length + (encAll (lists l2)).length := by unfold encL; rw [List.length_append, lists_length]
        have hT : (encT (bytesOf a1)).length = (encN a1.size).length + a1.size := by unfold encT; rw [List.length_append, bytesOf_size]
        have hTn := encN_le (n := a1.size) (by omega)
        refine Ev.step (fun _ => shelfmarklaw01_PackBack.j0.eq_2 ..) ?_
        simp only [Bool.false_eq_true, if_false]
        by_cases h0 : a0 < 0
        · simp only [if_pos h0]
          refine Ev.bind (Num_neg a0 h0) ?_
          simpa using Ev.now true
        · simp only [if_neg h0]
          obtain ⟨n, rfl⟩ := Int.eq_ofNat_of_zero_le (show 0 ≤ a0 by omega)
          have hN := encN_le (n := n) (by omega)
          refine Ev.bind (Num_ev n (by omega)) ?_
          refine Ev.bind (Text_ev a1 w1) ?_
          refine Ev.bind (Texts_ev l2 (by omega) (fun s hsm => by have := hs s hsm; omega) (by omega)) ?_
          refine Ev.bind (Join_ev [encN n, encT (bytesOf a1), encL (lists l2)] (by simp) (by simp; omega)) ?_
          rw [show [encN n, encT (bytesOf a1), encL (lists l2)].flatten = encN n ++ encT (bytesOf a1) ++ encL (lists l2) by simp]
          simp only [Option.bind_some, List.nil_append, List.length_nil, List.length_append, Nat.zero_add, if_pos (show (encN n).length + (encT (bytesOf a1)).length + (encL (lists l2)).length < 140737488355328 by omega), if_pos (show (encN n).length + (encT (bytesOf a1)).length + (encL (lists l2)).length + l3.length < 140737488355328 by omega)]
          have hbB : Bytes (encN n ++ encT (bytesOf a1) ++ encL (lists l2) ++ l3) := (((encN_bytes n).append (encT_bytes (bytesOf_bytes a1))).append (encL_bytes (lists_bytes l2))).append hb3
          have hlen : (encN n ++ encT (bytesOf a1) ++ encL (lists l2) ++ l3).length = (encN n).length + (encT (bytesOf a1)).length + (encL (lists l2)).length + l3.length := by simp only [List.length_append]
          obtain ⟨B, hBe⟩ : ∃ B, B = encN n ++ encT (bytesOf a1) ++ encL (lists l2) ++ l3 := ⟨_, rfl⟩
          rw [← hBe] at hbB hlen ⊢
          have g1 := getN_enc (b := B) (p := 0) (n := n) (rest := encT (bytesOf a1) ++ (encL (lists l2) ++ l3)) (by omega) (by omega) (by omega) (by rw [hBe]; simp)
          have g2 := getT_enc (b := B) (p := 0 + ((encN n).length : Int)) (most := (a1.size : Int)) (s := bytesOf a1) (rest := encL (lists l2) ++ l3) (by omega) (by omega) (by rw [bytesOf_size]; omega) (by rw [bytesOf_size]; omega) (by
            rw [hBe, show (0 + ((encN n).length : Int)).toNat = (encN n).length by omega, List.append_assoc, List.append_assoc, List.drop_left])
          have g3 := getL_enc (b := B) (p := 0 + ((encN n).length : Int) + ((encT (bytesOf a1)).length : Int)) (count := (l2.length : Int)) (most := 3000) (l := lists l2) (rest := l3) (by omega) (by omega) (by rw [lists_length]; omega) (by rw [lists_length]; omega) (by
            intro s hsm
            obtain ⟨x, hx, rfl⟩ := List.mem_map.1 hsm
            have := hs x hx
            rw [bytesOf_size]
            omega) (by
            rw [hBe, show (0 + ((encN n).length : Int) + ((encT (bytesOf a1)).length : Int)).toNat = (encN n).length + (encT (bytesOf a1)).length by omega, ← List.drop_drop, List.append_assoc, List.append_assoc, List.drop_left, List.drop_left])
          have e1 := GetNum_ev B 0 hbB (by omega)
          rw [g1] at e1
          refine Ev.bind e1 ?_
          simp only [if_true, bne_self_eq_false]
          refine Ev.step (fun _ => shelfmarklaw01_PackBack.j1.eq_2 ..) ?_
          simp only [Bool.false_eq_true, if_false]
          have e2 := GetText_ev B (0 + ((encN n).length : Int)) (a1.size : Int) hbB (by omega)
          rw [g2] at e2
          simp only [strOfNums_bytesOf] at e2
          refine Ev.bind e2 ?_
          simp only [if_true, bne_self_eq_false]
          refine Ev.step (fun _ => shelfmarklaw01_PackBack.j2.eq_2 ..) ?_
          simp only [Bool.false_eq_true, if_false]
          have e3 := GetTexts_ev B (0 + ((encN n).length : Int) + ((encT (bytesOf a1)).length : Int)) (l2.length : Int) 3000 hbB (by omega)
          rw [g3] at e3
          simp only [texts_lists] at e3
          refine Ev.bind e3 ?_
          simp only [if_true]
          refine Ev.bind (SameTexts_ev l2 (by omega)) ?_
          simp only [if_true, List.length_append]
          rw [show (0 + ((encN n).length : Int) + ((encT (bytesOf a1)).length : Int) + ((encL (lists l2)).length : Int) == (((encN n).length + (encT (bytesOf a1)).length + (encL (lists l2)).length : Nat) : Int)) = true by rw [beq_iff_eq]; omega]
          exact Ev.now _

end Go.Proofs.Ytdbikehjcmhjjaa.Pure
