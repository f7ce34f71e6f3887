-- Written by a program of this session for this claim (mp.py, over the kit's print); Lean checks it.
import Derived.Test.YtdaikljbljcagaaSh
import Derived.Test.YtdaikljbljcagaaPAllx0
namespace Go.Proofs.Ytdaikljbljcagaa.PAll
open Go.RowKit Go.Proofs.YtdaikljbljcagaaW.PrintWords Go.Proofs.YtdaikljbljcagaaW.PrintLast Go.Proofs.YtdaikljbljcagaaW.PrintMore Go.Proofs.Ytdaikljbljcagaa.Fv Go.Proofs.Ytdaikljbljcagaa.Hl
attribute [local go_sem] max2_int min2_int max_two min_two max_three min_three max_four min_four str_gtr str_leq str_geq cell_set2   -- for this text's walks alone
set_option linter.unusedVariables false
set_option linter.unusedSimpArgs false


/-! ### tuple_text: function 78 -/
def tuple_text.f (a0 : ByteArray) : Option (Int × Int × ByteArray × Int × Int) := if a0.size ≤ 140737488351232 then some (textS (a0.data.toList.drop 1) [] 1) else none
set_option maxHeartbeats 3000000 in
set_option maxRecDepth 100000 in
theorem tuple_text.calls (a0 : ByteArray) (r1 : Int) (r2 : Int) (r3 : ByteArray) (r4 : Int) (r5 : Int) (w : World) (h : tuple_text.f a0 = some (r1, r2, r3, r4, r5)) :
    Calls Try.prog 78 #[.string a0] w fun e w' => e = .returned (.tuple #[.agg #[.int .i64 r1, .int .i64 r2, .string r3], .int .i64 r4, .int .i64 r5]) ∧ Below w.heap.size w w' := by
  unfold tuple_text.f at h
  by_cases h0 : a0.size ≤ 140737488351232
  · rw [if_pos h0] at h
    replace h := Aside0.mk (Option.some.inj h)
    go_enter Try.func78, Try.ntmps78
    go_wp2
    obtain ⟨w2, hw2⟩ : ∃ w2, (w.alloc (.cells #[.int .i64 0, .int .i64 0, .string { data := #[] }] 105)).alloc (.cells #[.pointer none, .slice none 0 0] 117) = w2 := ⟨_, rfl⟩
    rw [hw2]
    have hsz : w2.heap.size = w.heap.size + 2 := by rw [← hw2]; simp
    have hb0 : Below w.heap.size w w2 := by rw [← hw2]; exact ((Below.refl _ _).alloc (Nat.le_refl _) _).alloc (by simp) _
    have hv : w2.heap[w.heap.size]? = some (.cells #[.int .i64 0, .int .i64 0, .string { data := #[] }] 105 (0, 0)) := by rw [← hw2, heap_alloc_old _ _ (by simp)]; exact heap_alloc_new _ _
    have hbd : Lib.IsBuilder 117 5 (w.heap.size + 1) (w.heap.size + 1) (Lib.byteCells []) w2 := by
      refine .inl ⟨Nat.le_refl _, .slice none 0 0, ?_, World.ownsRow_nil _ _ _ _, by simp [Value.ownBlock]⟩
      rw [← hw2]
      have := heap_alloc_new (w.alloc (.cells #[.int .i64 0, .int .i64 0, .string { data := #[] }] 105)) (.cells #[.pointer none, .slice none 0 0] 117)
      simpa using this
    have HS := Aside0.mk hsz
    have HB0 := Aside0.mk hb0
    have HV := Aside0.mk hv
    have HD := Aside0.mk hbd
    clear hsz hb0 hv hbd hw2
    go_loopg [6] (a0.size + 2) (fun kq v6 w' => ∃ (at_ : Nat) (acc : List UInt8), v6 = .int .i64 (at_ : Int) ∧ Aside0 (1 ≤ at_ ∧ acc.length ≤ at_ ∧ a0.size + 2 ≤ at_ + kq ∧ at_ ≤ a0.size + 1) ∧ Aside0 (textS (a0.data.toList.drop at_) acc at_ = textS (a0.data.toList.drop 1) [] 1) ∧ Aside0 (Lib.IsBuilder 117 5 (w.heap.size + 1) (w.heap.size + 1) (Lib.byteCells acc) w') ∧ Aside0 (Below (w.heap.size + 1) w2 w'))
    case atStart => exact ⟨1, [], rfl, ⟨by simp⟩, ⟨rfl⟩, HD, ⟨Below.refl _ _⟩⟩
    case round =>
      obtain ⟨at_, acc, rfl, HN, HT, HI, HW⟩ := hrel
      clear HD
      have hvr : wr.heap[w.heap.size]? = some (.cells #[.int .i64 0, .int .i64 0, .string { data := #[] }] 105 (0, 0)) := by rw [HW.out.block _ (by omega)]; exact HV.out
      have hc0 : wr.cell? ⟨w.heap.size, 0, none⟩ = some (.int .i64 0) := by simp [World.cell?, hvr]
      have hc1 : wr.cell? ⟨w.heap.size, 1, none⟩ = some (.int .i64 0) := by simp [World.cell?, hvr]
      have hc2 : wr.cell? ⟨w.heap.size, 2, none⟩ = some (.string { data := #[] }) := by simp [World.cell?, hvr]
      have hf0 : wr.frozen? ⟨w.heap.size, 0, none⟩ = false := by simp [World.frozen?, hvr]
      have hf1 : wr.frozen? ⟨w.heap.size, 1, none⟩ = false := by simp [World.frozen?, hvr]
      have hf2 : wr.frozen? ⟨w.heap.size, 2, none⟩ = false := by simp [World.frozen?, hvr]
      have hz := set3_cells (a := .int .i64 0) (b := .int .i64 0) (c := .string { data := #[] }) hvr
      have hz0 : (((wr.setCell ⟨w.heap.size, 0, none⟩ (.int .i64 0)).setCell ⟨w.heap.size, 1, none⟩ (.int .i64 0)).setCell ⟨w.heap.size, 2, none⟩ (.string { data := #[] })).cell? ⟨w.heap.size, 0, none⟩ = some (.int .i64 0) := by simp [World.cell?, hz]
      have hz1 : (((wr.setCell ⟨w.heap.size, 0, none⟩ (.int .i64 0)).setCell ⟨w.heap.size, 1, none⟩ (.int .i64 0)).setCell ⟨w.heap.size, 2, none⟩ (.string { data := #[] })).cell? ⟨w.heap.size, 1, none⟩ = some (.int .i64 0) := by simp [World.cell?, hz]
      have hz2 : (((wr.setCell ⟨w.heap.size, 0, none⟩ (.int .i64 0)).setCell ⟨w.heap.size, 1, none⟩ (.int .i64 0)).setCell ⟨w.heap.size, 2, none⟩ (.string { data := #[] })).cell? ⟨w.heap.size, 2, none⟩ = some (.string { data := #[] }) := by simp [World.cell?, hz]
      have HZ := Aside0.mk (show Below w.heap.size w (((wr.setCell ⟨w.heap.size, 0, none⟩ (.int .i64 0)).setCell ⟨w.heap.size, 1, none⟩ (.int .i64 0)).setCell ⟨w.heap.size, 2, none⟩ (.string { data := #[] })) from (((HB0.out.trans (HW.out.mono (by omega))).setCell (Nat.le_refl _) _).setCell (Nat.le_refl _) _).setCell (Nat.le_refl _) _)
      have HVR := Aside0.mk hvr
      clear hvr
      replace hz := Aside0.mk hz
      by_cases h1 : at_ < a0.size
      · have b1 : decide (a0.size ≤ at_) = false := decide_eq_false (by omega)
        have hd1 := drop_byte a0 at_ h1
        have hN := HN.out
        obtain ⟨gk, rfl⟩ : ∃ k, gk = k + 1 := ⟨gk - 1, by omega⟩
        by_cases h2 : a0[at_] = 0
        · have n1 : (((a0[at_]'h1).toNat : Int) == 0) = true := by rw [h2]; rfl
          have n2 : (((a0[at_]'h1).toNat : Int) != 0) = false := by rw [h2]; rfl
          by_cases h3 : at_ + 1 < a0.size
          · have hd2 := drop_byte a0 (at_ + 1) h3
            have b2 : decide ((a0.size : Int) ≤ (at_ : Int) + 1) = false := decide_eq_false (by omega)
            by_cases h4 : a0[at_ + 1] = 0
            · have n3 : (((a0[at_ + 1]'h3).toNat : Int) == 0) = true := by rw [h4]; rfl
              have hr := HT.out.trans h.out
              rw [hd1, hd2, h2, h4] at hr
              simp only [textS, if_true] at hr
              have e41 : ∀ args w, (callFunc 81 args).run Try.prog w = .ok (.enter 81 args) w := enters_of Try.func81 (by kernel_rfl) rfl
              have e42 : ∀ args w, (callFunc 82 args).run Try.prog w = .ok (.enter 82 args) w := enters_of Try.func82 (by kernel_rfl) rfl
              clear hN
              by_cases h5 : 32 < acc.length
              · rw [if_pos h5] at hr
                simp only [Prod.mk.injEq] at hr
                obtain ⟨rfl, rfl, rfl, rfl, rfl⟩ := hr
                have b3 : decide (32 < acc.length) = true := decide_eq_true h5
                go_wp2_with fail
                refine (Sh.len _ _ _ wr HI.out).mono ?_
                rintro e w3 ⟨rfl, hw3⟩
                rw [hw3, Lib.byteCells_length]
                go_wp2
                (try simp only [Exit.inBlock, Exit.then])
                refine bodyPost_ret (results_ctt rfl _ _ w.heap.size 105 #[.int .i64 0, .int .i64 0, .string { data := #[] }] (0, 0) _ rfl (hz.out) Try.underlying105 rfl (by kernel_rfl)) rfl ?_
                exact ⟨rfl, HZ.out⟩
              · rw [if_neg h5] at hr
                simp only [Prod.mk.injEq] at hr
                obtain ⟨rfl, rfl, rfl, rfl, rfl⟩ := hr
                have b3 : decide (32 < acc.length) = false := decide_eq_false h5
                have hwr : w.heap.size + 1 ≤ wr.heap.size := by have := HW.out.size; have := HS.out; omega
                go_wp2_with fail
                refine (Sh.len _ _ _ wr HI.out).mono ?_
                rintro e w3 ⟨rfl, hw3⟩
                rw [hw3, Lib.byteCells_length]
                go_wp2_with fail
                refine (Sh.text _ _ _ wr HI.out hwr).mono ?_
                rintro e w4 ⟨rfl, hb4⟩
                have hv4 : w4.heap[w.heap.size]? = some (.cells #[.int .i64 0, .int .i64 0, .string { data := #[] }] 105 (0, 0)) := by rw [hb4.block _ (by omega)]; exact HVR.out
                have hf40 : w4.frozen? ⟨w.heap.size, 0, none⟩ = false := by simp [World.frozen?, hv4]
                have hf41 : w4.frozen? ⟨w.heap.size, 1, none⟩ = false := by simp [World.frozen?, hv4]
                have hf42 : w4.frozen? ⟨w.heap.size, 2, none⟩ = false := by simp [World.frozen?, hv4]
                have hy0 : w4.cell? ⟨w.heap.size, 0, none⟩ = some (.int .i64 0) := by simp [World.cell?, hv4]
                have hy1 : w4.cell? ⟨w.heap.size, 1, none⟩ = some (.int .i64 0) := by simp [World.cell?, hv4]
                have hy2 : w4.cell? ⟨w.heap.size, 2, none⟩ = some (.string { data := #[] }) := by simp [World.cell?, hv4]
                have hq := Aside0.mk (set3_cells (a := .int .i64 2) (b := .int .i64 0) (c := .string ⟨acc.toArray⟩) hv4)
                have HQ := Aside0.mk (show Below w.heap.size w (((w4.setCell ⟨w.heap.size, 0, none⟩ (.int .i64 2)).setCell ⟨w.heap.size, 1, none⟩ (.int .i64 0)).setCell ⟨w.heap.size, 2, none⟩ (.string ⟨acc.toArray⟩)) from ((((HB0.out.trans (HW.out.mono (by omega))).trans (hb4.mono (by omega))).setCell (Nat.le_refl _) _).setCell (Nat.le_refl _) _).setCell (Nat.le_refl _) _)
                clear hb4 hv4
                go_wp2
                (try simp only [Exit.inBlock, Exit.then])
                refine bodyPost_ret (results_ctt rfl _ _ w.heap.size 105 #[.int .i64 2, .int .i64 0, .string ⟨acc.toArray⟩] (0, 0) _ rfl (hq.out) Try.underlying105 rfl (by kernel_rfl)) rfl ?_
                exact ⟨rfl, HQ.out⟩
            · have n3 : (((a0[at_ + 1]'h3).toNat : Int) == 0) = false := by
                rw [beq_eq_false_iff_ne]; intro e; apply h4; exact UInt8.toNat_inj.1 (by simpa using e)
              by_cases h5 : a0[at_ + 1] = 255
              · have n4 : (((a0[at_ + 1]'h3).toNat : Int) == 255) = true := by rw [h5]; rfl
                have hT := HT.out
                rw [hd1, hd2, h2, h5] at hT
                simp only [textS, if_true] at hT
                rw [if_neg (by decide)] at hT
                have e40 : ∀ args w, (callFunc 80 args).run Try.prog w = .ok (.enter 80 args) w := enters_of Try.func80 (by kernel_rfl) rfl
                have hwr : w.heap.size + 1 ≤ wr.heap.size := by have := HW.out.size; have := HS.out; omega
                go_wp2_with fail
                refine (Sh.writeByte _ _ _ _ wr HI.out (by rw [Lib.byteCells_length]; omega) hwr).mono ?_
                rintro e w3 ⟨rfl, h3', hb3⟩
                replace h3' := Aside0.mk h3'
                replace hb3 := Aside0.mk hb3
                go_wp2
                go_roundg gk
                case measure => omega
                case rel => exact ⟨at_ + 2, acc ++ [0], by first | rfl | (simp; omega), ⟨by simp; omega⟩, ⟨hT⟩, ⟨.inr (by rw [Lib.byteCells_append]; exact h3'.out)⟩, ⟨HW.out.trans hb3.out⟩⟩
              · have n4 : (((a0[at_ + 1]'h3).toNat : Int) == 255) = false := by
                  rw [beq_eq_false_iff_ne]; intro e; apply h5; exact UInt8.toNat_inj.1 (by show _ = 255; omega)
                have hr := HT.out.trans h.out
                rw [hd1, hd2, h2] at hr
                simp only [textS, if_true] at hr
                rw [if_neg h4, if_neg h5] at hr
                simp only [Prod.mk.injEq] at hr
                obtain ⟨rfl, rfl, rfl, rfl, rfl⟩ := hr
                clear hN
                go_wp2
                (try simp only [Exit.inBlock, Exit.then])
                refine bodyPost_ret (results_ctt rfl _ _ w.heap.size 105 #[.int .i64 0, .int .i64 0, .string { data := #[] }] (0, 0) _ rfl (hz.out) Try.underlying105 rfl (by kernel_rfl)) rfl ?_
                exact ⟨rfl, HZ.out⟩
          · have b2 : decide ((a0.size : Int) ≤ (at_ : Int) + 1) = true := decide_eq_true (by omega)
            have hd2 : a0.data.toList.drop (at_ + 1) = [] := List.drop_eq_nil_of_le (by rw [data_length]; omega)
            have hr := HT.out.trans h.out
            rw [hd1, hd2] at hr
            simp only [textS, Prod.mk.injEq] at hr
            obtain ⟨rfl, rfl, rfl, rfl, rfl⟩ := hr
            clear hN
            go_wp2
            (try simp only [Exit.inBlock, Exit.then])
            refine bodyPost_ret (results_ctt rfl _ _ w.heap.size 105 #[.int .i64 0, .int .i64 0, .string { data := #[] }] (0, 0) _ rfl (hz.out) Try.underlying105 rfl (by kernel_rfl)) rfl ?_
            exact ⟨rfl, HZ.out⟩
        · have n1 : (((a0[at_]'h1).toNat : Int) == 0) = false := by
            rw [beq_eq_false_iff_ne]; intro e; apply h2; exact UInt8.toNat_inj.1 (by simpa using e)
          have n2 : (((a0[at_]'h1).toNat : Int) != 0) = true := by simpa using n1
          have e40 : ∀ args w, (callFunc 80 args).run Try.prog w = .ok (.enter 80 args) w := enters_of Try.func80 (by kernel_rfl) rfl
          have hwr : w.heap.size + 1 ≤ wr.heap.size := by have := HW.out.size; have := HS.out; omega
          have hT : textS (a0.data.toList.drop (at_ + 1)) (acc ++ [a0[at_]]) (at_ + 1) = textS (a0.data.toList.drop 1) [] 1 := by
            rw [← HT.out, hd1]
            by_cases h3 : at_ + 1 < a0.size
            · rw [drop_byte a0 (at_ + 1) h3]
              conv => rhs; rw [textS, if_neg h2]
            · have hd2 : a0.data.toList.drop (at_ + 1) = [] := List.drop_eq_nil_of_le (by rw [data_length]; omega)
              rw [hd2]
              rfl
          go_wp2_with fail
          refine (Sh.writeByte _ _ _ _ wr HI.out (by rw [Lib.byteCells_length]; omega) hwr).mono ?_
          rintro e w3 ⟨rfl, h3, hb3⟩
          replace h3 := Aside0.mk h3
          replace hb3 := Aside0.mk hb3
          go_wp2
          go_roundg gk
          case measure => omega
          case rel => exact ⟨at_ + 1, acc ++ [a0[at_]], by first | rfl | (simp; omega), ⟨by simp; omega⟩, ⟨hT⟩, ⟨.inr (by rw [Lib.byteCells_append]; exact h3.out)⟩, ⟨HW.out.trans hb3.out⟩⟩
      · have b1 : decide (a0.size ≤ at_) = true := decide_eq_true (by omega)
        have hd : a0.data.toList.drop at_ = [] := List.drop_eq_nil_of_le (by rw [data_length]; omega)
        have hr := HT.out.trans h.out
        rw [hd] at hr
        simp only [textS, Prod.mk.injEq] at hr
        obtain ⟨rfl, rfl, rfl, rfl, rfl⟩ := hr
        go_wp2
        (try simp only [Exit.inBlock, Exit.then])
        refine bodyPost_ret (results_ctt rfl _ _ w.heap.size 105 #[.int .i64 0, .int .i64 0, .string { data := #[] }] (0, 0) _ rfl (hz.out) Try.underlying105 rfl (by kernel_rfl)) rfl ?_
        exact ⟨rfl, HZ.out⟩
  · rw [if_neg h0] at h
    exact absurd h (by simp)

/-! ### tuple_one: function 75 -/
def tuple_one.f (a0 : ByteArray) : Option (Int × Int × ByteArray × Int × Int) := if a0.size ≤ 140737488351232 then oneS a0 a0.data.toList else none
set_option maxHeartbeats 3000000 in
set_option maxRecDepth 100000 in
theorem tuple_one.calls (a0 : ByteArray) (r1 : Int) (r2 : Int) (r3 : ByteArray) (r4 : Int) (r5 : Int) (w : World) (h : tuple_one.f a0 = some (r1, r2, r3, r4, r5)) :
    Calls Try.prog 75 #[.string a0] w fun e w' => e = .returned (.tuple #[.agg #[.int .i64 r1, .int .i64 r2, .string r3], .int .i64 r4, .int .i64 r5]) ∧ Below w.heap.size w w' := by
  unfold tuple_one.f at h
  by_cases h0 : a0.size ≤ 140737488351232
  · rw [if_pos h0] at h
    by_cases hp : 0 < a0.size
    · have hl := drop_byte a0 0 hp
      rw [List.drop_zero] at hl
      rw [hl] at h
      simp only [oneS, Option.some.injEq] at h
      clear hl
      go_enter Try.func75, Try.ntmps75
      obtain ⟨w2, hw2⟩ : ∃ w2, w.alloc (.cells #[.int .i64 0, .int .i64 0, .string { data := #[] }] 105) = w2 := ⟨_, rfl⟩
      have hb0 : Below w.heap.size w w2 := by rw [← hw2]; exact (Below.refl _ _).alloc (Nat.le_refl _) _
      have hsz : w2.heap.size = w.heap.size + 1 := by rw [← hw2]; simp
      have hv : w2.heap[w.heap.size]? = some (.cells #[.int .i64 0, .int .i64 0, .string { data := #[] }] 105 (0, 0)) := by rw [← hw2]; exact heap_alloc_new _ _
      have hf0 : w2.frozen? ⟨w.heap.size, 0, none⟩ = false := by simp [World.frozen?, hv]
      have hf1 : w2.frozen? ⟨w.heap.size, 1, none⟩ = false := by simp [World.frozen?, hv]
      have hf2 : w2.frozen? ⟨w.heap.size, 2, none⟩ = false := by simp [World.frozen?, hv]
      have hc0 : w2.cell? ⟨w.heap.size, 0, none⟩ = some (.int .i64 0) := by simp [World.cell?, hv]
      have hc1 : w2.cell? ⟨w.heap.size, 1, none⟩ = some (.int .i64 0) := by simp [World.cell?, hv]
      have hc2 : w2.cell? ⟨w.heap.size, 2, none⟩ = some (.string { data := #[] }) := by simp [World.cell?, hv]
      have hz := Aside0.mk (set3_cells (a := .int .i64 0) (b := .int .i64 0) (c := .string { data := #[] }) hv)
      have HZ := Aside0.mk (show Below w.heap.size w (((w2.setCell ⟨w.heap.size, 0, none⟩ (.int .i64 0)).setCell ⟨w.heap.size, 1, none⟩ (.int .i64 0)).setCell ⟨w.heap.size, 2, none⟩ (.string { data := #[] })) from ((hb0.setCell (Nat.le_refl _) _).setCell (Nat.le_refl _) _).setCell (Nat.le_refl _) _)
      have HV := Aside0.mk hv
      have HB0 := Aside0.mk hb0
      have HS := Aside0.mk hsz
      clear hv hb0 hsz
      by_cases h1 : a0[0] = 1
      · rw [if_pos h1] at h
        simp only [Prod.mk.injEq] at h
        obtain ⟨rfl, rfl, rfl, rfl, rfl⟩ := h
        have n1 : (((a0[0]'hp).toNat : Int) == 1) = true := by rw [h1]; rfl
        go_wp2_with (rw [hw2])
        (try simp only [Exit.inBlock, Exit.then])
        refine bodyPost_ret (results_ctt rfl _ _ w.heap.size 105 #[.int .i64 0, .int .i64 0, .string { data := #[] }] (0, 0) _ rfl (hz.out) Try.underlying105 rfl (by kernel_rfl)) rfl ?_
        exact ⟨rfl, HZ.out⟩
      · rw [if_neg h1] at h
        have n1 : (((a0[0]'hp).toNat : Int) == 1) = false := by
          rw [beq_eq_false_iff_ne]; intro e; apply h1; exact UInt8.toNat_inj.1 (by show _ = 1; omega)
        by_cases h2 : a0[0] = 2
        · rw [if_pos h2] at h
          have n2 : (((a0[0]'hp).toNat : Int) == 2) = true := by rw [h2]; rfl
          by_cases h3 : a0.size < 9
          · rw [if_pos h3] at h
            simp only [Prod.mk.injEq] at h
            obtain ⟨rfl, rfl, rfl, rfl, rfl⟩ := h
            have b1 : decide (a0.size < 9) = true := decide_eq_true h3
            go_wp2_with (rw [hw2])
            (try simp only [Exit.inBlock, Exit.then])
            refine bodyPost_ret (results_ctt rfl _ _ w.heap.size 105 #[.int .i64 0, .int .i64 0, .string { data := #[] }] (0, 0) _ rfl (hz.out) Try.underlying105 rfl (by kernel_rfl)) rfl ?_
            exact ⟨rfl, HZ.out⟩
          · rw [if_neg h3] at h
            simp only [Prod.mk.injEq] at h
            obtain ⟨rfl, rfl, rfl, rfl, rfl⟩ := h
            have b1 : decide (a0.size < 9) = false := decide_eq_false h3
            have b9 : (9 : Int) ≤ (a0.size : Int) := by omega
            have hcs : (a0.extract 1 9).size = 8 := by rw [ByteArray.size_extract]; omega
            have hls : (bytesOf (a0.extract 1 9)).length = 8 := by rw [bytesOf_length, hcs]
            generalize hcut : a0.extract 1 9 = cut at hcs hls
            go_wp2_with (first | rw [hw2] | ((with_reducible refine gate_dst (N := 21) rfl ?_); refine bytes_event2 (N := 21) rfl rfl 9 110 5 _ rfl cut (by rw [← hcut]; rfl) Try.underlying9 Try.underlying110 Try.underlying5 (by omega) ?_; rw [hls]; intro w3 c hb hlt hC hc hf; clear hf hc))
            have HC := Aside0.mk hC
            have hb3 : Below w2.heap.size w2 w3 := hb
            have HB3 := Aside0.mk hb3
            clear hC hb hlt hb3
            go_loopg [5, 23] 8 (fun kq v5 v23 w' => ∃ (i : Nat) (x : Int), v5 = .int .u64 x ∧ v23 = .int .i64 (i : Int) ∧ i + kq = 8 ∧ Aside0 (x = beNum ((bytesOf cut).take i)) ∧ Aside0 (Below w3.heap.size w3 w'))
            case atStart => exact ⟨0, 0, rfl, rfl, by omega, ⟨rfl⟩, ⟨Below.refl _ _⟩⟩
            case round =>
              obtain ⟨i, x, rfl, rfl, hi, HX, HW⟩ := hrel
              cases gk with
              | zero =>
                obtain rfl : i = 8 := by omega
                have hv3 : w3.heap[w.heap.size]? = some (.cells #[.int .i64 0, .int .i64 0, .string { data := #[] }] 105 (0, 0)) := by rw [HB3.out.block _ (by rw [HS.out]; omega)]; exact HV.out
                have hvr : wr.heap[w.heap.size]? = some (.cells #[.int .i64 0, .int .i64 0, .string { data := #[] }] 105 (0, 0)) := by rw [HW.out.block _ (by have := HB3.out.size; have := HS.out; omega)]; exact hv3
                have hf30 : wr.frozen? ⟨w.heap.size, 0, none⟩ = false := by simp [World.frozen?, hvr]
                have hf31 : wr.frozen? ⟨w.heap.size, 1, none⟩ = false := by simp [World.frozen?, hvr]
                have hf32 : wr.frozen? ⟨w.heap.size, 2, none⟩ = false := by simp [World.frozen?, hvr]
                have hy0 : wr.cell? ⟨w.heap.size, 0, none⟩ = some (.int .i64 0) := by simp [World.cell?, hvr]
                have hy1 : wr.cell? ⟨w.heap.size, 1, none⟩ = some (.int .i64 0) := by simp [World.cell?, hvr]
                have hy2 : wr.cell? ⟨w.heap.size, 2, none⟩ = some (.string { data := #[] }) := by simp [World.cell?, hvr]
                have hq := Aside0.mk (set3_cells (a := .int .i64 1) (b := .int .i64 (beInt x)) (c := .string { data := #[] }) hvr)
                have HQ := Aside0.mk (show Below w.heap.size w (((wr.setCell ⟨w.heap.size, 0, none⟩ (.int .i64 1)).setCell ⟨w.heap.size, 1, none⟩ (.int .i64 (beInt x))).setCell ⟨w.heap.size, 2, none⟩ (.string { data := #[] })) from ((((HB0.out.trans (HB3.out.mono (by rw [HS.out]; omega))).trans (HW.out.mono (by have := HB3.out.size; have := HS.out; omega))).setCell (Nat.le_refl _) _).setCell (Nat.le_refl _) _).setCell (Nat.le_refl _) _)
                clear hv3 hvr
                unfold beInt at hq HQ
                go_wp2
                (try simp only [Exit.inBlock, Exit.then])
                refine bodyPost_ret (results_ctt rfl _ _ w.heap.size 105 #[.int .i64 1, .int .i64 (beInt x), .string { data := #[] }] (0, 0) _ rfl (hq.out) Try.underlying105 rfl (by kernel_rfl)) rfl ?_
                refine ⟨?_, HQ.out⟩
                rw [HX.out, List.take_of_length_le (by omega)]
                rfl
              | succ k1 =>
                have b2 : decide ((i : Int) < 8) = true := decide_eq_true (by omega)
                obtain ⟨ad1, e1, hx1⟩ := Kd.at_int (Kd.C_below HC.out HW.out) (i : Int) (by omega) (by omega)
                cases e1
                simp only [add_plain, Int.toNat_natCast] at hx1
                go_wp2
                go_roundg k1
                case measure => omega
                case rel =>
                  refine ⟨i + 1, _, rfl, by first | rfl | (simp; done) | (simp; omega), by omega, ⟨?_⟩, HW⟩
                  rw [take_last _ i (by omega), beNum, List.foldl_append]
                  show _ = beNext (beNum ((bytesOf cut).take i)) _
                  rw [← HX.out]
                  rfl
        · rw [if_neg h2] at h
          have n2 : (((a0[0]'hp).toNat : Int) == 2) = false := by
            rw [beq_eq_false_iff_ne]; intro e; apply h2; exact UInt8.toNat_inj.1 (by show _ = 2; omega)
          by_cases h3 : a0[0] = 3
          · rw [if_pos h3] at h
            have n3 : (((a0[0]'hp).toNat : Int) == 3) = true := by rw [h3]; rfl
            have e35 : ∀ args w, (callFunc 78 args).run Try.prog w = .ok (.enter 78 args) w := enters_of Try.func78 (by kernel_rfl) rfl
            have hT := tuple_text.calls a0 r1 r2 r3 r4 r5 w2 (by unfold tuple_text.f; rw [if_pos h0, h])
            go_wp2_with (first | rw [hw2] | fail)
            refine hT.mono ?_
            rintro e w3 ⟨rfl, hb⟩
            have hv3 : w3.heap[w.heap.size]? = some (.cells #[.int .i64 0, .int .i64 0, .string { data := #[] }] 105 (0, 0)) := by rw [hb.block _ (by rw [HS.out]; omega)]; exact HV.out
            have hf30 : w3.frozen? ⟨w.heap.size, 0, none⟩ = false := by simp [World.frozen?, hv3]
            have hf31 : w3.frozen? ⟨w.heap.size, 1, none⟩ = false := by simp [World.frozen?, hv3]
            have hf32 : w3.frozen? ⟨w.heap.size, 2, none⟩ = false := by simp [World.frozen?, hv3]
            have hy0 : w3.cell? ⟨w.heap.size, 0, none⟩ = some (.int .i64 0) := by simp [World.cell?, hv3]
            have hy1 : w3.cell? ⟨w.heap.size, 1, none⟩ = some (.int .i64 0) := by simp [World.cell?, hv3]
            have hy2 : w3.cell? ⟨w.heap.size, 2, none⟩ = some (.string { data := #[] }) := by simp [World.cell?, hv3]
            have hq := Aside0.mk (set3_cells (a := .int .i64 r1) (b := .int .i64 r2) (c := .string r3) hv3)
            have HQ := Aside0.mk (show Below w.heap.size w (((w3.setCell ⟨w.heap.size, 0, none⟩ (.int .i64 r1)).setCell ⟨w.heap.size, 1, none⟩ (.int .i64 r2)).setCell ⟨w.heap.size, 2, none⟩ (.string r3)) from (((HB0.out.trans (hb.mono (by rw [HS.out]; omega))).setCell (Nat.le_refl _) _).setCell (Nat.le_refl _) _).setCell (Nat.le_refl _) _)
            clear hv3 hb
            go_wp2
            (try simp only [Exit.inBlock, Exit.then])
            refine bodyPost_ret (results_ctt rfl _ _ w.heap.size 105 #[.int .i64 r1, .int .i64 r2, .string r3] (0, 0) _ rfl (hq.out) Try.underlying105 rfl (by kernel_rfl)) rfl ?_
            exact ⟨rfl, HQ.out⟩
          · rw [if_neg h3] at h
            simp only [Prod.mk.injEq] at h
            obtain ⟨rfl, rfl, rfl, rfl, rfl⟩ := h
            have n3 : (((a0[0]'hp).toNat : Int) == 3) = false := by
              rw [beq_eq_false_iff_ne]; intro e; apply h3; exact UInt8.toNat_inj.1 (by show _ = 3; omega)
            go_wp2_with (rw [hw2])
            (try simp only [Exit.inBlock, Exit.then])
            refine bodyPost_ret (results_ctt rfl _ _ w.heap.size 105 #[.int .i64 0, .int .i64 0, .string { data := #[] }] (0, 0) _ rfl (hz.out) Try.underlying105 rfl (by kernel_rfl)) rfl ?_
            exact ⟨rfl, HZ.out⟩
    · have : a0.data.toList = [] := List.eq_nil_of_length_eq_zero (by rw [data_length]; omega)
      rw [this] at h
      cases h
  · rw [if_neg h0] at h
    exact absurd h (by simp)

end Go.Proofs.Ytdaikljbljcagaa.PAll
