-- Written by a program of this session for this claim (mp.py, over the kit's print); Lean checks it.
import Derived.Test.YtdaidcfpikeooaaDoorPAllx0
import Derived.Test.YtdaidcfpikeooaaDoorPAllx6
namespace Go.Proofs.YtdaidcfpikeooaaDoor.PAll
open Go.RowKit Go.Proofs.YtdaidcfpikeooaaDoorW.PrintWords Go.Proofs.YtdaidcfpikeooaaDoorW.PrintLast Go.Proofs.YtdaidcfpikeooaaDoorW.PrintMore Go.Proofs.YtdaidcfpikeooaaDoor.Fv Go.Proofs.YtdaidcfpikeooaaDoor.Hl
attribute [local go_sem] max2_int min2_int max_two min_two max_three min_three max_four min_four str_gtr str_leq str_geq   -- for this text's walks alone
set_option linter.unusedVariables false
set_option linter.unusedSimpArgs false

/-! ### shelfmarkref03_Next: function 15 -/
def shelfmarkref03_Next.f (a0 : ByteArray) : Option ByteArray := if a0.size ≤ 140737488351232 then some (strOfNums (nextL (bytesOf a0))) else none
set_option maxHeartbeats 3000000 in
set_option maxRecDepth 100000 in
theorem shelfmarkref03_Next.calls (a0 : ByteArray) (r : ByteArray) (w : World) (h : shelfmarkref03_Next.f a0 = some r) :
    Calls Tryd.prog 15 #[.string a0] w fun e w' => e = .returned (.string r) ∧ Below w.heap.size w w' := by
  unfold shelfmarkref03_Next.f at h
  by_cases h0 : a0.size ≤ 140737488351232
  · rw [if_pos h0] at h
    obtain rfl := Option.some.inj h
    clear h
    have hl : (bytesOf a0).length ≤ 140737488351232 := by rw [bytesOf_length]; exact h0
    have hls : (bytesOf a0).length = a0.size := bytesOf_length a0
    go_enter Tryd.func15, Tryd.ntmps15
    go_wp2
    go_loopg [3] (a0.size + 1) (fun kq v3 w' => ∃ (n : Nat), v3 = .int .i64 (n : Int) ∧ Aside0 (strip255 ((bytesOf a0).take n) = strip255 (bytesOf a0)) ∧ Aside0 (n < kq) ∧ Aside0 (n ≤ a0.size) ∧ Aside0 (Below w.heap.size w w'))
    case atStart => exact ⟨a0.size, rfl, ⟨by rw [← hls, List.take_length]⟩, ⟨by omega⟩, ⟨Nat.le_refl _⟩, ⟨Below.refl _ _⟩⟩
    case round =>
      obtain ⟨n, rfl, HS, HK, HN, HW⟩ := hrel
      rcases n with _ | m
      · go_wp2
        go_ret
        refine ⟨?_, HW.out⟩
        have h1 : strip255 (bytesOf a0) = [] := by rw [← HS.out]; rfl
        simp [nextL, h1]
        rfl
      · have hm : m < (bytesOf a0).length := by rw [hls]; exact HN.out
        have b1 : decide (0 < ((m + 1 : Nat) : Int)) = true := decide_eq_true (by omega)
        obtain ⟨k1, rfl⟩ : ∃ k1, gk = k1 + 1 := ⟨gk - 1, by have := HK.out; omega⟩
        have hm' : m < a0.size := HN.out
        have hrd := rd_bytesOf a0 m hm'
        by_cases hv : rd (bytesOf a0) (m : Int) = 255
        · have b2 : (((a0[m]'hm').toNat : Int) == 255) = true := by rw [beq_iff_eq, ← hrd]; exact hv
          clear hrd
          go_wp2
          go_roundg k1
          case measure => have := HK.out; omega
          case rel =>
            refine ⟨m, rfl, ⟨?_⟩, ⟨by have := HK.out; omega⟩, ⟨by omega⟩, HW⟩
            rw [← HS.out, take_last _ m hm, hv, strip255_concat, if_pos rfl]
        · have b2 : (((a0[m]'hm').toNat : Int) == 255) = false := by rw [beq_eq_false_iff_ne, ← hrd]; exact hv
          clear hrd
          have b3 : (((m + 1 : Nat) : Int) == 0) = false := by rw [beq_eq_false_iff_ne]; omega
          have hlx : (bytesOf (a0.extract 0 (m + 1))).length = m + 1 := by rw [bytesOf_cut, List.length_take]; omega
          have hsx : (a0.extract 0 (m + 1)).size ≤ 140737488351232 := by rw [← bytesOf_length, hlx]; omega
          go_wp2_with (first | (with_reducible refine gate_dst (N := 23) rfl ?_); refine bytes_event2 (N := 23) rfl rfl 9 42 5 _ rfl (a0.extract 0 (m + 1)) rfl Tryd.underlying9 Tryd.underlying42 Tryd.underlying5 hsx ?_; rw [hlx]; intro w1 c hb hlt hC hc hf; obtain ⟨ad1, e1, hx1⟩ := Kd.at_int hC (m : Int) (by omega) (by omega); cases e1; simp only [add_plain, Int.toNat_natCast] at hx1; rw [bytesOf_cut] at hC hx1; have hrx : rd ((bytesOf a0).take (m + 1)) (m : Int) = rd (bytesOf a0) (m : Int) := (by simp [rd]); rw [hrx] at hx1; have b4 := hf m (by omega); have hC2 := C_setCell hC m ((rd (bytesOf a0) (m : Int) + 1) % 256) (by omega); rw [next_set _ m hm hv HS.out] at hC2; have hcv := Kd.C_string (P := Tryd.prog) (c := c) Tryd.underlying42 Tryd.underlying5 Tryd.underlying9 hC2; have HZ := Aside0.mk (below_step HW.out hb); have HY := HW.out.size; clear hb hlt hC hc hf hrx)
          go_ret
          exact ⟨by rfl, HZ.out.setCell HY _⟩
  · rw [if_neg h0] at h
    exact absurd h (by simp)

/-! ### shelfmarklaw03_TupleNext: function 4 -/
def shelfmarklaw03_TupleNext.j0 : Nat → ByteArray → ByteArray → Bool → Option (Bool)
  | 0, _, _, _ => none
  | k + 1, x0, x1, x16 => if x16 = true then (some true) else ((tuple_Next.f x0).bind fun t186 => ((shelfmarkref03_Next.f x0).bind fun t187 => (if t186.toList = t187.toList then (if (x1.size : Int) ≥ (x0.size : Int) then (if 0 ≤ (x0.size : Int) then (if (x0.size : Int) ≤ (x1.size : Int) then (if t186.toList = ([] : List UInt8) then (some (((x1.extract 0 ((x0.size : Int) : Int).toNat).toList == x0.toList) == (!(Op.bytesLess x1.toList x0.toList)))) else (if ((Op.bytesLess x1.toList x0.toList) = true) then (some (((x1.extract 0 ((x0.size : Int) : Int).toNat).toList == x0.toList) == false)) else (some (((x1.extract 0 ((x0.size : Int) : Int).toNat).toList == x0.toList) == (Op.bytesLess x1.toList t186.toList))))) else (none)) else (none)) else (if t186.toList = ([] : List UInt8) then (some (false == (!(Op.bytesLess x1.toList x0.toList)))) else (if ((Op.bytesLess x1.toList x0.toList) = true) then (some (false == false)) else (some (false == (Op.bytesLess x1.toList t186.toList)))))) else (some false))))
def shelfmarklaw03_TupleNext.f (k : Nat) (a0 : ByteArray) (a1 : ByteArray) : Option (Bool) := (shelfmarklaw03_awake.f k).bind fun t185 => (if t185 = true then (if (a0.size : Int) > 200 then (shelfmarklaw03_TupleNext.j0 k a0 a1 true) else (shelfmarklaw03_TupleNext.j0 k a0 a1 (decide ((a1.size : Int) > 200)))) else (some false))
theorem shelfmarklaw03_TupleNext.mono_l : ∀ k, (∀ y0 y1 y2, LeO (shelfmarklaw03_TupleNext.j0 k y0 y1 y2) (shelfmarklaw03_TupleNext.j0 (k + 1) y0 y1 y2))
  | 0 => fun _ _ _ r h => by simp [shelfmarklaw03_TupleNext.j0] at h
  | k + 1 => by
    have ih0 := shelfmarklaw03_TupleNext.mono_l k
    · intro y0 y1 y2
      unfold shelfmarklaw03_TupleNext.j0
      repeat' first
      | (with_reducible exact ih0 _ _ _)
      | (with_reducible exact shelfmarklaw03_awake.mono _)
      | (with_reducible exact LeO.refl _)
      | (with_reducible exact LeO.none _)
      | (with_reducible refine LeO.ite ?_ ?_)
      | (with_reducible refine LeO.bind ?_ (fun _ => ?_))
      | exact ih0 _ _ _
      | exact shelfmarklaw03_awake.mono _
      | exact LeO.none _
      | refine LeO.ite ?_ ?_
      | refine LeO.bind ?_ (fun _ => ?_)
theorem shelfmarklaw03_TupleNext.mono : ∀ a0 a1 k, LeO (shelfmarklaw03_TupleNext.f k a0 a1) (shelfmarklaw03_TupleNext.f (k + 1) a0 a1) := by
  intro a0 a1 k
  have ih0 := shelfmarklaw03_TupleNext.mono_l k
  unfold shelfmarklaw03_TupleNext.f
  repeat' first
      | (with_reducible exact ih0 _ _ _)
      | (with_reducible exact shelfmarklaw03_awake.mono _)
      | (with_reducible exact LeO.refl _)
      | (with_reducible exact LeO.none _)
      | (with_reducible refine LeO.ite ?_ ?_)
      | (with_reducible refine LeO.bind ?_ (fun _ => ?_))
      | exact ih0 _ _ _
      | exact shelfmarklaw03_awake.mono _
      | exact LeO.none _
      | refine LeO.ite ?_ ?_
      | refine LeO.bind ?_ (fun _ => ?_)
set_option maxHeartbeats 3000000 in
set_option maxRecDepth 100000 in
theorem shelfmarklaw03_TupleNext.calls (k : Nat) (a0 : ByteArray) (a1 : ByteArray) (r : Bool) (w : World) (h : shelfmarklaw03_TupleNext.f k a0 a1 = some r) :
    Calls Tryd.prog 4 #[.string a0, .string a1] w fun e w' => e = .returned (.bool r) ∧ Below w.heap.size w w' := by
  have HB := Aside0.mk (Below.refl w.heap.size w)
  have H : ((shelfmarklaw03_awake.f k).bind fun t185 => (if t185 = true then (if (a0.size : Int) > 200 then (shelfmarklaw03_TupleNext.j0 k a0 a1 true) else (shelfmarklaw03_TupleNext.j0 k a0 a1 (decide ((a1.size : Int) > 200)))) else (some false))) = some r := h
  clear h
  replace H := Option.bind_eq_some_iff.mp H
  obtain ⟨t185, A30, H⟩ := H
  replace H : (if t185 = true then (if (a0.size : Int) > 200 then (shelfmarklaw03_TupleNext.j0 k a0 a1 true) else (shelfmarklaw03_TupleNext.j0 k a0 a1 (decide ((a1.size : Int) > 200)))) else (some false)) = some r := H
  have A3 := Aside0.mk A30
  clear A30
  by_cases c4 : t185 = true
  · subst c4
    have H1 : (if (a0.size : Int) > 200 then (shelfmarklaw03_TupleNext.j0 k a0 a1 true) else (shelfmarklaw03_TupleNext.j0 k a0 a1 (decide ((a1.size : Int) > 200)))) = some r := by rw [if_pos rfl] at H; exact H
    clear H
    have H := H1
    clear H1
    have HC5 := Aside0.mk H
    clear H
    go_enter Tryd.func4, Tryd.ntmps4
    go_upto_region 3 with (first | ((with_reducible refine gate_callee (f := 8) rfl ?_); refine goesL_ (some 7) rfl rfl Tryd.func8 (by kernel_rfl) rfl #[] rfl (by (try simp only [List.map_toArray, List.map_cons, List.map_nil]); first | done | rfl | (simp only [List.length_drop, List.length_take]; rfl)) ?_; (with_reducible refine (shelfmarklaw03_awake.calls k  true _ A3.out).mono ?_); rintro e w6 ⟨rfl, hb⟩; refine ⟨_, rfl, ?_⟩; have n0_ := Aside0.mk (below_step (by repeat (first | (with_reducible first | exact HB.out | apply below_alloc | apply pw_below_drewN | apply below_drew1) | exact HB.out)) hb); clear HB; have HB := n0_; clear n0_; (try clear hb); (try clear hb2); (try clear hk); (try clear hi)))
    (try simp only [Act.put, List.setIfInBounds_toArray, List.set_cons_zero, List.set_cons_succ])
    go_cut [16] (fun v16 wc => ∃ (kq : Nat) (x16_4 : Bool), v16 = .bool x16_4 ∧ Aside0 (shelfmarklaw03_TupleNext.j0 kq a0 a1 x16_4 = some r) ∧ Aside0 (kq ≤ k) ∧ Aside0 (Below w.heap.size w wc))
    case first =>
      have H := HC5.out
      clear HC5
      by_cases c7 : (a0.size : Int) > 200
      · rw [if_pos c7] at H
        have c7b0 : decide (200 < (a0.size : Int)) = true := decide_eq_true c7
        have c7b1 : decide (200 < a0.size) = true := decide_eq_true (by omega)
        clear c7
        (first | rw [c7b0] | (simp only [i64_w, i32_w]; rw [c7b0]) | skip)
        have H' := Aside0.mk H
        clear H
        go_wp2
        go_meet
        case rel => exact ⟨_, (true), (by first | rfl | (simp; done) | (simp [*]; done) | (simp [ne_nil_bytes]; done) | (simp [eq_nil_bytes]; done)), H', ⟨by first | omega | exact Nat.le_refl _⟩, ⟨by repeat (first | (with_reducible first | exact HB.out | apply below_alloc | apply pw_below_drewN | apply below_drew1) | exact HB.out)⟩⟩
      · rw [if_neg c7] at H
        have c7b0 : decide (200 < (a0.size : Int)) = false := decide_eq_false c7
        have c7b1 : decide (200 < a0.size) = false := decide_eq_false (by omega)
        clear c7
        (first | rw [c7b0] | (simp only [i64_w, i32_w]; rw [c7b0]) | skip)
        have H' := Aside0.mk H
        clear H
        go_wp2
        go_meet
        case rel => exact ⟨_, (decide ((a1.size : Int) > 200)), (by first | rfl | (simp; done) | (simp [*]; done) | (simp [ne_nil_bytes]; done) | (simp [eq_nil_bytes]; done)), H', ⟨by first | omega | exact Nat.le_refl _⟩, ⟨by repeat (first | (with_reducible first | exact HB.out | apply below_alloc | apply pw_below_drewN | apply below_drew1) | exact HB.out)⟩⟩
    case rest =>
      clear HC5
      try clear p2
      try clear c4
      try clear c7
      try clear c7b0
      try clear c7b0z
      try clear c7b1
      try clear c7b1z
      obtain ⟨kq, x16_4, rfl, HA, HJ4, HB⟩ := hcut
      cases kq with
      | zero => exact absurd HA.out (by simp [shelfmarklaw03_TupleNext.j0])
      | succ kj4 =>
        have H := HA.out
        clear HA
        simp only [shelfmarklaw03_TupleNext.j0] at H
        by_cases c8 : x16_4 = true
        · subst c8
          have H1 : (some true) = some r := by rw [if_pos rfl] at H; exact H
          clear H
          have H := H1
          clear H1
          obtain rfl := Option.some.inj H
          go_wp2
          go_ret
          exact ⟨by first | rfl | (simp [errW_none, errW_some] <;> rfl) | (simp [*, errW_none, errW_some] <;> rfl), by repeat (first | (with_reducible first | exact HB.out | apply below_alloc | apply pw_below_drewN | apply below_drew1) | exact HB.out)⟩
        · replace c8 := Bool.eq_false_iff.mpr c8
          subst c8
          have H1 : ((tuple_Next.f a0).bind fun t186 => ((shelfmarkref03_Next.f a0).bind fun t187 => (if t186.toList = t187.toList then (if (a1.size : Int) ≥ (a0.size : Int) then (if 0 ≤ (a0.size : Int) then (if (a0.size : Int) ≤ (a1.size : Int) then (if t186.toList = ([] : List UInt8) then (some (((a1.extract 0 ((a0.size : Int) : Int).toNat).toList == a0.toList) == (!(Op.bytesLess a1.toList a0.toList)))) else (if ((Op.bytesLess a1.toList a0.toList) = true) then (some (((a1.extract 0 ((a0.size : Int) : Int).toNat).toList == a0.toList) == false)) else (some (((a1.extract 0 ((a0.size : Int) : Int).toNat).toList == a0.toList) == (Op.bytesLess a1.toList t186.toList))))) else (none)) else (none)) else (if t186.toList = ([] : List UInt8) then (some (false == (!(Op.bytesLess a1.toList a0.toList)))) else (if ((Op.bytesLess a1.toList a0.toList) = true) then (some (false == false)) else (some (false == (Op.bytesLess a1.toList t186.toList)))))) else (some false)))) = some r := by rw [if_neg (show ¬ (false = true) by decide)] at H; exact H
          clear H
          have H := H1
          clear H1
          replace H := Option.bind_eq_some_iff.mp H
          obtain ⟨t186, A90, H⟩ := H
          replace H : ((shelfmarkref03_Next.f a0).bind fun t187 => (if t186.toList = t187.toList then (if (a1.size : Int) ≥ (a0.size : Int) then (if 0 ≤ (a0.size : Int) then (if (a0.size : Int) ≤ (a1.size : Int) then (if t186.toList = ([] : List UInt8) then (some (((a1.extract 0 ((a0.size : Int) : Int).toNat).toList == a0.toList) == (!(Op.bytesLess a1.toList a0.toList)))) else (if ((Op.bytesLess a1.toList a0.toList) = true) then (some (((a1.extract 0 ((a0.size : Int) : Int).toNat).toList == a0.toList) == false)) else (some (((a1.extract 0 ((a0.size : Int) : Int).toNat).toList == a0.toList) == (Op.bytesLess a1.toList t186.toList))))) else (none)) else (none)) else (if t186.toList = ([] : List UInt8) then (some (false == (!(Op.bytesLess a1.toList a0.toList)))) else (if ((Op.bytesLess a1.toList a0.toList) = true) then (some (false == false)) else (some (false == (Op.bytesLess a1.toList t186.toList)))))) else (some false))) = some r := H
          have A9 := Aside0.mk A90
          clear A90
          replace H := Option.bind_eq_some_iff.mp H
          obtain ⟨t187, A100, H⟩ := H
          replace H : (if t186.toList = t187.toList then (if (a1.size : Int) ≥ (a0.size : Int) then (if 0 ≤ (a0.size : Int) then (if (a0.size : Int) ≤ (a1.size : Int) then (if t186.toList = ([] : List UInt8) then (some (((a1.extract 0 ((a0.size : Int) : Int).toNat).toList == a0.toList) == (!(Op.bytesLess a1.toList a0.toList)))) else (if ((Op.bytesLess a1.toList a0.toList) = true) then (some (((a1.extract 0 ((a0.size : Int) : Int).toNat).toList == a0.toList) == false)) else (some (((a1.extract 0 ((a0.size : Int) : Int).toNat).toList == a0.toList) == (Op.bytesLess a1.toList t186.toList))))) else (none)) else (none)) else (if t186.toList = ([] : List UInt8) then (some (false == (!(Op.bytesLess a1.toList a0.toList)))) else (if ((Op.bytesLess a1.toList a0.toList) = true) then (some (false == false)) else (some (false == (Op.bytesLess a1.toList t186.toList)))))) else (some false)) = some r := H
          have A10 := Aside0.mk A100
          clear A100
          by_cases c11 : t186.toList = t187.toList
          · rw [if_pos c11] at H
            have c11b0 : (t186.toList == t187.toList) = true := beq_iff_eq.mpr c11
            have c11b1 : (t186.toList != t187.toList) = false := bne_eq_false_iff_eq.mpr c11
            clear c11
            by_cases c12 : (a1.size : Int) ≥ (a0.size : Int)
            · rw [if_pos c12] at H
              have c12b0 : decide ((a0.size : Int) ≤ (a1.size : Int)) = true := decide_eq_true c12
              have c12b1 : decide (a0.size ≤ a1.size) = true := decide_eq_true (Int.ofNat_le.mp c12)
              clear c12
              by_cases c13 : 0 ≤ (a0.size : Int)
              · rw [if_pos c13] at H
                have c13b0 := eq_true c13
                have c13b1 : decide (0 ≤ (a0.size : Int)) = true := decide_eq_true c13
                clear c13
                by_cases c14 : (a0.size : Int) ≤ (a1.size : Int)
                · rw [if_pos c14] at H
                  have c14b0 := eq_true c14
                  have c14b1 : decide ((a0.size : Int) ≤ (a1.size : Int)) = true := decide_eq_true c14
                  clear c14
                  by_cases c15 : t186.toList = ([] : List UInt8)
                  · rw [if_pos c15] at H
                    have c15b0 : (t186.toList == ([] : List UInt8)) = true := beq_iff_eq.mpr c15
                    have c15b1 : (t186.toList != ([] : List UInt8)) = false := bne_eq_false_iff_eq.mpr c15
                    clear c15
                    obtain rfl := Option.some.inj H
                    go_wp2_with (first | ((with_reducible refine gate_callee (f := 14) rfl ?_); refine goesL_ (some 18) rfl rfl Tryd.func14 (by kernel_rfl) rfl #[.string a0] rfl (by (try simp only [List.map_toArray, List.map_cons, List.map_nil]); first | done | rfl | (simp only [List.length_drop, List.length_take]; rfl)) ?_; (with_reducible refine (tuple_Next.calls a0 t186 _ A9.out).mono ?_); rintro e w16 ⟨rfl, hb⟩; refine ⟨_, rfl, ?_⟩; have n0_ := Aside0.mk (below_step (by repeat (first | (with_reducible first | exact HB.out | apply below_alloc | apply pw_below_drewN | apply below_drew1) | exact HB.out)) hb); clear HB; have HB := n0_; clear n0_; (try clear hb); (try clear hb2); (try clear hk); (try clear hi)) | ((with_reducible refine gate_callee (f := 15) rfl ?_); refine goesL_ (some 21) rfl rfl Tryd.func15 (by kernel_rfl) rfl #[.string a0] rfl (by (try simp only [List.map_toArray, List.map_cons, List.map_nil]); first | done | rfl | (simp only [List.length_drop, List.length_take]; rfl)) ?_; (with_reducible refine (shelfmarkref03_Next.calls a0 t187 _ A10.out).mono ?_); rintro e w17 ⟨rfl, hb⟩; refine ⟨_, rfl, ?_⟩; have n0_ := Aside0.mk (below_step (by repeat (first | (with_reducible first | exact HB.out | apply below_alloc | apply pw_below_drewN | apply below_drew1) | exact HB.out)) hb); clear HB; have HB := n0_; clear n0_; (try clear hb); (try clear hb2); (try clear hk); (try clear hi)))
                    go_ret
                    exact ⟨by first | rfl | (simp [errW_none, errW_some] <;> rfl) | (simp [*, errW_none, errW_some] <;> rfl), by repeat (first | (with_reducible first | exact HB.out | apply below_alloc | apply pw_below_drewN | apply below_drew1) | exact HB.out)⟩
                  · rw [if_neg c15] at H
                    have c15b0 : (t186.toList == ([] : List UInt8)) = false := beq_eq_false_iff_ne.mpr c15
                    have c15b1 : (t186.toList != ([] : List UInt8)) = true := bne_iff_ne.mpr c15
                    by_cases c18 : ((Op.bytesLess a1.toList a0.toList) = true)
                    · rw [if_pos c18] at H
                      have c18b0 : (Op.bytesLess a1.toList a0.toList) = true := c18
                      clear c18
                      obtain rfl := Option.some.inj H
                      go_wp2_with (first | ((with_reducible refine gate_callee (f := 14) rfl ?_); refine goesL_ (some 18) rfl rfl Tryd.func14 (by kernel_rfl) rfl #[.string a0] rfl (by (try simp only [List.map_toArray, List.map_cons, List.map_nil]); first | done | rfl | (simp only [List.length_drop, List.length_take]; rfl)) ?_; (with_reducible refine (tuple_Next.calls a0 t186 _ A9.out).mono ?_); rintro e w19 ⟨rfl, hb⟩; refine ⟨_, rfl, ?_⟩; have n0_ := Aside0.mk (below_step (by repeat (first | (with_reducible first | exact HB.out | apply below_alloc | apply pw_below_drewN | apply below_drew1) | exact HB.out)) hb); clear HB; have HB := n0_; clear n0_; (try clear hb); (try clear hb2); (try clear hk); (try clear hi)) | ((with_reducible refine gate_callee (f := 15) rfl ?_); refine goesL_ (some 21) rfl rfl Tryd.func15 (by kernel_rfl) rfl #[.string a0] rfl (by (try simp only [List.map_toArray, List.map_cons, List.map_nil]); first | done | rfl | (simp only [List.length_drop, List.length_take]; rfl)) ?_; (with_reducible refine (shelfmarkref03_Next.calls a0 t187 _ A10.out).mono ?_); rintro e w20 ⟨rfl, hb⟩; refine ⟨_, rfl, ?_⟩; have n0_ := Aside0.mk (below_step (by repeat (first | (with_reducible first | exact HB.out | apply below_alloc | apply pw_below_drewN | apply below_drew1) | exact HB.out)) hb); clear HB; have HB := n0_; clear n0_; (try clear hb); (try clear hb2); (try clear hk); (try clear hi)))
                      go_ret
                      exact ⟨by first | rfl | (simp [errW_none, errW_some] <;> rfl) | (simp [*, errW_none, errW_some] <;> rfl), by repeat (first | (with_reducible first | exact HB.out | apply below_alloc | apply pw_below_drewN | apply below_drew1) | exact HB.out)⟩
                    · rw [if_neg c18] at H
                      have c18b0 : (Op.bytesLess a1.toList a0.toList) = false := by simpa using c18
                      clear c18
                      obtain rfl := Option.some.inj H
                      go_wp2_with (first | ((with_reducible refine gate_callee (f := 14) rfl ?_); refine goesL_ (some 18) rfl rfl Tryd.func14 (by kernel_rfl) rfl #[.string a0] rfl (by (try simp only [List.map_toArray, List.map_cons, List.map_nil]); first | done | rfl | (simp only [List.length_drop, List.length_take]; rfl)) ?_; (with_reducible refine (tuple_Next.calls a0 t186 _ A9.out).mono ?_); rintro e w21 ⟨rfl, hb⟩; refine ⟨_, rfl, ?_⟩; have n0_ := Aside0.mk (below_step (by repeat (first | (with_reducible first | exact HB.out | apply below_alloc | apply pw_below_drewN | apply below_drew1) | exact HB.out)) hb); clear HB; have HB := n0_; clear n0_; (try clear hb); (try clear hb2); (try clear hk); (try clear hi)) | ((with_reducible refine gate_callee (f := 15) rfl ?_); refine goesL_ (some 21) rfl rfl Tryd.func15 (by kernel_rfl) rfl #[.string a0] rfl (by (try simp only [List.map_toArray, List.map_cons, List.map_nil]); first | done | rfl | (simp only [List.length_drop, List.length_take]; rfl)) ?_; (with_reducible refine (shelfmarkref03_Next.calls a0 t187 _ A10.out).mono ?_); rintro e w22 ⟨rfl, hb⟩; refine ⟨_, rfl, ?_⟩; have n0_ := Aside0.mk (below_step (by repeat (first | (with_reducible first | exact HB.out | apply below_alloc | apply pw_below_drewN | apply below_drew1) | exact HB.out)) hb); clear HB; have HB := n0_; clear n0_; (try clear hb); (try clear hb2); (try clear hk); (try clear hi)))
                      go_ret
                      exact ⟨by first | rfl | (simp [errW_none, errW_some] <;> rfl) | (simp [*, errW_none, errW_some] <;> rfl), by repeat (first | (with_reducible first | exact HB.out | apply below_alloc | apply pw_below_drewN | apply below_drew1) | exact HB.out)⟩
                · rw [if_neg c14] at H
                  exact absurd H (by simp)
              · rw [if_neg c13] at H
                exact absurd H (by simp)
            · rw [if_neg c12] at H
              have c12b0 : decide ((a0.size : Int) ≤ (a1.size : Int)) = false := decide_eq_false c12
              have c12b1 : decide (a0.size ≤ a1.size) = false := decide_eq_false (fun h => c12 (Int.ofNat_le.mpr h))
              clear c12
              by_cases c23 : t186.toList = ([] : List UInt8)
              · rw [if_pos c23] at H
                have c23b0 : (t186.toList == ([] : List UInt8)) = true := beq_iff_eq.mpr c23
                have c23b1 : (t186.toList != ([] : List UInt8)) = false := bne_eq_false_iff_eq.mpr c23
                clear c23
                obtain rfl := Option.some.inj H
                go_wp2_with (first | ((with_reducible refine gate_callee (f := 14) rfl ?_); refine goesL_ (some 18) rfl rfl Tryd.func14 (by kernel_rfl) rfl #[.string a0] rfl (by (try simp only [List.map_toArray, List.map_cons, List.map_nil]); first | done | rfl | (simp only [List.length_drop, List.length_take]; rfl)) ?_; (with_reducible refine (tuple_Next.calls a0 t186 _ A9.out).mono ?_); rintro e w24 ⟨rfl, hb⟩; refine ⟨_, rfl, ?_⟩; have n0_ := Aside0.mk (below_step (by repeat (first | (with_reducible first | exact HB.out | apply below_alloc | apply pw_below_drewN | apply below_drew1) | exact HB.out)) hb); clear HB; have HB := n0_; clear n0_; (try clear hb); (try clear hb2); (try clear hk); (try clear hi)) | ((with_reducible refine gate_callee (f := 15) rfl ?_); refine goesL_ (some 21) rfl rfl Tryd.func15 (by kernel_rfl) rfl #[.string a0] rfl (by (try simp only [List.map_toArray, List.map_cons, List.map_nil]); first | done | rfl | (simp only [List.length_drop, List.length_take]; rfl)) ?_; (with_reducible refine (shelfmarkref03_Next.calls a0 t187 _ A10.out).mono ?_); rintro e w25 ⟨rfl, hb⟩; refine ⟨_, rfl, ?_⟩; have n0_ := Aside0.mk (below_step (by repeat (first | (with_reducible first | exact HB.out | apply below_alloc | apply pw_below_drewN | apply below_drew1) | exact HB.out)) hb); clear HB; have HB := n0_; clear n0_; (try clear hb); (try clear hb2); (try clear hk); (try clear hi)))
                go_ret
                exact ⟨by first | rfl | (simp [errW_none, errW_some] <;> rfl) | (simp [*, errW_none, errW_some] <;> rfl), by repeat (first | (with_reducible first | exact HB.out | apply below_alloc | apply pw_below_drewN | apply below_drew1) | exact HB.out)⟩
              · rw [if_neg c23] at H
                have c23b0 : (t186.toList == ([] : List UInt8)) = false := beq_eq_false_iff_ne.mpr c23
                have c23b1 : (t186.toList != ([] : List UInt8)) = true := bne_iff_ne.mpr c23
                by_cases c26 : ((Op.bytesLess a1.toList a0.toList) = true)
                · rw [if_pos c26] at H
                  have c26b0 : (Op.bytesLess a1.toList a0.toList) = true := c26
                  clear c26
                  obtain rfl := Option.some.inj H
                  go_wp2_with (first | ((with_reducible refine gate_callee (f := 14) rfl ?_); refine goesL_ (some 18) rfl rfl Tryd.func14 (by kernel_rfl) rfl #[.string a0] rfl (by (try simp only [List.map_toArray, List.map_cons, List.map_nil]); first | done | rfl | (simp only [List.length_drop, List.length_take]; rfl)) ?_; (with_reducible refine (tuple_Next.calls a0 t186 _ A9.out).mono ?_); rintro e w27 ⟨rfl, hb⟩; refine ⟨_, rfl, ?_⟩; have n0_ := Aside0.mk (below_step (by repeat (first | (with_reducible first | exact HB.out | apply below_alloc | apply pw_below_drewN | apply below_drew1) | exact HB.out)) hb); clear HB; have HB := n0_; clear n0_; (try clear hb); (try clear hb2); (try clear hk); (try clear hi)) | ((with_reducible refine gate_callee (f := 15) rfl ?_); refine goesL_ (some 21) rfl rfl Tryd.func15 (by kernel_rfl) rfl #[.string a0] rfl (by (try simp only [List.map_toArray, List.map_cons, List.map_nil]); first | done | rfl | (simp only [List.length_drop, List.length_take]; rfl)) ?_; (with_reducible refine (shelfmarkref03_Next.calls a0 t187 _ A10.out).mono ?_); rintro e w28 ⟨rfl, hb⟩; refine ⟨_, rfl, ?_⟩; have n0_ := Aside0.mk (below_step (by repeat (first | (with_reducible first | exact HB.out | apply below_alloc | apply pw_below_drewN | apply below_drew1) | exact HB.out)) hb); clear HB; have HB := n0_; clear n0_; (try clear hb); (try clear hb2); (try clear hk); (try clear hi)))
                  go_ret
                  exact ⟨by first | rfl | (simp [errW_none, errW_some] <;> rfl) | (simp [*, errW_none, errW_some] <;> rfl), by repeat (first | (with_reducible first | exact HB.out | apply below_alloc | apply pw_below_drewN | apply below_drew1) | exact HB.out)⟩
                · rw [if_neg c26] at H
                  have c26b0 : (Op.bytesLess a1.toList a0.toList) = false := by simpa using c26
                  clear c26
                  obtain rfl := Option.some.inj H
                  go_wp2_with (first | ((with_reducible refine gate_callee (f := 14) rfl ?_); refine goesL_ (some 18) rfl rfl Tryd.func14 (by kernel_rfl) rfl #[.string a0] rfl (by (try simp only [List.map_toArray, List.map_cons, List.map_nil]); first | done | rfl | (simp only [List.length_drop, List.length_take]; rfl)) ?_; (with_reducible refine (tuple_Next.calls a0 t186 _ A9.out).mono ?_); rintro e w29 ⟨rfl, hb⟩; refine ⟨_, rfl, ?_⟩; have n0_ := Aside0.mk (below_step (by repeat (first | (with_reducible first | exact HB.out | apply below_alloc | apply pw_below_drewN | apply below_drew1) | exact HB.out)) hb); clear HB; have HB := n0_; clear n0_; (try clear hb); (try clear hb2); (try clear hk); (try clear hi)) | ((with_reducible refine gate_callee (f := 15) rfl ?_); refine goesL_ (some 21) rfl rfl Tryd.func15 (by kernel_rfl) rfl #[.string a0] rfl (by (try simp only [List.map_toArray, List.map_cons, List.map_nil]); first | done | rfl | (simp only [List.length_drop, List.length_take]; rfl)) ?_; (with_reducible refine (shelfmarkref03_Next.calls a0 t187 _ A10.out).mono ?_); rintro e w30 ⟨rfl, hb⟩; refine ⟨_, rfl, ?_⟩; have n0_ := Aside0.mk (below_step (by repeat (first | (with_reducible first | exact HB.out | apply below_alloc | apply pw_below_drewN | apply below_drew1) | exact HB.out)) hb); clear HB; have HB := n0_; clear n0_; (try clear hb); (try clear hb2); (try clear hk); (try clear hi)))
                  go_ret
                  exact ⟨by first | rfl | (simp [errW_none, errW_some] <;> rfl) | (simp [*, errW_none, errW_some] <;> rfl), by repeat (first | (with_reducible first | exact HB.out | apply below_alloc | apply pw_below_drewN | apply below_drew1) | exact HB.out)⟩
          · rw [if_neg c11] at H
            have c11b0 : (t186.toList == t187.toList) = false := beq_eq_false_iff_ne.mpr c11
            have c11b1 : (t186.toList != t187.toList) = true := bne_iff_ne.mpr c11
            obtain rfl := Option.some.inj H
            go_wp2_with (first | ((with_reducible refine gate_callee (f := 14) rfl ?_); refine goesL_ (some 18) rfl rfl Tryd.func14 (by kernel_rfl) rfl #[.string a0] rfl (by (try simp only [List.map_toArray, List.map_cons, List.map_nil]); first | done | rfl | (simp only [List.length_drop, List.length_take]; rfl)) ?_; (with_reducible refine (tuple_Next.calls a0 t186 _ A9.out).mono ?_); rintro e w31 ⟨rfl, hb⟩; refine ⟨_, rfl, ?_⟩; have n0_ := Aside0.mk (below_step (by repeat (first | (with_reducible first | exact HB.out | apply below_alloc | apply pw_below_drewN | apply below_drew1) | exact HB.out)) hb); clear HB; have HB := n0_; clear n0_; (try clear hb); (try clear hb2); (try clear hk); (try clear hi)) | ((with_reducible refine gate_callee (f := 15) rfl ?_); refine goesL_ (some 21) rfl rfl Tryd.func15 (by kernel_rfl) rfl #[.string a0] rfl (by (try simp only [List.map_toArray, List.map_cons, List.map_nil]); first | done | rfl | (simp only [List.length_drop, List.length_take]; rfl)) ?_; (with_reducible refine (shelfmarkref03_Next.calls a0 t187 _ A10.out).mono ?_); rintro e w32 ⟨rfl, hb⟩; refine ⟨_, rfl, ?_⟩; have n0_ := Aside0.mk (below_step (by repeat (first | (with_reducible first | exact HB.out | apply below_alloc | apply pw_below_drewN | apply below_drew1) | exact HB.out)) hb); clear HB; have HB := n0_; clear n0_; (try clear hb); (try clear hb2); (try clear hk); (try clear hi)))
            go_ret
            exact ⟨by first | rfl | (simp [errW_none, errW_some] <;> rfl) | (simp [*, errW_none, errW_some] <;> rfl), by repeat (first | (with_reducible first | exact HB.out | apply below_alloc | apply pw_below_drewN | apply below_drew1) | exact HB.out)⟩
  · replace c4 := Bool.eq_false_iff.mpr c4
    subst c4
    have H1 : (some false) = some r := by rw [if_neg (show ¬ (false = true) by decide)] at H; exact H
    clear H
    have H := H1
    clear H1
    obtain rfl := Option.some.inj H
    go_enter Tryd.func4, Tryd.ntmps4
    go_wp2_with (first | ((with_reducible refine gate_callee (f := 8) rfl ?_); refine goesL_ (some 7) rfl rfl Tryd.func8 (by kernel_rfl) rfl #[] rfl (by (try simp only [List.map_toArray, List.map_cons, List.map_nil]); first | done | rfl | (simp only [List.length_drop, List.length_take]; rfl)) ?_; (with_reducible refine (shelfmarklaw03_awake.calls k  false _ A3.out).mono ?_); rintro e w33 ⟨rfl, hb⟩; refine ⟨_, rfl, ?_⟩; have n0_ := Aside0.mk (below_step (by repeat (first | (with_reducible first | exact HB.out | apply below_alloc | apply pw_below_drewN | apply below_drew1) | exact HB.out)) hb); clear HB; have HB := n0_; clear n0_; (try clear hb); (try clear hb2); (try clear hk); (try clear hi)))
    go_ret
    exact ⟨by first | rfl | (simp [errW_none, errW_some] <;> rfl) | (simp [*, errW_none, errW_some] <;> rfl), by repeat (first | (with_reducible first | exact HB.out | apply below_alloc | apply pw_below_drewN | apply below_drew1) | exact HB.out)⟩

/-- THE ONE PURE STATEMENT of shelfmarklaw03_TupleNext: yours. -/
def shelfmarklaw03_TupleNext.Pure : Prop := ∀ (a0 : ByteArray) (a1 : ByteArray), a0.size ≤ 140737488351232 → a1.size ≤ 140737488351232 → ∃ k, shelfmarklaw03_TupleNext.f k a0 a1 = some true
theorem shelfmarklaw03_TupleNext.walk (P : shelfmarklaw03_TupleNext.Pure) (a0 : ByteArray) (a1 : ByteArray) (w : World) (w0 : a0.size ≤ 140737488351232) (w1 : a1.size ≤ 140737488351232) :
    Calls Tryd.prog 4 #[.string a0, .string a1] w fun e w' => e = .returned (.bool true) ∧ Below w.heap.size w w' := by
  obtain ⟨k, h⟩ := P a0 a1 w0 w1
  refine (shelfmarklaw03_TupleNext.calls k a0 a1 true w h).mono ?_
  rintro e w' ⟨rfl, hd⟩
  exact ⟨rfl, hd⟩

end Go.Proofs.YtdaidcfpikeooaaDoor.PAll
