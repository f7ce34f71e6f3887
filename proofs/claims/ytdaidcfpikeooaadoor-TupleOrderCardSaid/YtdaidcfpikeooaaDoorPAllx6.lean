-- Written by a program of this session for this claim (mp.py, over the kit's print); Lean checks it.
import Derived.Test.YtdaidcfpikeooaaDoorPAllx0
import Derived.Test.YtdaidcfpikeooaaDoorPAllx3
import Derived.Test.YtdaidcfpikeooaaDoorPAllx5
namespace Go.Proofs.YtdaidcfpikeooaaDoor.PAll
open Go.RowKit Go.Proofs.YtdaidcfpikeooaaDoorW.PrintWords Go.Proofs.YtdaidcfpikeooaaDoorW.PrintLast Go.Proofs.YtdaidcfpikeooaaDoorW.PrintMore Go.Proofs.YtdaidcfpikeooaaDoor.Fv Go.Proofs.YtdaidcfpikeooaaDoor.Hl
attribute [local go_sem] max2_int min2_int max_two min_two max_three min_three max_four min_four str_gtr str_leq str_geq   -- for this text's walks alone
set_option linter.unusedVariables false
set_option linter.unusedSimpArgs false

/-! ### tuple_Next: function 14 -/
def tuple_Next.f (a0 : ByteArray) : Option ByteArray := if a0.size ≤ 140737488351232 then some (strOfNums (nextL (bytesOf a0))) else none
set_option maxHeartbeats 3000000 in
set_option maxRecDepth 100000 in
theorem tuple_Next.calls (a0 : ByteArray) (r : ByteArray) (w : World) (h : tuple_Next.f a0 = some r) :
    Calls Tryd.prog 14 #[.string a0] w fun e w' => e = .returned (.string r) ∧ Below w.heap.size w w' := by
  unfold tuple_Next.f at h
  by_cases h0 : a0.size ≤ 140737488351232
  · rw [if_pos h0] at h
    obtain rfl := Option.some.inj h
    clear h
    go_enter Tryd.func14, Tryd.ntmps14
    go_wp2_with (first | (with_reducible refine gate_dst (N := 5) rfl ?_); refine bytes_event2 (N := 5) rfl rfl 9 42 5 _ rfl a0 rfl Tryd.underlying9 Tryd.underlying42 Tryd.underlying5 h0 ?_; intro w1 c hb hlt hC hc hf)
    have hl : (bytesOf a0).length ≤ 140737488351232 := by rw [bytesOf_length]; exact h0
    generalize hL : bytesOf a0 = L at *
    have HB := Aside0.mk hb
    have HL := Aside0.mk hlt
    have HC := Aside0.mk hC
    have HF := Aside0.mk hf
    have Hc := Aside0.mk hc
    have HQ := Aside0.mk hL
    clear hb hlt hC hc hf hL
    go_loopg [3] (L.length + 1) (fun kq v3 w' => ∃ (n : Nat), v3 = .slice (some ⟨w.heap.size, 0, none⟩) n c ∧ Aside0 (strip255 (L.take n) = strip255 L) ∧ Aside0 (n < kq) ∧ Aside0 (n ≤ L.length) ∧ Aside0 (Below w1.heap.size w1 w'))
    case atStart => exact ⟨L.length, rfl, ⟨by rw [List.take_length]⟩, ⟨by omega⟩, ⟨Nat.le_refl _⟩, ⟨Below.refl _ _⟩⟩
    case round =>
      obtain ⟨n, rfl, HS, HK, HN, HW⟩ := hrel
      rcases n with _ | m
      · go_wp2
        go_ret
        refine ⟨?_, (HB.out.trans (HW.out.mono (Nat.le_of_lt HL.out)))⟩
        have h1 : strip255 L = [] := by rw [← HS.out]; rfl
        rw [HQ.out]
        simp [nextL, h1]
        rfl
      · have hm : m < L.length := HN.out
        have hC1 := Kd.C_below HC.out HW.out
        obtain ⟨ad1, e1, hx1⟩ := Kd.at_int hC1 (m : Int) (by omega) (by omega)
        cases e1
        simp only [add_plain, Int.toNat_natCast] at hx1
        have b1 : decide (0 < ((m + 1 : Nat) : Int)) = true := decide_eq_true (by omega)
        have hmc : m ≤ c := by have := Hc.out; omega
        obtain ⟨k1, rfl⟩ : ∃ k1, gk = k1 + 1 := ⟨gk - 1, by have := HK.out; omega⟩
        by_cases hv : rd L (m : Int) = 255
        · rw [hv] at hx1
          go_wp2
          go_roundg k1
          case measure => have := HK.out; omega
          case rel =>
            refine ⟨m, rfl, ⟨?_⟩, ⟨by have := HK.out; omega⟩, ⟨by omega⟩, HW⟩
            rw [← HS.out, take_last L m hm, hv, strip255_concat, if_pos rfl]
        · have b2 : (rd L (m : Int) == 255) = false := by rw [beq_eq_false_iff_ne]; exact hv
          have b3 : (((m + 1 : Nat) : Int) == 0) = false := by rw [beq_eq_false_iff_ne]; omega
          have b4 : wr.frozen? { block := w.heap.size, off := m } = false := (HW.out.frozen HL.out).trans (HF.out m hm)
          have hC2 := C_setCell (Kd.C_take hC1 HN.out) m ((rd L (m : Int) + 1) % 256) (by rw [List.length_take]; omega)
          rw [next_set L m hm hv HS.out] at hC2
          rw [show (List.take (m + 1) L).length = m + 1 from by rw [List.length_take]; omega] at hC2
          have hcv := Kd.C_string (P := Tryd.prog) (c := c) Tryd.underlying42 Tryd.underlying5 Tryd.underlying9 hC2
          go_wp2
          go_ret
          exact ⟨by rw [HQ.out]; rfl, HB.out.trans ((HW.out.mono (Nat.le_of_lt HL.out)).setCell (Nat.le_refl _) _)⟩
  · rw [if_neg h0] at h
    exact absurd h (by simp)

/-! ### shelfmarklaw03_awake: function 8 -/
def shelfmarklaw03_awake.f (k : Nat)  : Option (Bool) := (tuple_Key.f k (([(⟨1, 1, (⟨#[]⟩ : ByteArray)⟩ : S37), (⟨2, 0, (⟨#[97]⟩ : ByteArray)⟩ : S37)] : List (S37)))).bind fun bt151 => ((tuple_Vals.f k bt151.1).bind fun bt153 => (if bt151.2 = 0 then (if bt153.2 = 0 then (if bt151.1.toList = ([2, 128, 0, 0, 0, 0, 0, 0, 1, 3, 97, 0, 0] : List UInt8) then (if (bt153.1.length : Int) = 2 then (if 1 < (bt153.1.length : Int) then (if ((rd_T37 bt153.1 1).f2).toList = ([97] : List UInt8) then ((tuple_Next.f (⟨#[97, 255]⟩ : ByteArray)).bind fun t158 => (some (t158.toList == ([98] : List UInt8)))) else (some false)) else (none)) else (some false)) else (some false)) else (some false)) else (some false)))
theorem shelfmarklaw03_awake.mono : ∀ k, LeO (shelfmarklaw03_awake.f k ) (shelfmarklaw03_awake.f (k + 1) ) := by
  intro  k
  unfold shelfmarklaw03_awake.f
  repeat' first
      | (with_reducible exact tuple_Key.mono _ _)
      | (with_reducible exact tuple_Vals.mono _ _)
      | (with_reducible exact LeO.refl _)
      | (with_reducible exact LeO.none _)
      | (with_reducible refine LeO.ite ?_ ?_)
      | (with_reducible refine LeO.bind ?_ (fun _ => ?_))
      | exact tuple_Key.mono _ _
      | exact tuple_Vals.mono _ _
      | exact LeO.none _
      | refine LeO.ite ?_ ?_
      | refine LeO.bind ?_ (fun _ => ?_)
set_option maxHeartbeats 3000000 in
set_option maxRecDepth 100000 in
theorem shelfmarklaw03_awake.calls (k : Nat)  (r : Bool) (w : World) (h : shelfmarklaw03_awake.f k  = some r) :
    Calls Tryd.prog 8 #[] w fun e w' => e = .returned (.bool r) ∧ Below w.heap.size w w' := by
  have hu37 := Tryd.underlying37
  have HB := Aside0.mk (Below.refl w.heap.size w)
  have H : ((tuple_Key.f k (([(⟨1, 1, (⟨#[]⟩ : ByteArray)⟩ : S37), (⟨2, 0, (⟨#[97]⟩ : ByteArray)⟩ : S37)] : List (S37)))).bind fun bt151 => ((tuple_Vals.f k bt151.1).bind fun bt153 => (if bt151.2 = 0 then (if bt153.2 = 0 then (if bt151.1.toList = ([2, 128, 0, 0, 0, 0, 0, 0, 1, 3, 97, 0, 0] : List UInt8) then (if (bt153.1.length : Int) = 2 then (if 1 < (bt153.1.length : Int) then (if ((rd_T37 bt153.1 1).f2).toList = ([97] : List UInt8) then ((tuple_Next.f (⟨#[97, 255]⟩ : ByteArray)).bind fun t158 => (some (t158.toList == ([98] : List UInt8)))) else (some false)) else (none)) else (some false)) else (some false)) else (some false)) else (some false)))) = some r := h
  clear h
  obtain ⟨y148, hy148⟩ : ∃ y_ : List (S37), y_ = (([(⟨1, 1, (⟨#[]⟩ : ByteArray)⟩ : S37), (⟨2, 0, (⟨#[97]⟩ : ByteArray)⟩ : S37)] : List (S37))) := ⟨_, rfl⟩
  replace H : ((tuple_Key.f k y148).bind fun bt151 => ((tuple_Vals.f k bt151.1).bind fun bt153 => (if bt151.2 = 0 then (if bt153.2 = 0 then (if bt151.1.toList = ([2, 128, 0, 0, 0, 0, 0, 0, 1, 3, 97, 0, 0] : List UInt8) then (if (bt153.1.length : Int) = 2 then (if 1 < (bt153.1.length : Int) then (if ((rd_T37 bt153.1 1).f2).toList = ([97] : List UInt8) then ((tuple_Next.f (⟨#[97, 255]⟩ : ByteArray)).bind fun t158 => (some (t158.toList == ([98] : List UInt8)))) else (some false)) else (none)) else (some false)) else (some false)) else (some false)) else (some false)))) = some r := by first | (rw [hy148]; with_reducible exact H) | (have H2_ := (Option.bind_some _ _).symm.trans H; rw [hy148]; with_reducible exact H2_) | (have H2_ := (Option.bind_some _ _).symm.trans H; with_reducible exact H2_) | with_reducible exact H | (rw [hy148]; exact H) | exact H
  have Ny148 := Aside0.mk hy148
  clear hy148
  replace H := Option.bind_eq_some_iff.mp H
  obtain ⟨⟨t151, t152⟩, A10, H⟩ := H
  replace H : ((tuple_Vals.f k t151).bind fun bt153 => (if t152 = 0 then (if bt153.2 = 0 then (if t151.toList = ([2, 128, 0, 0, 0, 0, 0, 0, 1, 3, 97, 0, 0] : List UInt8) then (if (bt153.1.length : Int) = 2 then (if 1 < (bt153.1.length : Int) then (if ((rd_T37 bt153.1 1).f2).toList = ([97] : List UInt8) then ((tuple_Next.f (⟨#[97, 255]⟩ : ByteArray)).bind fun t158 => (some (t158.toList == ([98] : List UInt8)))) else (some false)) else (none)) else (some false)) else (some false)) else (some false)) else (some false))) = some r := H
  have A1 := Aside0.mk A10
  clear A10
  replace H := Option.bind_eq_some_iff.mp H
  obtain ⟨⟨t153, t154⟩, A20, H⟩ := H
  replace H : (if t152 = 0 then (if t154 = 0 then (if t151.toList = ([2, 128, 0, 0, 0, 0, 0, 0, 1, 3, 97, 0, 0] : List UInt8) then (if (t153.length : Int) = 2 then (if 1 < (t153.length : Int) then (if ((rd_T37 t153 1).f2).toList = ([97] : List UInt8) then ((tuple_Next.f (⟨#[97, 255]⟩ : ByteArray)).bind fun t158 => (some (t158.toList == ([98] : List UInt8)))) else (some false)) else (none)) else (some false)) else (some false)) else (some false)) else (some false)) = some r := H
  have A2 := Aside0.mk A20
  clear A20
  by_cases c3 : t152 = 0
  · rw [if_pos c3] at H
    have c3b0 : (t152 == 0) = true := beq_iff_eq.mpr c3
    have c3b1 : (t152 != 0) = false := bne_eq_false_iff_eq.mpr c3
    clear c3
    by_cases c4 : t154 = 0
    · rw [if_pos c4] at H
      have c4b0 : (t154 == 0) = true := beq_iff_eq.mpr c4
      have c4b1 : (t154 != 0) = false := bne_eq_false_iff_eq.mpr c4
      clear c4
      by_cases c5 : t151.toList = ([2, 128, 0, 0, 0, 0, 0, 0, 1, 3, 97, 0, 0] : List UInt8)
      · rw [if_pos c5] at H
        have c5b0 : (t151.toList == ([2, 128, 0, 0, 0, 0, 0, 0, 1, 3, 97, 0, 0] : List UInt8)) = true := beq_iff_eq.mpr c5
        have c5b1 : (t151.toList != ([2, 128, 0, 0, 0, 0, 0, 0, 1, 3, 97, 0, 0] : List UInt8)) = false := bne_eq_false_iff_eq.mpr c5
        clear c5
        by_cases c6 : (t153.length : Int) = 2
        · rw [if_pos c6] at H
          have c6b0 : ((t153.length : Int) == 2) = true := beq_iff_eq.mpr c6
          have c6b1 : ((t153.length : Int) != 2) = false := bne_eq_false_iff_eq.mpr c6
          clear c6
          by_cases c7 : 1 < (t153.length : Int)
          · rw [if_pos c7] at H
            have c7b0 : decide (1 < (t153.length : Int)) = true := decide_eq_true c7
            have c7b1 : decide (1 < t153.length) = true := decide_eq_true (by omega)
            clear c7
            by_cases c8 : ((rd_T37 t153 1).f2).toList = ([97] : List UInt8)
            · rw [if_pos c8] at H
              have c8b0 : (((rd_T37 t153 1).f2).toList == ([97] : List UInt8)) = true := beq_iff_eq.mpr c8
              have c8b1 : (((rd_T37 t153 1).f2).toList != ([97] : List UInt8)) = false := bne_eq_false_iff_eq.mpr c8
              clear c8
              replace H := Option.bind_eq_some_iff.mp H
              obtain ⟨t158, A90, H⟩ := H
              replace H : (some (t158.toList == ([98] : List UInt8))) = some r := H
              have A9 := Aside0.mk A90
              clear A90
              obtain rfl := Option.some.inj H
              go_enter Tryd.func8, Tryd.ntmps8
              go_wp2_with (first | ((with_reducible refine gate_dst (N := 8) rfl ?_); (try (refine gate_guard (by rfl) ?_; dsimp only)); refine Kd.R_lit k37 _ 37 ?hg (N := 8) ?hd (xs := ([(⟨1, 1, (⟨#[]⟩ : ByteArray)⟩ : S37), (⟨2, 0, (⟨#[97]⟩ : ByteArray)⟩ : S37)] : List (S37))) (inner := [.int .i64 1, .int .i64 1, .string (⟨#[]⟩ : ByteArray), .int .i64 2, .int .i64 0, .string (⟨#[97]⟩ : ByteArray)]) (ok := fun _ => True) (okp := fun _ => True) ?hr ?hp (fun _ hk => hk) trivial (Below.refl _ _) (Nat.le_refl _) (by simp) ?_; (case hd => rfl); (case hg => rfl); (case hr => first | (go_simp; done) | (go_simp; rfl)); (case hp => exact (Reps.c3 (show Kd.M k37 _ _ _ (⟨1, 1, (⟨#[]⟩ : ByteArray)⟩ : S37) [.int .i64 1, .int .i64 1, .string (⟨#[]⟩ : ByteArray)] from (k37_mkM _ _ _ (⟨1, 1, (⟨#[]⟩ : ByteArray)⟩ : S37) )) (Reps.c3 (show Kd.M k37 _ _ _ (⟨2, 0, (⟨#[97]⟩ : ByteArray)⟩ : S37) [.int .i64 2, .int .i64 0, .string (⟨#[97]⟩ : ByteArray)] from (k37_mkM _ _ _ (⟨2, 0, (⟨#[97]⟩ : ByteArray)⟩ : S37) )) (Reps.none _ _)))); intro v149 w10 ho11 hb hg_ hnew_; clear hg_ hnew_; (first | rw [← Ny148.out] at ho11 | (simp only [Int.reduceToNat] at ho11; rw [← Ny148.out] at ho11)); have n0_ := Aside0.mk (Kd.R_lower ho11 (below_size (by repeat (first | (with_reducible first | exact HB.out | apply below_alloc | apply pw_below_drewN | apply below_drew1) | exact HB.out)))); have n1_ := Aside0.mk (below_step (by repeat (first | (with_reducible first | exact HB.out | apply below_alloc | apply pw_below_drewN | apply below_drew1) | exact HB.out)) hb); clear HB; have HO150 := n0_; have HB := n1_; clear n0_ n1_; clear hb ho11; obtain ⟨Ao12, co12, eo12⟩ := Kd.R_slice HO150.out; subst eo12) | ((with_reducible refine gate_callee (f := 10) rfl ?_); refine goesL_ (some 9) rfl rfl Tryd.func10 (by kernel_rfl) rfl #[.slice Ao12 y148.length co12] rfl (by (try simp only [List.map_toArray, List.map_cons, List.map_nil]); first | done | rfl | (simp only [List.length_drop, List.length_take]; rfl)) ?_; (with_reducible refine (tuple_Key.calls k _ _ y148 t151 t152 _ ?side1 ?side2 A1.out).mono ?_); (case side1 => repeat (first | exact (Kd.R_reads' HO150.out).2.2 | (with_reducible refine Kd.C_alloc ?_ _) | (with_reducible refine Kd.C_drewN ?_ _) | (with_reducible refine Kd.C_drew ?_))); (case side2 => exact (Kd.R_reads' HO150.out).2.1); rintro e w13 ⟨rfl, hb⟩; refine ⟨_, rfl, ?_⟩; have n0_ := Aside0.mk (Kd.R_below (by (with_reducible repeat (first | apply Kd.R_alloc | apply Kd.R_drewN | apply Kd.R_drew)); exact HO150.out) hb); have n1_ := Aside0.mk (below_step (by repeat (first | (with_reducible first | exact HB.out | apply below_alloc | apply pw_below_drewN | apply below_drew1) | exact HB.out)) hb); clear HO150; clear HB; have HO150 := n0_; have HB := n1_; clear n0_ n1_; (try clear hb); (try clear hb2); (try clear hk); (try clear hi)) | ((with_reducible refine gate_callee (f := 11) rfl ?_); refine goesL_ (some 14) rfl rfl Tryd.func11 (by kernel_rfl) rfl #[.string t151] rfl (by (try simp only [List.map_toArray, List.map_cons, List.map_nil]); first | done | rfl | (simp only [List.length_drop, List.length_take]; rfl)) ?_; (with_reducible refine (tuple_Vals.calls k t151 t153 t154 _ A2.out).mono ?_); rintro e w14 ⟨v155, rfl, ho0, hb⟩; refine ⟨_, rfl, ?_⟩; have n0_ := Aside0.mk (Kd.R_elder' (by (with_reducible repeat (first | apply Kd.R_alloc | apply Kd.R_drewN | apply Kd.R_drew)); exact HO150.out) (Kd.R_base ho0) hb); have n1_ := Aside0.mk (Kd.R_lower (Kd.R_new' ho0 (Kd.R_lt (by (with_reducible repeat (first | apply Kd.R_alloc | apply Kd.R_drewN | apply Kd.R_drew)); exact HO150.out))) (below_size (by repeat (first | (with_reducible first | exact HB.out | apply below_alloc | apply pw_below_drewN | apply below_drew1) | exact HB.out)))); have n2_ := Aside0.mk (below_step (by repeat (first | (with_reducible first | exact HB.out | apply below_alloc | apply pw_below_drewN | apply below_drew1) | exact HB.out)) hb); clear HO150; clear HB; have HO150 := n0_; have HO156 := n1_; have HB := n2_; clear n0_ n1_ n2_; (try clear hb); (try clear hb2); (try clear hk); (try clear hi); (try clear ho0); obtain ⟨Ao15, co15, eo15⟩ := Kd.R_slice HO156.out; subst eo15; have p157 : 0 ≤ (1 : Int) := (by omega); have q157 : 1 < (t153.length : Int) := of_decide_eq_true (by first | (with_reducible assumption) | assumption); obtain ⟨ad157, e157, hx157_0, hx157_1, hx157_2⟩ := at_T37 (Kd.R_reads' HO156.out).2.2 1 p157 q157; cases e157; (try simp only [show (1 : Int).toNat = 1 from rfl, Nat.reduceMul, Nat.reduceEqDiff, Go.Addr.add, ↓reduceIte] at hx157_0); (try simp only [show (1 : Int).toNat = 1 from rfl, Nat.reduceMul, Nat.reduceEqDiff, Go.Addr.add, ↓reduceIte] at hx157_1); (try simp only [show (1 : Int).toNat = 1 from rfl, Nat.reduceMul, Nat.reduceEqDiff, Go.Addr.add, ↓reduceIte] at hx157_2); have qi157 : (1 < t153.length) = True := eq_true (by omega); (try rw [show ((1 : Int)).toNat = 1 from rfl] at hx157_0); (try rw [show 1 * 3 = 3 from rfl] at hx157_0); (try rw [show ((1 : Int)).toNat = 1 from rfl] at hx157_1); (try rw [show 1 * 3 = 3 from rfl] at hx157_1); (try rw [show ((1 : Int)).toNat = 1 from rfl] at hx157_2); (try rw [show 1 * 3 = 3 from rfl] at hx157_2); replace p157 := eq_true p157; replace q157 := eq_true q157) | (go_at_call 14; (with_reducible refine (tuple_Next.calls (⟨#[97, 255]⟩ : ByteArray) t158 _ A9.out).mono ?_); rintro e w16 ⟨rfl, hb⟩; have n0_ := Aside0.mk (Kd.R_below (by (with_reducible repeat (first | apply Kd.R_alloc | apply Kd.R_drewN | apply Kd.R_drew)); exact HO150.out) hb); have n1_ := Aside0.mk (Kd.R_below (by (with_reducible repeat (first | apply Kd.R_alloc | apply Kd.R_drewN | apply Kd.R_drew)); exact HO156.out) hb); have n2_ := Aside0.mk (below_step (by repeat (first | (with_reducible first | exact HB.out | apply below_alloc | apply pw_below_drewN | apply below_drew1) | exact HB.out)) hb); clear HO150; clear HO156; clear HB; have HO150 := n0_; have HO156 := n1_; have HB := n2_; clear n0_ n1_ n2_; (try clear hb); (try clear hb2); (try clear hk); (try clear hi)))
              go_ret
              exact ⟨by first | rfl | (simp [errW_none, errW_some] <;> rfl) | (simp [*, errW_none, errW_some] <;> rfl), by repeat (first | (with_reducible first | exact HB.out | apply below_alloc | apply pw_below_drewN | apply below_drew1) | exact HB.out)⟩
            · rw [if_neg c8] at H
              have c8b0 : (((rd_T37 t153 1).f2).toList == ([97] : List UInt8)) = false := beq_eq_false_iff_ne.mpr c8
              have c8b1 : (((rd_T37 t153 1).f2).toList != ([97] : List UInt8)) = true := bne_iff_ne.mpr c8
              obtain rfl := Option.some.inj H
              go_enter Tryd.func8, Tryd.ntmps8
              go_wp2_with (first | ((with_reducible refine gate_dst (N := 8) rfl ?_); (try (refine gate_guard (by rfl) ?_; dsimp only)); refine Kd.R_lit k37 _ 37 ?hg (N := 8) ?hd (xs := ([(⟨1, 1, (⟨#[]⟩ : ByteArray)⟩ : S37), (⟨2, 0, (⟨#[97]⟩ : ByteArray)⟩ : S37)] : List (S37))) (inner := [.int .i64 1, .int .i64 1, .string (⟨#[]⟩ : ByteArray), .int .i64 2, .int .i64 0, .string (⟨#[97]⟩ : ByteArray)]) (ok := fun _ => True) (okp := fun _ => True) ?hr ?hp (fun _ hk => hk) trivial (Below.refl _ _) (Nat.le_refl _) (by simp) ?_; (case hd => rfl); (case hg => rfl); (case hr => first | (go_simp; done) | (go_simp; rfl)); (case hp => exact (Reps.c3 (show Kd.M k37 _ _ _ (⟨1, 1, (⟨#[]⟩ : ByteArray)⟩ : S37) [.int .i64 1, .int .i64 1, .string (⟨#[]⟩ : ByteArray)] from (k37_mkM _ _ _ (⟨1, 1, (⟨#[]⟩ : ByteArray)⟩ : S37) )) (Reps.c3 (show Kd.M k37 _ _ _ (⟨2, 0, (⟨#[97]⟩ : ByteArray)⟩ : S37) [.int .i64 2, .int .i64 0, .string (⟨#[97]⟩ : ByteArray)] from (k37_mkM _ _ _ (⟨2, 0, (⟨#[97]⟩ : ByteArray)⟩ : S37) )) (Reps.none _ _)))); intro v149 w17 ho18 hb hg_ hnew_; clear hg_ hnew_; (first | rw [← Ny148.out] at ho18 | (simp only [Int.reduceToNat] at ho18; rw [← Ny148.out] at ho18)); have n0_ := Aside0.mk (Kd.R_lower ho18 (below_size (by repeat (first | (with_reducible first | exact HB.out | apply below_alloc | apply pw_below_drewN | apply below_drew1) | exact HB.out)))); have n1_ := Aside0.mk (below_step (by repeat (first | (with_reducible first | exact HB.out | apply below_alloc | apply pw_below_drewN | apply below_drew1) | exact HB.out)) hb); clear HB; have HO150 := n0_; have HB := n1_; clear n0_ n1_; clear hb ho18; obtain ⟨Ao19, co19, eo19⟩ := Kd.R_slice HO150.out; subst eo19) | ((with_reducible refine gate_callee (f := 10) rfl ?_); refine goesL_ (some 9) rfl rfl Tryd.func10 (by kernel_rfl) rfl #[.slice Ao19 y148.length co19] rfl (by (try simp only [List.map_toArray, List.map_cons, List.map_nil]); first | done | rfl | (simp only [List.length_drop, List.length_take]; rfl)) ?_; (with_reducible refine (tuple_Key.calls k _ _ y148 t151 t152 _ ?side1 ?side2 A1.out).mono ?_); (case side1 => repeat (first | exact (Kd.R_reads' HO150.out).2.2 | (with_reducible refine Kd.C_alloc ?_ _) | (with_reducible refine Kd.C_drewN ?_ _) | (with_reducible refine Kd.C_drew ?_))); (case side2 => exact (Kd.R_reads' HO150.out).2.1); rintro e w20 ⟨rfl, hb⟩; refine ⟨_, rfl, ?_⟩; have n0_ := Aside0.mk (Kd.R_below (by (with_reducible repeat (first | apply Kd.R_alloc | apply Kd.R_drewN | apply Kd.R_drew)); exact HO150.out) hb); have n1_ := Aside0.mk (below_step (by repeat (first | (with_reducible first | exact HB.out | apply below_alloc | apply pw_below_drewN | apply below_drew1) | exact HB.out)) hb); clear HO150; clear HB; have HO150 := n0_; have HB := n1_; clear n0_ n1_; (try clear hb); (try clear hb2); (try clear hk); (try clear hi)) | ((with_reducible refine gate_callee (f := 11) rfl ?_); refine goesL_ (some 14) rfl rfl Tryd.func11 (by kernel_rfl) rfl #[.string t151] rfl (by (try simp only [List.map_toArray, List.map_cons, List.map_nil]); first | done | rfl | (simp only [List.length_drop, List.length_take]; rfl)) ?_; (with_reducible refine (tuple_Vals.calls k t151 t153 t154 _ A2.out).mono ?_); rintro e w21 ⟨v155, rfl, ho0, hb⟩; refine ⟨_, rfl, ?_⟩; have n0_ := Aside0.mk (Kd.R_elder' (by (with_reducible repeat (first | apply Kd.R_alloc | apply Kd.R_drewN | apply Kd.R_drew)); exact HO150.out) (Kd.R_base ho0) hb); have n1_ := Aside0.mk (Kd.R_lower (Kd.R_new' ho0 (Kd.R_lt (by (with_reducible repeat (first | apply Kd.R_alloc | apply Kd.R_drewN | apply Kd.R_drew)); exact HO150.out))) (below_size (by repeat (first | (with_reducible first | exact HB.out | apply below_alloc | apply pw_below_drewN | apply below_drew1) | exact HB.out)))); have n2_ := Aside0.mk (below_step (by repeat (first | (with_reducible first | exact HB.out | apply below_alloc | apply pw_below_drewN | apply below_drew1) | exact HB.out)) hb); clear HO150; clear HB; have HO150 := n0_; have HO156 := n1_; have HB := n2_; clear n0_ n1_ n2_; (try clear hb); (try clear hb2); (try clear hk); (try clear hi); (try clear ho0); obtain ⟨Ao22, co22, eo22⟩ := Kd.R_slice HO156.out; subst eo22; have p157 : 0 ≤ (1 : Int) := (by omega); have q157 : 1 < (t153.length : Int) := of_decide_eq_true (by first | (with_reducible assumption) | assumption); obtain ⟨ad157, e157, hx157_0, hx157_1, hx157_2⟩ := at_T37 (Kd.R_reads' HO156.out).2.2 1 p157 q157; cases e157; (try simp only [show (1 : Int).toNat = 1 from rfl, Nat.reduceMul, Nat.reduceEqDiff, Go.Addr.add, ↓reduceIte] at hx157_0); (try simp only [show (1 : Int).toNat = 1 from rfl, Nat.reduceMul, Nat.reduceEqDiff, Go.Addr.add, ↓reduceIte] at hx157_1); (try simp only [show (1 : Int).toNat = 1 from rfl, Nat.reduceMul, Nat.reduceEqDiff, Go.Addr.add, ↓reduceIte] at hx157_2); have qi157 : (1 < t153.length) = True := eq_true (by omega); (try rw [show ((1 : Int)).toNat = 1 from rfl] at hx157_0); (try rw [show 1 * 3 = 3 from rfl] at hx157_0); (try rw [show ((1 : Int)).toNat = 1 from rfl] at hx157_1); (try rw [show 1 * 3 = 3 from rfl] at hx157_1); (try rw [show ((1 : Int)).toNat = 1 from rfl] at hx157_2); (try rw [show 1 * 3 = 3 from rfl] at hx157_2); replace p157 := eq_true p157; replace q157 := eq_true q157))
              go_ret
              exact ⟨by first | rfl | (simp [errW_none, errW_some] <;> rfl) | (simp [*, errW_none, errW_some] <;> rfl), by repeat (first | (with_reducible first | exact HB.out | apply below_alloc | apply pw_below_drewN | apply below_drew1) | exact HB.out)⟩
          · rw [if_neg c7] at H
            exact absurd H (by simp)
        · rw [if_neg c6] at H
          have c6b0 : ((t153.length : Int) == 2) = false := beq_eq_false_iff_ne.mpr c6
          have c6b1 : ((t153.length : Int) != 2) = true := bne_iff_ne.mpr c6
          obtain rfl := Option.some.inj H
          go_enter Tryd.func8, Tryd.ntmps8
          go_wp2_with (first | ((with_reducible refine gate_dst (N := 8) rfl ?_); (try (refine gate_guard (by rfl) ?_; dsimp only)); refine Kd.R_lit k37 _ 37 ?hg (N := 8) ?hd (xs := ([(⟨1, 1, (⟨#[]⟩ : ByteArray)⟩ : S37), (⟨2, 0, (⟨#[97]⟩ : ByteArray)⟩ : S37)] : List (S37))) (inner := [.int .i64 1, .int .i64 1, .string (⟨#[]⟩ : ByteArray), .int .i64 2, .int .i64 0, .string (⟨#[97]⟩ : ByteArray)]) (ok := fun _ => True) (okp := fun _ => True) ?hr ?hp (fun _ hk => hk) trivial (Below.refl _ _) (Nat.le_refl _) (by simp) ?_; (case hd => rfl); (case hg => rfl); (case hr => first | (go_simp; done) | (go_simp; rfl)); (case hp => exact (Reps.c3 (show Kd.M k37 _ _ _ (⟨1, 1, (⟨#[]⟩ : ByteArray)⟩ : S37) [.int .i64 1, .int .i64 1, .string (⟨#[]⟩ : ByteArray)] from (k37_mkM _ _ _ (⟨1, 1, (⟨#[]⟩ : ByteArray)⟩ : S37) )) (Reps.c3 (show Kd.M k37 _ _ _ (⟨2, 0, (⟨#[97]⟩ : ByteArray)⟩ : S37) [.int .i64 2, .int .i64 0, .string (⟨#[97]⟩ : ByteArray)] from (k37_mkM _ _ _ (⟨2, 0, (⟨#[97]⟩ : ByteArray)⟩ : S37) )) (Reps.none _ _)))); intro v149 w23 ho24 hb hg_ hnew_; clear hg_ hnew_; (first | rw [← Ny148.out] at ho24 | (simp only [Int.reduceToNat] at ho24; rw [← Ny148.out] at ho24)); have n0_ := Aside0.mk (Kd.R_lower ho24 (below_size (by repeat (first | (with_reducible first | exact HB.out | apply below_alloc | apply pw_below_drewN | apply below_drew1) | exact HB.out)))); have n1_ := Aside0.mk (below_step (by repeat (first | (with_reducible first | exact HB.out | apply below_alloc | apply pw_below_drewN | apply below_drew1) | exact HB.out)) hb); clear HB; have HO150 := n0_; have HB := n1_; clear n0_ n1_; clear hb ho24; obtain ⟨Ao25, co25, eo25⟩ := Kd.R_slice HO150.out; subst eo25) | ((with_reducible refine gate_callee (f := 10) rfl ?_); refine goesL_ (some 9) rfl rfl Tryd.func10 (by kernel_rfl) rfl #[.slice Ao25 y148.length co25] rfl (by (try simp only [List.map_toArray, List.map_cons, List.map_nil]); first | done | rfl | (simp only [List.length_drop, List.length_take]; rfl)) ?_; (with_reducible refine (tuple_Key.calls k _ _ y148 t151 t152 _ ?side1 ?side2 A1.out).mono ?_); (case side1 => repeat (first | exact (Kd.R_reads' HO150.out).2.2 | (with_reducible refine Kd.C_alloc ?_ _) | (with_reducible refine Kd.C_drewN ?_ _) | (with_reducible refine Kd.C_drew ?_))); (case side2 => exact (Kd.R_reads' HO150.out).2.1); rintro e w26 ⟨rfl, hb⟩; refine ⟨_, rfl, ?_⟩; have n0_ := Aside0.mk (Kd.R_below (by (with_reducible repeat (first | apply Kd.R_alloc | apply Kd.R_drewN | apply Kd.R_drew)); exact HO150.out) hb); have n1_ := Aside0.mk (below_step (by repeat (first | (with_reducible first | exact HB.out | apply below_alloc | apply pw_below_drewN | apply below_drew1) | exact HB.out)) hb); clear HO150; clear HB; have HO150 := n0_; have HB := n1_; clear n0_ n1_; (try clear hb); (try clear hb2); (try clear hk); (try clear hi)) | ((with_reducible refine gate_callee (f := 11) rfl ?_); refine goesL_ (some 14) rfl rfl Tryd.func11 (by kernel_rfl) rfl #[.string t151] rfl (by (try simp only [List.map_toArray, List.map_cons, List.map_nil]); first | done | rfl | (simp only [List.length_drop, List.length_take]; rfl)) ?_; (with_reducible refine (tuple_Vals.calls k t151 t153 t154 _ A2.out).mono ?_); rintro e w27 ⟨v155, rfl, ho0, hb⟩; refine ⟨_, rfl, ?_⟩; have n0_ := Aside0.mk (Kd.R_elder' (by (with_reducible repeat (first | apply Kd.R_alloc | apply Kd.R_drewN | apply Kd.R_drew)); exact HO150.out) (Kd.R_base ho0) hb); have n1_ := Aside0.mk (Kd.R_lower (Kd.R_new' ho0 (Kd.R_lt (by (with_reducible repeat (first | apply Kd.R_alloc | apply Kd.R_drewN | apply Kd.R_drew)); exact HO150.out))) (below_size (by repeat (first | (with_reducible first | exact HB.out | apply below_alloc | apply pw_below_drewN | apply below_drew1) | exact HB.out)))); have n2_ := Aside0.mk (below_step (by repeat (first | (with_reducible first | exact HB.out | apply below_alloc | apply pw_below_drewN | apply below_drew1) | exact HB.out)) hb); clear HO150; clear HB; have HO150 := n0_; have HO156 := n1_; have HB := n2_; clear n0_ n1_ n2_; (try clear hb); (try clear hb2); (try clear hk); (try clear hi); (try clear ho0); obtain ⟨Ao28, co28, eo28⟩ := Kd.R_slice HO156.out; subst eo28))
          go_ret
          exact ⟨by first | rfl | (simp [errW_none, errW_some] <;> rfl) | (simp [*, errW_none, errW_some] <;> rfl), by repeat (first | (with_reducible first | exact HB.out | apply below_alloc | apply pw_below_drewN | apply below_drew1) | exact HB.out)⟩
      · rw [if_neg c5] at H
        have c5b0 : (t151.toList == ([2, 128, 0, 0, 0, 0, 0, 0, 1, 3, 97, 0, 0] : List UInt8)) = false := beq_eq_false_iff_ne.mpr c5
        have c5b1 : (t151.toList != ([2, 128, 0, 0, 0, 0, 0, 0, 1, 3, 97, 0, 0] : List UInt8)) = true := bne_iff_ne.mpr c5
        obtain rfl := Option.some.inj H
        go_enter Tryd.func8, Tryd.ntmps8
        go_wp2_with (first | ((with_reducible refine gate_dst (N := 8) rfl ?_); (try (refine gate_guard (by rfl) ?_; dsimp only)); refine Kd.R_lit k37 _ 37 ?hg (N := 8) ?hd (xs := ([(⟨1, 1, (⟨#[]⟩ : ByteArray)⟩ : S37), (⟨2, 0, (⟨#[97]⟩ : ByteArray)⟩ : S37)] : List (S37))) (inner := [.int .i64 1, .int .i64 1, .string (⟨#[]⟩ : ByteArray), .int .i64 2, .int .i64 0, .string (⟨#[97]⟩ : ByteArray)]) (ok := fun _ => True) (okp := fun _ => True) ?hr ?hp (fun _ hk => hk) trivial (Below.refl _ _) (Nat.le_refl _) (by simp) ?_; (case hd => rfl); (case hg => rfl); (case hr => first | (go_simp; done) | (go_simp; rfl)); (case hp => exact (Reps.c3 (show Kd.M k37 _ _ _ (⟨1, 1, (⟨#[]⟩ : ByteArray)⟩ : S37) [.int .i64 1, .int .i64 1, .string (⟨#[]⟩ : ByteArray)] from (k37_mkM _ _ _ (⟨1, 1, (⟨#[]⟩ : ByteArray)⟩ : S37) )) (Reps.c3 (show Kd.M k37 _ _ _ (⟨2, 0, (⟨#[97]⟩ : ByteArray)⟩ : S37) [.int .i64 2, .int .i64 0, .string (⟨#[97]⟩ : ByteArray)] from (k37_mkM _ _ _ (⟨2, 0, (⟨#[97]⟩ : ByteArray)⟩ : S37) )) (Reps.none _ _)))); intro v149 w29 ho30 hb hg_ hnew_; clear hg_ hnew_; (first | rw [← Ny148.out] at ho30 | (simp only [Int.reduceToNat] at ho30; rw [← Ny148.out] at ho30)); have n0_ := Aside0.mk (Kd.R_lower ho30 (below_size (by repeat (first | (with_reducible first | exact HB.out | apply below_alloc | apply pw_below_drewN | apply below_drew1) | exact HB.out)))); have n1_ := Aside0.mk (below_step (by repeat (first | (with_reducible first | exact HB.out | apply below_alloc | apply pw_below_drewN | apply below_drew1) | exact HB.out)) hb); clear HB; have HO150 := n0_; have HB := n1_; clear n0_ n1_; clear hb ho30; obtain ⟨Ao31, co31, eo31⟩ := Kd.R_slice HO150.out; subst eo31) | ((with_reducible refine gate_callee (f := 10) rfl ?_); refine goesL_ (some 9) rfl rfl Tryd.func10 (by kernel_rfl) rfl #[.slice Ao31 y148.length co31] rfl (by (try simp only [List.map_toArray, List.map_cons, List.map_nil]); first | done | rfl | (simp only [List.length_drop, List.length_take]; rfl)) ?_; (with_reducible refine (tuple_Key.calls k _ _ y148 t151 t152 _ ?side1 ?side2 A1.out).mono ?_); (case side1 => repeat (first | exact (Kd.R_reads' HO150.out).2.2 | (with_reducible refine Kd.C_alloc ?_ _) | (with_reducible refine Kd.C_drewN ?_ _) | (with_reducible refine Kd.C_drew ?_))); (case side2 => exact (Kd.R_reads' HO150.out).2.1); rintro e w32 ⟨rfl, hb⟩; refine ⟨_, rfl, ?_⟩; have n0_ := Aside0.mk (Kd.R_below (by (with_reducible repeat (first | apply Kd.R_alloc | apply Kd.R_drewN | apply Kd.R_drew)); exact HO150.out) hb); have n1_ := Aside0.mk (below_step (by repeat (first | (with_reducible first | exact HB.out | apply below_alloc | apply pw_below_drewN | apply below_drew1) | exact HB.out)) hb); clear HO150; clear HB; have HO150 := n0_; have HB := n1_; clear n0_ n1_; (try clear hb); (try clear hb2); (try clear hk); (try clear hi)) | ((with_reducible refine gate_callee (f := 11) rfl ?_); refine goesL_ (some 14) rfl rfl Tryd.func11 (by kernel_rfl) rfl #[.string t151] rfl (by (try simp only [List.map_toArray, List.map_cons, List.map_nil]); first | done | rfl | (simp only [List.length_drop, List.length_take]; rfl)) ?_; (with_reducible refine (tuple_Vals.calls k t151 t153 t154 _ A2.out).mono ?_); rintro e w33 ⟨v155, rfl, ho0, hb⟩; refine ⟨_, rfl, ?_⟩; have n0_ := Aside0.mk (Kd.R_elder' (by (with_reducible repeat (first | apply Kd.R_alloc | apply Kd.R_drewN | apply Kd.R_drew)); exact HO150.out) (Kd.R_base ho0) hb); have n1_ := Aside0.mk (Kd.R_lower (Kd.R_new' ho0 (Kd.R_lt (by (with_reducible repeat (first | apply Kd.R_alloc | apply Kd.R_drewN | apply Kd.R_drew)); exact HO150.out))) (below_size (by repeat (first | (with_reducible first | exact HB.out | apply below_alloc | apply pw_below_drewN | apply below_drew1) | exact HB.out)))); have n2_ := Aside0.mk (below_step (by repeat (first | (with_reducible first | exact HB.out | apply below_alloc | apply pw_below_drewN | apply below_drew1) | exact HB.out)) hb); clear HO150; clear HB; have HO150 := n0_; have HO156 := n1_; have HB := n2_; clear n0_ n1_ n2_; (try clear hb); (try clear hb2); (try clear hk); (try clear hi); (try clear ho0)))
        go_ret
        exact ⟨by first | rfl | (simp [errW_none, errW_some] <;> rfl) | (simp [*, errW_none, errW_some] <;> rfl), by repeat (first | (with_reducible first | exact HB.out | apply below_alloc | apply pw_below_drewN | apply below_drew1) | exact HB.out)⟩
    · rw [if_neg c4] at H
      have c4b0 : (t154 == 0) = false := beq_eq_false_iff_ne.mpr c4
      have c4b1 : (t154 != 0) = true := bne_iff_ne.mpr c4
      obtain rfl := Option.some.inj H
      go_enter Tryd.func8, Tryd.ntmps8
      go_wp2_with (first | ((with_reducible refine gate_dst (N := 8) rfl ?_); (try (refine gate_guard (by rfl) ?_; dsimp only)); refine Kd.R_lit k37 _ 37 ?hg (N := 8) ?hd (xs := ([(⟨1, 1, (⟨#[]⟩ : ByteArray)⟩ : S37), (⟨2, 0, (⟨#[97]⟩ : ByteArray)⟩ : S37)] : List (S37))) (inner := [.int .i64 1, .int .i64 1, .string (⟨#[]⟩ : ByteArray), .int .i64 2, .int .i64 0, .string (⟨#[97]⟩ : ByteArray)]) (ok := fun _ => True) (okp := fun _ => True) ?hr ?hp (fun _ hk => hk) trivial (Below.refl _ _) (Nat.le_refl _) (by simp) ?_; (case hd => rfl); (case hg => rfl); (case hr => first | (go_simp; done) | (go_simp; rfl)); (case hp => exact (Reps.c3 (show Kd.M k37 _ _ _ (⟨1, 1, (⟨#[]⟩ : ByteArray)⟩ : S37) [.int .i64 1, .int .i64 1, .string (⟨#[]⟩ : ByteArray)] from (k37_mkM _ _ _ (⟨1, 1, (⟨#[]⟩ : ByteArray)⟩ : S37) )) (Reps.c3 (show Kd.M k37 _ _ _ (⟨2, 0, (⟨#[97]⟩ : ByteArray)⟩ : S37) [.int .i64 2, .int .i64 0, .string (⟨#[97]⟩ : ByteArray)] from (k37_mkM _ _ _ (⟨2, 0, (⟨#[97]⟩ : ByteArray)⟩ : S37) )) (Reps.none _ _)))); intro v149 w34 ho35 hb hg_ hnew_; clear hg_ hnew_; (first | rw [← Ny148.out] at ho35 | (simp only [Int.reduceToNat] at ho35; rw [← Ny148.out] at ho35)); have n0_ := Aside0.mk (Kd.R_lower ho35 (below_size (by repeat (first | (with_reducible first | exact HB.out | apply below_alloc | apply pw_below_drewN | apply below_drew1) | exact HB.out)))); have n1_ := Aside0.mk (below_step (by repeat (first | (with_reducible first | exact HB.out | apply below_alloc | apply pw_below_drewN | apply below_drew1) | exact HB.out)) hb); clear HB; have HO150 := n0_; have HB := n1_; clear n0_ n1_; clear hb ho35; obtain ⟨Ao36, co36, eo36⟩ := Kd.R_slice HO150.out; subst eo36) | ((with_reducible refine gate_callee (f := 10) rfl ?_); refine goesL_ (some 9) rfl rfl Tryd.func10 (by kernel_rfl) rfl #[.slice Ao36 y148.length co36] rfl (by (try simp only [List.map_toArray, List.map_cons, List.map_nil]); first | done | rfl | (simp only [List.length_drop, List.length_take]; rfl)) ?_; (with_reducible refine (tuple_Key.calls k _ _ y148 t151 t152 _ ?side1 ?side2 A1.out).mono ?_); (case side1 => repeat (first | exact (Kd.R_reads' HO150.out).2.2 | (with_reducible refine Kd.C_alloc ?_ _) | (with_reducible refine Kd.C_drewN ?_ _) | (with_reducible refine Kd.C_drew ?_))); (case side2 => exact (Kd.R_reads' HO150.out).2.1); rintro e w37 ⟨rfl, hb⟩; refine ⟨_, rfl, ?_⟩; have n0_ := Aside0.mk (Kd.R_below (by (with_reducible repeat (first | apply Kd.R_alloc | apply Kd.R_drewN | apply Kd.R_drew)); exact HO150.out) hb); have n1_ := Aside0.mk (below_step (by repeat (first | (with_reducible first | exact HB.out | apply below_alloc | apply pw_below_drewN | apply below_drew1) | exact HB.out)) hb); clear HO150; clear HB; have HO150 := n0_; have HB := n1_; clear n0_ n1_; (try clear hb); (try clear hb2); (try clear hk); (try clear hi)) | ((with_reducible refine gate_callee (f := 11) rfl ?_); refine goesL_ (some 14) rfl rfl Tryd.func11 (by kernel_rfl) rfl #[.string t151] rfl (by (try simp only [List.map_toArray, List.map_cons, List.map_nil]); first | done | rfl | (simp only [List.length_drop, List.length_take]; rfl)) ?_; (with_reducible refine (tuple_Vals.calls k t151 t153 t154 _ A2.out).mono ?_); rintro e w38 ⟨v155, rfl, ho0, hb⟩; refine ⟨_, rfl, ?_⟩; have n0_ := Aside0.mk (Kd.R_elder' (by (with_reducible repeat (first | apply Kd.R_alloc | apply Kd.R_drewN | apply Kd.R_drew)); exact HO150.out) (Kd.R_base ho0) hb); have n1_ := Aside0.mk (Kd.R_lower (Kd.R_new' ho0 (Kd.R_lt (by (with_reducible repeat (first | apply Kd.R_alloc | apply Kd.R_drewN | apply Kd.R_drew)); exact HO150.out))) (below_size (by repeat (first | (with_reducible first | exact HB.out | apply below_alloc | apply pw_below_drewN | apply below_drew1) | exact HB.out)))); have n2_ := Aside0.mk (below_step (by repeat (first | (with_reducible first | exact HB.out | apply below_alloc | apply pw_below_drewN | apply below_drew1) | exact HB.out)) hb); clear HO150; clear HB; have HO150 := n0_; have HO156 := n1_; have HB := n2_; clear n0_ n1_ n2_; (try clear hb); (try clear hb2); (try clear hk); (try clear hi); (try clear ho0)))
      go_ret
      exact ⟨by first | rfl | (simp [errW_none, errW_some] <;> rfl) | (simp [*, errW_none, errW_some] <;> rfl), by repeat (first | (with_reducible first | exact HB.out | apply below_alloc | apply pw_below_drewN | apply below_drew1) | exact HB.out)⟩
  · rw [if_neg c3] at H
    have c3b0 : (t152 == 0) = false := beq_eq_false_iff_ne.mpr c3
    have c3b1 : (t152 != 0) = true := bne_iff_ne.mpr c3
    obtain rfl := Option.some.inj H
    go_enter Tryd.func8, Tryd.ntmps8
    go_wp2_with (first | ((with_reducible refine gate_dst (N := 8) rfl ?_); (try (refine gate_guard (by rfl) ?_; dsimp only)); refine Kd.R_lit k37 _ 37 ?hg (N := 8) ?hd (xs := ([(⟨1, 1, (⟨#[]⟩ : ByteArray)⟩ : S37), (⟨2, 0, (⟨#[97]⟩ : ByteArray)⟩ : S37)] : List (S37))) (inner := [.int .i64 1, .int .i64 1, .string (⟨#[]⟩ : ByteArray), .int .i64 2, .int .i64 0, .string (⟨#[97]⟩ : ByteArray)]) (ok := fun _ => True) (okp := fun _ => True) ?hr ?hp (fun _ hk => hk) trivial (Below.refl _ _) (Nat.le_refl _) (by simp) ?_; (case hd => rfl); (case hg => rfl); (case hr => first | (go_simp; done) | (go_simp; rfl)); (case hp => exact (Reps.c3 (show Kd.M k37 _ _ _ (⟨1, 1, (⟨#[]⟩ : ByteArray)⟩ : S37) [.int .i64 1, .int .i64 1, .string (⟨#[]⟩ : ByteArray)] from (k37_mkM _ _ _ (⟨1, 1, (⟨#[]⟩ : ByteArray)⟩ : S37) )) (Reps.c3 (show Kd.M k37 _ _ _ (⟨2, 0, (⟨#[97]⟩ : ByteArray)⟩ : S37) [.int .i64 2, .int .i64 0, .string (⟨#[97]⟩ : ByteArray)] from (k37_mkM _ _ _ (⟨2, 0, (⟨#[97]⟩ : ByteArray)⟩ : S37) )) (Reps.none _ _)))); intro v149 w39 ho40 hb hg_ hnew_; clear hg_ hnew_; (first | rw [← Ny148.out] at ho40 | (simp only [Int.reduceToNat] at ho40; rw [← Ny148.out] at ho40)); have n0_ := Aside0.mk (Kd.R_lower ho40 (below_size (by repeat (first | (with_reducible first | exact HB.out | apply below_alloc | apply pw_below_drewN | apply below_drew1) | exact HB.out)))); have n1_ := Aside0.mk (below_step (by repeat (first | (with_reducible first | exact HB.out | apply below_alloc | apply pw_below_drewN | apply below_drew1) | exact HB.out)) hb); clear HB; have HO150 := n0_; have HB := n1_; clear n0_ n1_; clear hb ho40; obtain ⟨Ao41, co41, eo41⟩ := Kd.R_slice HO150.out; subst eo41) | ((with_reducible refine gate_callee (f := 10) rfl ?_); refine goesL_ (some 9) rfl rfl Tryd.func10 (by kernel_rfl) rfl #[.slice Ao41 y148.length co41] rfl (by (try simp only [List.map_toArray, List.map_cons, List.map_nil]); first | done | rfl | (simp only [List.length_drop, List.length_take]; rfl)) ?_; (with_reducible refine (tuple_Key.calls k _ _ y148 t151 t152 _ ?side1 ?side2 A1.out).mono ?_); (case side1 => repeat (first | exact (Kd.R_reads' HO150.out).2.2 | (with_reducible refine Kd.C_alloc ?_ _) | (with_reducible refine Kd.C_drewN ?_ _) | (with_reducible refine Kd.C_drew ?_))); (case side2 => exact (Kd.R_reads' HO150.out).2.1); rintro e w42 ⟨rfl, hb⟩; refine ⟨_, rfl, ?_⟩; have n0_ := Aside0.mk (Kd.R_below (by (with_reducible repeat (first | apply Kd.R_alloc | apply Kd.R_drewN | apply Kd.R_drew)); exact HO150.out) hb); have n1_ := Aside0.mk (below_step (by repeat (first | (with_reducible first | exact HB.out | apply below_alloc | apply pw_below_drewN | apply below_drew1) | exact HB.out)) hb); clear HO150; clear HB; have HO150 := n0_; have HB := n1_; clear n0_ n1_; (try clear hb); (try clear hb2); (try clear hk); (try clear hi)) | ((with_reducible refine gate_callee (f := 11) rfl ?_); refine goesL_ (some 14) rfl rfl Tryd.func11 (by kernel_rfl) rfl #[.string t151] rfl (by (try simp only [List.map_toArray, List.map_cons, List.map_nil]); first | done | rfl | (simp only [List.length_drop, List.length_take]; rfl)) ?_; (with_reducible refine (tuple_Vals.calls k t151 t153 t154 _ A2.out).mono ?_); rintro e w43 ⟨v155, rfl, ho0, hb⟩; refine ⟨_, rfl, ?_⟩; have n0_ := Aside0.mk (Kd.R_elder' (by (with_reducible repeat (first | apply Kd.R_alloc | apply Kd.R_drewN | apply Kd.R_drew)); exact HO150.out) (Kd.R_base ho0) hb); have n1_ := Aside0.mk (Kd.R_lower (Kd.R_new' ho0 (Kd.R_lt (by (with_reducible repeat (first | apply Kd.R_alloc | apply Kd.R_drewN | apply Kd.R_drew)); exact HO150.out))) (below_size (by repeat (first | (with_reducible first | exact HB.out | apply below_alloc | apply pw_below_drewN | apply below_drew1) | exact HB.out)))); have n2_ := Aside0.mk (below_step (by repeat (first | (with_reducible first | exact HB.out | apply below_alloc | apply pw_below_drewN | apply below_drew1) | exact HB.out)) hb); clear HO150; clear HB; have HO150 := n0_; have HO156 := n1_; have HB := n2_; clear n0_ n1_ n2_; (try clear hb); (try clear hb2); (try clear hk); (try clear hi); (try clear ho0)))
    go_ret
    exact ⟨by first | rfl | (simp [errW_none, errW_some] <;> rfl) | (simp [*, errW_none, errW_some] <;> rfl), by repeat (first | (with_reducible first | exact HB.out | apply below_alloc | apply pw_below_drewN | apply below_drew1) | exact HB.out)⟩

/-! ### shelfmarkref03_Light: function 9 -/
mutual
def shelfmarkref03_Light.l0 : Nat → List (S37) → Int → Int → Int → Option (Bool)
  | 0, _, _, _, _ => none
  | k + 1, x0, x1, x5, x6 => if x6 < (x0.length : Int) then (if 0 ≤ x6 then (if (((rd_T37 x0 x6).f2).size : Int) > x1 then (shelfmarkref03_Light.j1 k x0 x1 x5 x6 true) else (shelfmarkref03_Light.j1 k x0 x1 x5 x6 (decide (x6 > x1)))) else (none)) else (some true)
def shelfmarkref03_Light.j1 : Nat → List (S37) → Int → Int → Int → Bool → Option (Bool)
  | 0, _, _, _, _, _ => none
  | k + 1, x0, x1, x5, x6, x25 => if x25 = true then (some false) else (if 0 ≤ x6 then (if x6 < (x0.length : Int) then (if (wrap64 (x5 + (((rd_T37 x0 x6).f2).size : Int))) > x1 then (some false) else (shelfmarkref03_Light.l0 k x0 x1 (wrap64 (x5 + (((rd_T37 x0 x6).f2).size : Int))) (wrap64 (x6 + 1)))) else (none)) else (none))
end
def shelfmarkref03_Light.f (k : Nat) (l0 : List (S37)) (a1 : Int) : Option (Bool) := shelfmarkref03_Light.l0 k l0 a1 0 0
theorem shelfmarkref03_Light.mono_l : ∀ k, (∀ y0 y1 y2 y3, LeO (shelfmarkref03_Light.l0 k y0 y1 y2 y3) (shelfmarkref03_Light.l0 (k + 1) y0 y1 y2 y3)) ∧ (∀ y0 y1 y2 y3 y4, LeO (shelfmarkref03_Light.j1 k y0 y1 y2 y3 y4) (shelfmarkref03_Light.j1 (k + 1) y0 y1 y2 y3 y4))
  | 0 => ⟨fun _ _ _ _ r h => by simp [shelfmarkref03_Light.l0] at h, fun _ _ _ _ _ r h => by simp [shelfmarkref03_Light.j1] at h⟩
  | k + 1 => by
    obtain ⟨ih0, ih1⟩ := shelfmarkref03_Light.mono_l k
    refine ⟨?_, ?_⟩
    · intro y0 y1 y2 y3
      unfold shelfmarkref03_Light.l0
      repeat' first
      | (with_reducible exact ih0 _ _ _ _)
      | (with_reducible exact ih1 _ _ _ _ _)
      | (with_reducible exact LeO.refl _)
      | (with_reducible exact LeO.none _)
      | (with_reducible refine LeO.ite ?_ ?_)
      | (with_reducible refine LeO.bind ?_ (fun _ => ?_))
      | exact ih0 _ _ _ _
      | exact ih1 _ _ _ _ _
      | exact LeO.none _
      | refine LeO.ite ?_ ?_
      | refine LeO.bind ?_ (fun _ => ?_)
    · intro y0 y1 y2 y3 y4
      unfold shelfmarkref03_Light.j1
      repeat' first
      | (with_reducible exact ih0 _ _ _ _)
      | (with_reducible exact ih1 _ _ _ _ _)
      | (with_reducible exact LeO.refl _)
      | (with_reducible exact LeO.none _)
      | (with_reducible refine LeO.ite ?_ ?_)
      | (with_reducible refine LeO.bind ?_ (fun _ => ?_))
      | exact ih0 _ _ _ _
      | exact ih1 _ _ _ _ _
      | exact LeO.none _
      | refine LeO.ite ?_ ?_
      | refine LeO.bind ?_ (fun _ => ?_)
theorem shelfmarkref03_Light.mono : ∀ a0 a1 k, LeO (shelfmarkref03_Light.f k a0 a1) (shelfmarkref03_Light.f (k + 1) a0 a1) := by
  intro a0 a1 k
  obtain ⟨ih0, ih1⟩ := shelfmarkref03_Light.mono_l k
  unfold shelfmarkref03_Light.f
  repeat' first
      | (with_reducible exact ih0 _ _ _ _)
      | (with_reducible exact ih1 _ _ _ _ _)
      | (with_reducible exact LeO.refl _)
      | (with_reducible exact LeO.none _)
      | (with_reducible refine LeO.ite ?_ ?_)
      | (with_reducible refine LeO.bind ?_ (fun _ => ?_))
      | exact ih0 _ _ _ _
      | exact ih1 _ _ _ _ _
      | exact LeO.none _
      | refine LeO.ite ?_ ?_
      | refine LeO.bind ?_ (fun _ => ?_)
set_option maxHeartbeats 3000000 in
set_option maxRecDepth 100000 in
theorem shelfmarkref03_Light.calls (k : Nat) (A0 : Option Addr) (c0 : Nat) (l0 : List (S37)) (a1 : Int) (r : Bool) (w : World) (hr0 : Kd.C k37 w A0 l0.length l0) (hc0 : l0.length ≤ c0) (h : shelfmarkref03_Light.f k l0 a1 = some r) :
    Calls Tryd.prog 9 #[.slice A0 l0.length c0, .int .i64 a1] w fun e w' => e = .returned (.bool r) ∧ Drawn0 w w' := by
  have HR0 := Aside0.mk hr0
  have HC0 := Aside0.mk hc0
  clear hr0 hc0
  have H : (shelfmarkref03_Light.l0 k l0 a1 0 0) = some r := h
  clear h
  have H' := Aside0.mk H
  clear H
  go_enter Tryd.func9, Tryd.ntmps9
  go_wp2
  go_loopg [5, 6] k (fun kq v5 v6 w' => ∃ (x5_1 : Int) (x6_1 : Int), v5 = .int .i64 x5_1 ∧ v6 = .int .i64 x6_1 ∧ Aside0 (shelfmarkref03_Light.l0 kq l0 a1 x5_1 x6_1 = some r) ∧ Aside0 (kq ≤ k) ∧ Drawn0 w w')
  case atStart => exact ⟨(0), (0), (by first | rfl | (simp; done) | (simp [*]; done) | (simp [ne_nil_bytes]; done) | (simp [eq_nil_bytes]; done)), (by first | rfl | (simp; done) | (simp [*]; done) | (simp [ne_nil_bytes]; done) | (simp [eq_nil_bytes]; done)), H', ⟨Nat.le_refl _⟩, by repeat (first | exact Drawn0.refl _ | apply Drawn0.step)⟩
  case round =>
    clear H'
    try clear p2
    obtain ⟨x5_1, x6_1, rfl, rfl, HA, HK1, ⟨m1, rfl⟩⟩ := hrel
    cases gk with
    | zero => exact absurd HA.out (by simp [shelfmarkref03_Light.l0])
    | succ k1 =>
      have H := HA.out
      clear HA
      simp only [shelfmarkref03_Light.l0] at H
      by_cases c3 : x6_1 < (l0.length : Int)
      · rw [if_pos c3] at H
        have c3b0 : decide (x6_1 < (l0.length : Int)) = true := decide_eq_true c3
        clear c3
        have HC4 := Aside0.mk H
        clear H
        go_upto_region 5 with (fail)
        go_cut [25] (fun v25 wc => ∃ (kq : Nat) (x25_3 : Bool), v25 = .bool x25_3 ∧ Aside0 (shelfmarkref03_Light.j1 kq l0 a1 x5_1 x6_1 x25_3 = some r) ∧ Aside0 (kq ≤ k1) ∧ Drawn0 w wc)
        case first =>
          have H := HC4.out
          clear HC4
          by_cases c5 : 0 ≤ x6_1
          · rw [if_pos c5] at H
            have c5b0 : decide (0 ≤ x6_1) = true := decide_eq_true c5
            clear c5
            (first | rw [c5b0] | (simp only [i64_w, i32_w]; rw [c5b0]) | skip)
            by_cases c6 : (((rd_T37 l0 x6_1).f2).size : Int) > a1
            · rw [if_pos c6] at H
              have c6b0 : decide (a1 < (((rd_T37 l0 x6_1).f2).size : Int)) = true := decide_eq_true c6
              clear c6
              have H' := Aside0.mk H
              clear H
              have p159 : 0 ≤ (x6_1 : Int) := of_decide_eq_true (by first | (with_reducible assumption) | assumption)
              have q159 : x6_1 < (l0.length : Int) := of_decide_eq_true (by first | (with_reducible assumption) | assumption)
              obtain ⟨ad159, e159, hx159_0, hx159_1, hx159_2⟩ := at_T37 HR0.out x6_1 p159 q159
              cases e159
              replace p159 := eq_true p159
              replace q159 := eq_true q159
              go_wp2
              go_meet
              case rel => exact ⟨_, (true), (by first | rfl | (simp; done) | (simp [*]; done) | (simp [ne_nil_bytes]; done) | (simp [eq_nil_bytes]; done)), H', ⟨by have := HK1.out; first | omega | exact Nat.le_refl _⟩, by repeat (first | exact Drawn0.refl _ | apply Drawn0.step)⟩
            · rw [if_neg c6] at H
              have c6b0 : decide (a1 < (((rd_T37 l0 x6_1).f2).size : Int)) = false := decide_eq_false c6
              clear c6
              have H' := Aside0.mk H
              clear H
              have p159 : 0 ≤ (x6_1 : Int) := of_decide_eq_true (by first | (with_reducible assumption) | assumption)
              have q159 : x6_1 < (l0.length : Int) := of_decide_eq_true (by first | (with_reducible assumption) | assumption)
              obtain ⟨ad159, e159, hx159_0, hx159_1, hx159_2⟩ := at_T37 HR0.out x6_1 p159 q159
              cases e159
              replace p159 := eq_true p159
              replace q159 := eq_true q159
              go_wp2
              go_meet
              case rel => exact ⟨_, (decide (x6_1 > a1)), (by first | rfl | (simp; done) | (simp [*]; done) | (simp [ne_nil_bytes]; done) | (simp [eq_nil_bytes]; done)), H', ⟨by have := HK1.out; first | omega | exact Nat.le_refl _⟩, by repeat (first | exact Drawn0.refl _ | apply Drawn0.step)⟩
          · rw [if_neg c5] at H
            exact absurd H (by simp)
        case rest =>
          clear HC4
          try clear p1
          try clear q1
          try clear hx1
          try clear p2
          try clear c3
          try clear c3b0
          try clear c3b0z
          try clear c5
          try clear c5b0
          try clear c5b0z
          try clear c6
          try clear c6b0
          try clear c6b0z
          try clear hx159_0
          try clear hx159_1
          try clear hx159_2
          try clear p159
          try clear p2
          try clear q159
          obtain ⟨kq, x25_3, rfl, HA, HJ3, ⟨mc3, rfl⟩⟩ := hcut
          cases kq with
          | zero => exact absurd HA.out (by simp [shelfmarkref03_Light.j1])
          | succ kj3 =>
            have H := HA.out
            clear HA
            simp only [shelfmarkref03_Light.j1] at H
            by_cases c7 : x25_3 = true
            · subst c7
              have H1 : (some false) = some r := by rw [if_pos rfl] at H; exact H
              clear H
              have H := H1
              clear H1
              obtain rfl := Option.some.inj H
              go_wp2
              go_ret
              exact ⟨by first | rfl | (simp; done) | (simp [*]; done), by repeat (first | exact Drawn0.refl _ | apply Drawn0.step)⟩
            · replace c7 := Bool.eq_false_iff.mpr c7
              subst c7
              have H1 : (if 0 ≤ x6_1 then (if x6_1 < (l0.length : Int) then (if (wrap64 (x5_1 + (((rd_T37 l0 x6_1).f2).size : Int))) > a1 then (some false) else (shelfmarkref03_Light.l0 kj3 l0 a1 (wrap64 (x5_1 + (((rd_T37 l0 x6_1).f2).size : Int))) (wrap64 (x6_1 + 1)))) else (none)) else (none)) = some r := by rw [if_neg (show ¬ (false = true) by decide)] at H; exact H
              clear H
              have H := H1
              clear H1
              by_cases c8 : 0 ≤ x6_1
              · rw [if_pos c8] at H
                have c8b0 : decide (0 ≤ x6_1) = true := decide_eq_true c8
                clear c8
                by_cases c9 : x6_1 < (l0.length : Int)
                · rw [if_pos c9] at H
                  have c9b0 : decide (x6_1 < (l0.length : Int)) = true := decide_eq_true c9
                  clear c9
                  by_cases c10 : (wrap64 (x5_1 + (((rd_T37 l0 x6_1).f2).size : Int))) > a1
                  · rw [if_pos c10] at H
                    have c10b0 : decide (a1 < (wrap64 (x5_1 + (((rd_T37 l0 x6_1).f2).size : Int)))) = true := decide_eq_true c10
                    clear c10
                    obtain rfl := Option.some.inj H
                    have p160 : 0 ≤ (x6_1 : Int) := of_decide_eq_true (by first | (with_reducible assumption) | assumption)
                    have q160 : x6_1 < (l0.length : Int) := of_decide_eq_true (by first | (with_reducible assumption) | assumption)
                    obtain ⟨ad160, e160, hx160_0, hx160_1, hx160_2⟩ := at_T37 HR0.out x6_1 p160 q160
                    cases e160
                    replace p160 := eq_true p160
                    replace q160 := eq_true q160
                    go_wp2
                    go_ret
                    exact ⟨by first | rfl | (simp; done) | (simp [*]; done), by repeat (first | exact Drawn0.refl _ | apply Drawn0.step)⟩
                  · rw [if_neg c10] at H
                    have c10b0 : decide (a1 < (wrap64 (x5_1 + (((rd_T37 l0 x6_1).f2).size : Int)))) = false := decide_eq_false c10
                    clear c10
                    have H' := Aside0.mk H
                    clear H
                    have p160 : 0 ≤ (x6_1 : Int) := of_decide_eq_true (by first | (with_reducible assumption) | assumption)
                    have q160 : x6_1 < (l0.length : Int) := of_decide_eq_true (by first | (with_reducible assumption) | assumption)
                    obtain ⟨ad160, e160, hx160_0, hx160_1, hx160_2⟩ := at_T37 HR0.out x6_1 p160 q160
                    cases e160
                    replace p160 := eq_true p160
                    replace q160 := eq_true q160
                    go_wp2
                    go_roundg kj3
                    case measure => have := HK1.out; have := HJ3.out; omega
                    case rel => exact ⟨(wrap64 (x5_1 + (((rd_T37 l0 x6_1).f2).size : Int))), (wrap64 (x6_1 + 1)), (by first | rfl | (simp; done) | (simp [*]; done) | (simp [ne_nil_bytes]; done) | (simp [eq_nil_bytes]; done)), (by first | rfl | (simp; done) | (simp [*]; done) | (simp [ne_nil_bytes]; done) | (simp [eq_nil_bytes]; done)), H', ⟨by have := HK1.out; have := HJ3.out; omega⟩, by repeat (first | exact Drawn0.refl _ | apply Drawn0.step)⟩
                · rw [if_neg c9] at H
                  exact absurd H (by simp)
              · rw [if_neg c8] at H
                exact absurd H (by simp)
      · rw [if_neg c3] at H
        have c3b0 : decide (x6_1 < (l0.length : Int)) = false := decide_eq_false c3
        clear c3
        obtain rfl := Option.some.inj H
        go_wp2
        go_ret
        exact ⟨by first | rfl | (simp; done) | (simp [*]; done), by repeat (first | exact Drawn0.refl _ | apply Drawn0.step)⟩

end Go.Proofs.YtdaidcfpikeooaaDoor.PAll
