/- DERIVED. slices.CompactFunc at run.Make's closure: its code walked. Conditions: those that each lemma names. -/
import Derived.Test.YtkkfkccfnfjbiaaKa
namespace Go.Proofs.Ytkkfkccfnfjbiaa.Kb
open Go Go.RowKit Go.Lib Go.Proofs.Ytkkfkccfnfjbiaa.PGr Go.Proofs.YtkkfkccfnfjbiaaW.PrintWords Go.Proofs.YtkkfkccfnfjbiaaW.PrintLast Go.Proofs.Ytkkfkccfnfjbiaa.Hl Go.Proofs.Ytkkfkccfnfjbiaa.Fv Go.Proofs.Ytkkfkccfnfjbiaa.Ka
set_option linter.unusedSimpArgs false
set_option linter.unusedVariables false
theorem keepS {W : World} {g i p : Nat} {x y : S37} (h : W.cell? ⟨g, i, none⟩ = some (.string x.f0) ∧ W.cell? ⟨g, i + 1, none⟩ = some (.string x.f1) ∧ W.cell? ⟨g, i + 2, none⟩ = some (.bool x.f2)) (h2 : W.cell? ⟨g, p, none⟩ = some (.string y.f0) ∧ W.cell? ⟨g, p + 1, none⟩ = some (.string y.f1) ∧ W.cell? ⟨g, p + 2, none⟩ = some (.bool y.f2)) :
    W.cell? ⟨g, i, none⟩ = some (.string x.f0) ∧ W.cell? ⟨g, i + 1, none⟩ = some (.string x.f1) ∧ W.cell? ⟨g, i + 2, none⟩ = some (.bool x.f2) ∧ W.cell? ⟨g, p, none⟩ = some (.string y.f0) ∧ W.cell? ⟨g, p + 1, none⟩ = some (.string y.f1) ∧ W.cell? ⟨g, p + 2, none⟩ = some (.bool y.f2) := ⟨h.1, h.2.1, h.2.2, h2.1, h2.2.1, h2.2.2⟩
theorem w64p {k : Nat} (h : k < 9223372036854775807) : wrap64 ((k : Int) + 1) = ((k + 1 : Nat) : Int) := by
  rw [show ((k + 1 : Nat) : Int) = (k : Int) + 1 by omega]
  exact Go.IntWalk.wrap64_in ((k : Int) + 1) (by omega)
theorem keep0 {l : List S37} (j : Nat) (hj : j < 1) : keepK l j = true := by
  obtain rfl : j = 0 := by omega
  rfl
set_option maxHeartbeats 4000000 in
set_option maxRecDepth 100000 in
theorem compact_big (P0_ : Nat → Prop) (g n c : Nat) (l : List S37) (w0 w : World) (hS : CSt w0 w P0_ g n c w l) (h2 : ¬ n < 2) (hcm : c ≤ maxLen) (hnc : n ≤ c) :
    Calls Try.prog 48 #[.slice (some ⟨g, 0, none⟩) n c, .func (.func 49) #[] #[]] w fun e w' => ∃ v', e = .returned v' ∧ Kd.R k37 37 w' w0.heap.size (fun k_ => P0_ k_ ∨ w.heap.size ≤ k_) v' (compactL l) ∧ Below w0.heap.size w0 w' ∧ Kept w w' P0_ := by
  have mixed : Try.prog.follows Departure.mixedOrders = true := by kernel_rfl
  have hl := hS.len
  have hmx : maxLen = 9223372036854775807 := by rfl
  have HS := Aside0.mk hS
  have HL := Aside0.mk hl
  have HC := Aside0.mk (show n ≤ 9223372036854775807 by omega)
  have HCC := Aside0.mk hcm
  clear hS hl hmx hcm
  go_enter Try.func48, Try.ntmps48
  go_wp2
  go_loopg [5] n (fun gk v5 wr => ∃ k : Nat, 1 ≤ k ∧ k ≤ n ∧ n - k ≤ gk ∧ v5 = .int .i64 (k : Int) ∧ Aside0 (∀ j, j < k → keepK l j = true) ∧ Aside0 (CSt w0 w P0_ g n c wr l))
  case atStart => exact ⟨1, by omega, by omega, by omega, rfl, ⟨fun j hj => keep0 j (by omega)⟩, ⟨HS.out⟩⟩
  case round =>
    obtain ⟨k, hk1, hk, hg, rfl, HA, HW⟩ := hrel
    by_cases hlt : k < n
    · have hp1 : k - 1 < n := by omega
      have hp3 : ((1 : Int) ≤ (k : Int)) = True := eq_true (by omega)
      have hp4 : ((k : Int) - 1 < (n : Int)) = True := eq_true (by omega)
      have hsub : IntKind.i64.wrap ((k : Int) - 1) = (k : Int) - 1 := by
        have hc := HC.out
        exact (i64_w _).trans (Go.IntWalk.wrap64_in ((k : Int) - 1) (by omega))
      obtain ⟨x, hx⟩ : ∃ x, elA l k = x := ⟨_, rfl⟩
      obtain ⟨y, hy⟩ : ∃ y, elA l (k - 1) = y := ⟨_, rfl⟩
      have X := Aside0.mk hx
      have Y := Aside0.mk hy
      have hB : keepK l k = !(x.f0.toList == y.f0.toList) := by
        unfold keepK ky; rw [hx, hy, show (k == 0) = false from beq_false_of_ne (by omega)]; rfl
      have HB := Aside0.mk hB
      have cx := (HW.out.cells k hlt).1
      have cy := (HW.out.cells (k - 1) hp1).1
      rw [hx] at cx
      rw [hy] at cy
      have CX := Aside0.mk cx
      have CY := Aside0.mk cy
      obtain ⟨x0, x1, x2⟩ := cx
      obtain ⟨y0, y1, y2⟩ := cy
      clear hx hy hB
      go_upto_region 6 with (fail)
      go_cut [28] from 18 to 28 (fun v28 wc => v28 = .bool (x.f0.toList == y.f0.toList) ∧ Aside0 (CSt w0 w P0_ g n c wc l))
      case first =>
        go_region_held3 (fun W : World => W.cell? ⟨g, k * 3, none⟩ = some (.string x.f0) ∧ W.cell? ⟨g, k * 3 + 1, none⟩ = some (.string x.f1) ∧ W.cell? ⟨g, k * 3 + 2, none⟩ = some (.bool x.f2) ∧ W.cell? ⟨g, (k - 1) * 3, none⟩ = some (.string y.f0) ∧ W.cell? ⟨g, (k - 1) * 3 + 1, none⟩ = some (.string y.f1) ∧ W.cell? ⟨g, (k - 1) * 3 + 2, none⟩ = some (.bool y.f2)) (first | exact keepS CX.out CY.out | exact keepS CX5.out CY5.out) (first
          | (refine goesV (N := some 28) Try.func49 (by kernel_rfl) rfl #[.agg #[.string x.f0, .string x.f1, .bool x.f2], .agg #[.string y.f0, .string y.f1, .bool y.f2]] (by rfl) rfl rfl (by (try simp only [List.map_toArray, List.map_cons, List.map_nil]); rfl) ?_; (with_reducible refine (run_Make_1.calls _ _ _ _ _ _ _ _ rfl).mono ?_); rintro e w5 ⟨rfl, hB⟩; refine ⟨_, rfl, ?_⟩; have HW5 := Aside0.mk ((HW.out.drew).later hB); have CX5 := Aside0.mk ((HW5.out.cells k hlt).1); have CY5 := Aside0.mk ((HW5.out.cells (k - 1) hp1).1); rw [X.out] at CX5; rw [Y.out] at CY5; clear hB))
        all_goals (try go_wp2)
        all_goals go_meet
        all_goals exact ⟨rfl, HW5⟩
      case rest =>
        obtain ⟨rfl, HW2⟩ := hcut
        clear HW x0 x1 x2 y0 y1 y2 CX CY hp1 hp3 hp4 hsub
        by_cases hdup : (x.f0.toList == y.f0.toList) = true
        · rw [hdup]
          have hkp := Aside0.mk (show keepK l k = false by rw [HB.out, hdup]; rfl)
          clear hdup HB X Y x y
          have hkc : ¬ (k = c) := by omega
          have hkn : (k : Int) ≤ (n : Int) := by omega
          have hkc2 : (k : Int) ≤ (c : Int) := by omega
          go_wp2
          go_loopg [5, 7] n (fun gk v5 v7 wr2 => ∃ (kk k2 : Nat) (dk : List S37), v5 = .int .i64 (kk : Int) ∧ v7 = .int .i64 (k2 : Int) ∧ 1 ≤ k2 ∧ k + k2 ≤ n ∧ n - (k + k2) ≤ gk ∧ Aside0 (CSt w0 w P0_ g n c wr2 dk) ∧ Aside0 (CInv l (k + k2) kk dk))
          case atStart => exact ⟨k, 1, l, rfl, rfl, by omega, by omega, by omega, ⟨HW2.out⟩, ⟨CInv.start (by rw [← HL.out]; omega) HA.out hkp.out⟩⟩
          case round =>
            obtain ⟨kk, k2, dk, rfl, rfl, h1, hle, hg2, HW3, HI⟩ := hrel
            have hkk : kk < k + k2 := HI.out.lt
            by_cases hlt2 : k + k2 < n
            · have hpn : k + k2 - 1 < n := by omega
              have hq1 : ((1 : Int) ≤ (k2 : Int)) = True := eq_true (by omega)
              have hq2 : (k2 : Int) < (n : Int) - (k : Int) := by omega
              have hq3 : ((k2 : Int) - 1 < (n : Int) - (k : Int)) = True := eq_true (by omega)
              have hq4 : k2 < n - k := by omega
              have hq5 : ((k2 : Int) < ((n - k : Nat) : Int)) = True := eq_true (by omega)
              have hq6 : ((k2 : Int) - 1 < ((n - k : Nat) : Int)) = True := eq_true (by omega)
              have hsub : IntKind.i64.wrap ((k2 : Int) - 1) = (k2 : Int) - 1 := by
                have hc := HC.out
                exact (i64_w _).trans (Go.IntWalk.wrap64_in ((k2 : Int) - 1) (by omega))
              obtain ⟨x, hx⟩ : ∃ x, elA l (k + k2) = x := ⟨_, rfl⟩
              obtain ⟨y, hy⟩ : ∃ y, elA l (k + k2 - 1) = y := ⟨_, rfl⟩
              have X := Aside0.mk ((HI.out.at_ (by omega)).trans hx)
              have Y := Aside0.mk ((HI.out.at_ (by omega)).trans hy)
              have X2 := Aside0.mk hx
              have hB : keepK l (k + k2) = !(x.f0.toList == y.f0.toList) := by
                unfold keepK ky; rw [hx, hy, show (k + k2 == 0) = false from beq_false_of_ne (by omega)]; rfl
              have HB := Aside0.mk hB
              have cx := (HW3.out.cells (k + k2) hlt2).1
              have cy := (HW3.out.cells (k + k2 - 1) hpn).1
              rw [X.out, Nat.add_mul] at cx
              rw [Y.out, show (k + k2 - 1) * 3 = k * 3 + (k2 - 1) * 3 by omega] at cy
              have CX := Aside0.mk cx
              have CY := Aside0.mk cy
              obtain ⟨x0, x1, x2⟩ := cx
              obtain ⟨y0, y1, y2⟩ := cy
              clear hx hy hB
              go_upto_region 11 with (fail)
              go_cut [49] from 38 to 49 (fun v49 wc => v49 = .bool (!(x.f0.toList == y.f0.toList)) ∧ Aside0 (CSt w0 w P0_ g n c wc dk))
              case first =>
                go_region_held3 (fun W : World => W.cell? ⟨g, k * 3 + k2 * 3, none⟩ = some (.string x.f0) ∧ W.cell? ⟨g, k * 3 + k2 * 3 + 1, none⟩ = some (.string x.f1) ∧ W.cell? ⟨g, k * 3 + k2 * 3 + 2, none⟩ = some (.bool x.f2) ∧ W.cell? ⟨g, k * 3 + (k2 - 1) * 3, none⟩ = some (.string y.f0) ∧ W.cell? ⟨g, k * 3 + (k2 - 1) * 3 + 1, none⟩ = some (.string y.f1) ∧ W.cell? ⟨g, k * 3 + (k2 - 1) * 3 + 2, none⟩ = some (.bool y.f2)) (first | exact keepS CX.out CY.out | exact keepS CX5.out CY5.out) (first
                  | (refine goesV (N := some 48) Try.func49 (by kernel_rfl) rfl #[.agg #[.string x.f0, .string x.f1, .bool x.f2], .agg #[.string y.f0, .string y.f1, .bool y.f2]] (by rfl) rfl rfl (by (try simp only [List.map_toArray, List.map_cons, List.map_nil]); rfl) ?_; (with_reducible refine (run_Make_1.calls _ _ _ _ _ _ _ _ rfl).mono ?_); rintro e w5 ⟨rfl, hB⟩; refine ⟨_, rfl, ?_⟩; have HW5 := Aside0.mk ((HW3.out.drew).later hB); have CX5 := Aside0.mk ((HW5.out.cells (k + k2) hlt2).1); have CY5 := Aside0.mk ((HW5.out.cells (k + k2 - 1) hpn).1); rw [X.out, Nat.add_mul] at CX5; rw [Y.out, show (k + k2 - 1) * 3 = k * 3 + (k2 - 1) * 3 by omega] at CY5; clear hB))
                all_goals (try go_wp2)
                all_goals go_meet
                all_goals exact ⟨rfl, HW5⟩
              case rest =>
                obtain ⟨rfl, HW5⟩ := hcut
                clear HW3 x0 x1 x2 y0 y1 y2 CX CY hpn hq1 hq3 hq6 hsub
                by_cases hdup2 : (x.f0.toList == y.f0.toList) = true
                · have hkp2 := Aside0.mk (show keepK l (k + k2) = false by rw [HB.out, hdup2]; rfl)
                  rw [hdup2]
                  clear hdup2 HB X Y X2 x y
                  go_wp2
                  go_roundg (n - (k + (k2 + 1)))
                  case measure => omega
                  case rel => exact ⟨kk, k2 + 1, dk, rfl, by rw [w64p (by have hc := HC.out; omega)], by omega, by omega, by omega, ⟨HW5.out⟩, ⟨HI.out.skip hkp2.out⟩⟩
                · replace hdup2 : (x.f0.toList == y.f0.toList) = false := by simpa using hdup2
                  have hkp2 := Aside0.mk (show keepK l (k + k2) = true by rw [HB.out, hdup2]; rfl)
                  have cx := (HW5.out.cells (k + k2) hlt2).1
                  rw [X.out, Nat.add_mul] at cx
                  obtain ⟨x0, x1, x2⟩ := cx
                  have hkn2 : kk < n := by omega
                  obtain ⟨⟨o0, o1, o2⟩, f0, f1, f2⟩ := HW5.out.cells kk hkn2
                  have HP := Aside0.mk (HW5.out.put kk hkn2 x)
                  have HI2 := Aside0.mk (HI.out.keep (by rw [← HL.out]; exact hlt2) hkp2.out)
                  have HI3 := Aside0.mk (show CInv l (k + k2 + 1) (kk + 1) (dk.set kk x) by rw [← X2.out]; exact HI2.out)
                  rw [hdup2]
                  clear hdup2 HB HI2 X Y X2 y HI HW5
                  go_wp2
                  go_roundg (n - (k + (k2 + 1)))
                  case measure => omega
                  case rel => exact ⟨kk + 1, k2 + 1, dk.set kk x, by rw [w64p (by have hc := HC.out; omega)], by rw [w64p (by have hc := HC.out; omega)], by omega, by omega, by omega, ⟨HP.out⟩, ⟨HI3.out⟩⟩
            · have hend : k + k2 = n := by omega
              obtain ⟨wz, hcl, hbz, hkz, hRz⟩ := HW3.out.clear_ kk (by omega)
              have HZ := Aside0.mk (And.intro hbz (And.intro hkz hRz))
              have hkn3 : kk ≤ n := by omega
              have hkc3 : ¬ (kk = c) := by omega
              have hkc4 : kk ≤ c := by omega
              have hkc5 : ((kk : Int) ≤ (n : Int)) = True := eq_true (by omega)
              have hkc6 : ((kk : Int) ≤ (c : Int)) = True := eq_true (by omega)
              have hres := Aside0.mk (show dk.take kk = compactL l by
                have h5 := HI.out.low
                rw [hend, HL.out] at h5
                exact h5)
              clear hbz hkz hRz
              go_wp2
              go_ret
              refine ⟨_, rfl, ?_, HZ.out.1, HZ.out.2.1⟩
              rw [← hres.out]
              exact HZ.out.2.2
        · replace hdup : (x.f0.toList == y.f0.toList) = false := by simpa using hdup
          rw [hdup]
          have hkp := Aside0.mk (show keepK l k = true by rw [HB.out, hdup]; rfl)
          clear hdup HB X Y x y
          go_wp2
          go_roundg (n - (k + 1))
          case measure => omega
          case rel => exact ⟨k + 1, by omega, by omega, Nat.le_refl _, by rw [w64p (by have hc := HC.out; omega)], ⟨fun j hj => by
            by_cases e : j = k
            · rw [e]; exact hkp.out
            · exact HA.out j (by omega)⟩, ⟨HW2.out⟩⟩
    · obtain rfl : k = n := by omega
      have hs := Aside0.mk (compactL_all l (fun j hj => HA.out j (by rw [HL.out]; exact hj)))
      go_wp2
      go_ret
      refine ⟨_, rfl, ?_, HW.out.below, HW.out.kept⟩
      rw [hs.out]
      exact HW.out.row
set_option maxHeartbeats 4000000 in
set_option maxRecDepth 100000 in
theorem compact_small (A : Option Addr) (n c : Nat) (w : World) (h2 : n < 2) :
    Calls Try.prog 48 #[.slice A n c, .func (.func 49) #[] #[]] w fun e w' => e = .returned (.slice A n c) ∧ w' = w := by
  go_enter Try.func48, Try.ntmps48
  go_wp2
  go_ret
  exact ⟨rfl, rfl⟩
/-- slices.CompactFunc by equal keys: the first of each run stays. -/
theorem compact_v (P0_ : Nat → Prop) (u : Value) (l : List S37) (w0 w : World) (hB : Below w0.heap.size w0 w) (ho : Kd.R k37 37 w w0.heap.size P0_ u l) :
    Calls Try.prog 48 #[u, .func (.func 49) #[] #[]] w fun e w' => ∃ v', e = .returned v' ∧ Kd.R k37 37 w' w0.heap.size (fun k_ => P0_ k_ ∨ w.heap.size ≤ k_) v' (compactL l) ∧ Below w0.heap.size w0 w' ∧ Kept w w' P0_ := by
  have ho' : Kd.R k37 37 w w0.heap.size (fun k_ => P0_ k_ ∨ w.heap.size ≤ k_) u l := Kd.R_mono ho (fun k_ hk => .inl hk)
  by_cases h2 : l.length < 2
  · obtain ⟨A, c, rfl⟩ := Kd.R_slice ho'
    refine (compact_small A l.length c w h2).mono ?_
    rintro e w' ⟨rfl, rfl⟩
    refine ⟨_, rfl, ?_, hB, Kept.refl _ _⟩
    rw [compactL_all l (fun j hj => keep0 j (by omega))]
    exact ho'
  · rcases R_cells ho' with ⟨_, e⟩ | ⟨g, c, cur, rfl, _, _, _, hc, hm, _, _⟩
    · rw [e] at h2; simp at h2
    · exact compact_big P0_ g l.length c l w0 w ⟨ho', hB, Kept.refl _ _⟩ h2 hm hc
end Go.Proofs.Ytkkfkccfnfjbiaa.Kb
