/- DERIVED. run.Make: what it computes, and its code walked. Conditions: those that each lemma names. -/
import Derived.Test.YtkkfkccfnfjbiaaPGrx6
import Derived.Test.YtkkfkccfnfjbiaaPGrx13
import Derived.Test.YtkkfkccfnfjbiaaPGrx7
import Derived.Test.YtkkfkccfnfjbiaaKb
namespace Go.Proofs.Ytkkfkccfnfjbiaa.Kc
open Go Go.RowKit Go.Lib Go.Proofs.Ytkkfkccfnfjbiaa.PGr Go.Proofs.YtkkfkccfnfjbiaaW.PrintWords Go.Proofs.YtkkfkccfnfjbiaaW.PrintLast Go.Proofs.Ytkkfkccfnfjbiaa.Hl Go.Proofs.Ytkkfkccfnfjbiaa.Fv Go.Proofs.Ytkkfkccfnfjbiaa.Ka Go.Proofs.Ytkkfkccfnfjbiaa.Kb
set_option linter.unusedSimpArgs false
set_option linter.unusedVariables false
def clr (x : S37) : S37 := if x.f2 = true then ⟨x.f0, ⟨#[]⟩, x.f2⟩ else x
def clrTo (xs : List S37) (i : Nat) : List S37 := (xs.take i).map clr ++ xs.drop i
theorem clrTo_len (xs : List S37) (i : Nat) : (clrTo xs i).length = xs.length := by
  unfold clrTo
  rw [List.length_append, List.length_map, List.length_take, List.length_drop]; omega
theorem clrTo_at (xs : List S37) (i : Nat) (h : i < xs.length) : elA (clrTo xs i) i = elA xs i := by
  unfold elA clrTo
  rw [List.getD_eq_getElem?_getD, List.getD_eq_getElem?_getD, List.getElem?_append_right (by rw [List.length_map, List.length_take]; omega), List.length_map, List.length_take, List.getElem?_drop, Nat.min_eq_left (by omega), Nat.sub_self, Nat.add_zero]
theorem clrTo_step (xs : List S37) (i : Nat) (h : i < xs.length) : clrTo xs (i + 1) = (clrTo xs i).set i (clr (elA xs i)) := by
  have e : elA xs i = xs[i] := by unfold elA; rw [List.getD_eq_getElem?_getD, List.getElem?_eq_getElem h]; rfl
  unfold clrTo
  rw [e, List.take_add_one, List.getElem?_eq_getElem h, Option.toList_some, List.map_append, List.map_cons, List.map_nil, List.append_assoc, List.set_append_right _ _ (by rw [List.length_map, List.length_take]; omega), List.length_map, List.length_take, Nat.min_eq_left (by omega), Nat.sub_self, List.drop_eq_getElem_cons h, List.set_cons_zero]
  rfl
theorem clrTo_all (xs : List S37) : clrTo xs xs.length = xs.map clr := by
  unfold clrTo
  rw [List.take_length, List.drop_length, List.append_nil]
def run_Make.f (k : Nat) (l0 : List S37) : Option (List S37) := (slices_Clone_api_Change_api_Change.f l0).bind fun a => (slices_Reverse_api_Change_api_Change.f k a).bind fun b => (slices_SortStableFunc_api_Change_api_Change_at_run_byKey.f k b).bind fun c => some ((compactL c).map clr)
theorem run_Make.mono : ∀ a0 k, LeO (run_Make.f k a0) (run_Make.f (k + 1) a0) := by
  intro a0 k
  unfold run_Make.f
  refine LeO.bind (LeO.refl _) (fun _ => LeO.bind (slices_Reverse_api_Change_api_Change.mono _ _) (fun _ => LeO.bind (slices_SortStableFunc_api_Change_api_Change_at_run_byKey.mono _ _) (fun _ => LeO.refl _)))
theorem R_max {w : World} {base : Nat} {ok : Nat → Prop} {A : Option Addr} {n c : Nat} {xs : List S37} (h : Kd.R k37 37 w base ok (.slice A n c) xs) : n ≤ 9223372036854775807 := by
  have hmx : maxLen = 9223372036854775807 := by rfl
  rcases R_cells h with ⟨e, _⟩ | ⟨g, c', cur, e, _, _, _, hc, hm, _, _⟩
  · injection e with _ e _
    omega
  · injection e with _ e _
    omega
theorem slice4 {w : World} {base : Nat} {ok : Nat → Prop} {v : Value} (xs : List S37) (h : Kd.R k37 37 w base ok v xs) : ∃ A n c, v = .slice A n c ∧ n = xs.length ∧ Aside0 (Kd.R k37 37 w base ok (.slice A n c) xs) := by
  obtain ⟨A, c, rfl⟩ := Kd.R_slice h
  exact ⟨A, _, c, rfl, rfl, ⟨h⟩⟩
set_option maxHeartbeats 4000000 in
set_option maxRecDepth 100000 in
theorem run_Make.calls (k : Nat) (A0 : Option Addr) (c0 : Nat) (l0 : List S37) (r : List S37) (w : World) (hr0 : Kd.C k37 w A0 l0.length l0) (hc0 : l0.length ≤ c0) (h : run_Make.f k l0 = some r) :
    Calls Try.prog 27 #[.slice A0 l0.length c0] w fun e w' => ∃ v0_ : Value, e = .returned v0_ ∧ Kd.R k37 37 w' w.heap.size (fun _ => True) v0_ r ∧ Below w.heap.size w w' := by
  have mixed : Try.prog.follows Departure.mixedOrders = true := by kernel_rfl
  have HR0 := Aside0.mk hr0
  have HC0 := Aside0.mk hc0
  have HB := Aside0.mk (Below.refl w.heap.size w)
  unfold run_Make.f at h
  replace h := Option.bind_eq_some_iff.1 h
  obtain ⟨a, h1, h⟩ := h
  replace h := Option.bind_eq_some_iff.1 h
  obtain ⟨b, h2, h⟩ := h
  replace h := Option.bind_eq_some_iff.1 h
  obtain ⟨c, h3, h⟩ := h
  obtain rfl := Option.some.inj h
  have A1 := Aside0.mk h1
  have A2 := Aside0.mk h2
  have A3 := Aside0.mk h3
  clear h hr0 hc0 h1 h2 h3
  go_enter Try.func27, Try.ntmps27
  go_wp2_with (first
    | ((with_reducible refine gate_callee (f := 35) rfl ?_); go_loud (refine goesL_ (some 6) rfl rfl Try.func35 (by kernel_rfl) rfl #[.slice A0 l0.length c0] rfl (by (try simp only [List.map_toArray, List.map_cons, List.map_nil]); rfl) ?_; (with_reducible refine (slices_Clone_api_Change_api_Change.calls _ _ l0 a _ ?side1 ?side2 A1.out).mono ?_); (case side1 => repeat (first | exact HR0.out | (with_reducible refine Kd.C_drewN ?_ _) | (with_reducible refine Kd.C_drew ?_))); (case side2 => exact HC0.out); rintro e w1 ⟨v1, rfl, hy0, hb⟩; refine ⟨_, rfl, ?_⟩; have HO1 := Aside0.mk (Kd.R_lower (base' := w.heap.size) hy0 (by exact below_size (hL HB.out))); have HB1 := Aside0.mk (below_step (hL HB.out) hb); clear hb hy0))
    | ((with_reducible refine gate_callee (f := 45) rfl ?_); refine goesL_ (some 8) rfl rfl Try.func45 (by kernel_rfl) rfl #[v1] rfl (by (try simp only [List.map_toArray, List.map_cons, List.map_nil]); rfl) ?_; (with_reducible refine (slices_Reverse_api_Change_api_Change.calls k (fun _ => True) v1 a b w _ ?side1 ?side2 A2.out).mono ?_); (case side1 => exact hL HB1.out); (case side2 => exact rL HO1.out); rintro e w2 ⟨rfl, hy0, hb, hkp⟩; refine ⟨_, rfl, ?_⟩; have HO2 := Aside0.mk (Kd.R_mono (ok' := fun _ => True) hy0 (fun _ _ => trivial)); have HB2 := Aside0.mk hb; clear hb hy0 hkp HO1 HB1)
    | ((with_reducible refine gate_callee (f := 46) rfl ?_); refine goesL_ (some 10) rfl rfl Try.func46 (by kernel_rfl) rfl #[v1, .func (.func 47) #[] #[]] rfl (by (try simp only [List.map_toArray, List.map_cons, List.map_nil]); rfl) ?_; (with_reducible refine (slices_SortStableFunc_api_Change_api_Change_at_run_byKey.calls k (fun _ => True) v1 b c w _ ?side1 ?side2 A3.out).mono ?_); (case side1 => exact hL HB2.out); (case side2 => exact rL HO2.out); rintro e w3 ⟨rfl, hy0, hb, hkp⟩; refine ⟨_, rfl, ?_⟩; have HO3 := Aside0.mk (Kd.R_mono (ok' := fun _ => True) hy0 (fun _ _ => trivial)); have HB3 := Aside0.mk hb; clear hb hy0 hkp HO2 HB2)
    | ((with_reducible refine gate_callee (f := 48) rfl ?_); refine goesL_ (some 12) rfl rfl Try.func48 (by kernel_rfl) rfl #[v1, .func (.func 49) #[] #[]] rfl (by (try simp only [List.map_toArray, List.map_cons, List.map_nil]); rfl) ?_; (refine (compact_v (fun _ => True) v1 c w _ ?side1 ?side2).mono ?_); (case side1 => exact hL HB3.out); (case side2 => exact rL HO3.out); rintro e w4 ⟨v4, rfl, hy0, hb, hkp⟩; obtain ⟨A, n, cc, hv, hn, HO4⟩ := slice4 (compactL c) (Kd.R_mono (ok' := fun _ => True) hy0 (fun _ _ => trivial)); subst hv; refine ⟨_, rfl, ?_⟩; have HB4 := Aside0.mk hb; have HN := Aside0.mk hn; clear hb hy0 hkp HO3 HB3 hn))
  obtain ⟨xs, hxs⟩ : ∃ xs, xs = compactL c := ⟨_, rfl⟩
  rw [← hxs] at HO4 HN
  have XS := Aside0.mk hxs
  clear hxs
  have HB := HB4
  have HM := Aside0.mk (R_max HO4.out)
  go_loopg [15] n (fun gk v15 wr => ∃ i : Nat, i ≤ n ∧ n - i ≤ gk ∧ v15 = .int .i64 (i : Int) ∧ Aside0 (Kd.R k37 37 wr w.heap.size (fun _ => True) (.slice A n cc) (clrTo xs i)) ∧ Aside0 (Below w.heap.size w wr))
  case atStart => exact ⟨0, by omega, by omega, rfl, ⟨HO4.out⟩, ⟨HB4.out⟩⟩
  case round =>
    obtain ⟨i, hi, hg, rfl, HO, HBi⟩ := hrel
    have hln := (Kd.R_reads' HO.out).1
    have hlc := (Kd.R_reads' HO.out).2.1
    by_cases hlt : i < n
    · obtain ⟨g, co, eo, gb, _, _⟩ := Kd.R_form HO.out (by omega)
      injection eo with ea _ ec
      subst ea
      have G := Aside0.mk gb
      clear ec gb hln
      obtain ⟨ce, hcl, hM, hcc, hfr⟩ := Kd.R_elem HO.out z37 (i : Int) (by omega) (by omega)
      obtain rfl := k37_openM hM
      have c1 : wr.cell? ⟨g, i * 3 + 1, none⟩ = some (.string (elA (clrTo xs i) i).f1) := hcc 1 _ rfl
      have c2 : wr.cell? ⟨g, i * 3 + 2, none⟩ = some (.bool (elA (clrTo xs i) i).f2) := hcc 2 _ rfl
      have f1 : wr.frozen? ⟨g, i * 3 + 1, none⟩ = false := hfr 1
      have hx := clrTo_at xs i (by rw [← HN.out]; exact hlt)
      rw [hx] at c1 c2
      have hst := clrTo_step xs i (by rw [← HN.out]; exact hlt)
      obtain ⟨y, hy⟩ : ∃ y, y = elA xs i := ⟨_, rfl⟩
      rw [← hy] at c1 c2 hst
      by_cases hgone : y.f2 = true
      · have HP := (Kd.R_seg HO.out (i : Int) (by omega) (by omega) (seg := [.string ⟨#[]⟩]) (j := 1) hcl hcc (show 1 + 1 ≤ 3 from by decide) (x' := clr y) (by
            have e : clr y = ⟨y.f0, ⟨#[]⟩, y.f2⟩ := by unfold clr; rw [if_pos hgone]
            rw [e]
            show Kd.M k37 _ _ _ _ [.string (elA (clrTo xs i) i).f0, .string ⟨#[]⟩, .bool (elA (clrTo xs i) i).f2]
            rw [hx, ← hy]
            exact k37_mkM _ _ _ _) (fun _ hk => hk)).1
        rw [Int.toNat_natCast, ← hst] at HP
        have HQ := Aside0.mk HP
        rw [hgone] at c2
        clear HP hst hx hcl hcc hfr hM hy hgone HO
        go_wp2
        go_roundg (n - (i + 1))
        case measure => omega
        case rel => exact ⟨i + 1, by omega, by omega, by rw [w64p (by have := HM.out; omega)], ⟨HQ.out⟩, ⟨HBi.out.setCell (p := ⟨g, i * 3 + 1, none⟩) G.out _⟩⟩
      · replace hgone : y.f2 = false := by simpa using hgone
        have hst2 : clrTo xs (i + 1) = clrTo xs i := by
          rw [hst]
          have e : clr y = y := by unfold clr; rw [if_neg (by rw [hgone]; decide)]
          have hl : i < (clrTo xs i).length := by rw [clrTo_len, ← HN.out]; exact hlt
          have e2 : (clrTo xs i)[i] = y := by
            rw [hy, ← hx]
            unfold elA
            rw [List.getD_eq_getElem?_getD, List.getElem?_eq_getElem hl]; rfl
          rw [e]
          apply List.ext_getElem?
          intro j
          rw [List.getElem?_set]
          by_cases hj : i = j
          · subst hj
            rw [if_pos rfl, if_pos hl, List.getElem?_eq_getElem hl, e2]
          · rw [if_neg hj]
        have HQ := Aside0.mk HO.out
        rw [← hst2] at HQ
        rw [hgone] at c2
        clear hst hst2 hx hcl hcc hfr hM hy hgone HO
        go_wp2
        go_roundg (n - (i + 1))
        case measure => omega
        case rel => exact ⟨i + 1, by omega, by omega, by rw [w64p (by have := HM.out; omega)], ⟨HQ.out⟩, ⟨HBi.out⟩⟩
    · obtain rfl : i = n := by omega
      clear hln hlc hlt hi hg
      go_wp2
      go_ret
      refine ⟨_, rfl, ?_, HBi.out⟩
      rw [← XS.out, ← clrTo_all, ← HN.out]
      exact HO.out
end Go.Proofs.Ytkkfkccfnfjbiaa.Kc
