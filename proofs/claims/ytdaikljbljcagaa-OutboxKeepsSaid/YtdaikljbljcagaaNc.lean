/- DERIVED. outbox.Latest: what it computes, and its code walked. Conditions: those that each lemma names. -/
import Derived.Test.YtdaikljbljcagaaPAllx2
import Derived.Test.YtdaikljbljcagaaPAllx10
import Derived.Test.YtdaikljbljcagaaNd
import Derived.Test.YtdaikljbljcagaaMj
namespace Go.Proofs.Ytdaikljbljcagaa.Nc
open Go Go.RowKit Go.Lib Go.Proofs.Ytdaikljbljcagaa.PAll Go.Proofs.YtdaikljbljcagaaW.PrintWords Go.Proofs.YtdaikljbljcagaaW.PrintLast Go.Proofs.Ytdaikljbljcagaa.Hl Go.Proofs.Ytdaikljbljcagaa.Fv Go.Proofs.Ytdaikljbljcagaa.Na Go.Proofs.Ytdaikljbljcagaa.Nb Go.Proofs.Ytdaikljbljcagaa.Mf
set_option linter.unusedSimpArgs false
set_option linter.unusedVariables false
def Latest_f (k : Nat) (l0 : List S29) : Option (List S29) := (slices_Clone_api_Intent_api_Intent.f l0).bind fun a => (slices_Reverse_api_Intent_api_Intent.f k a).bind fun b => (slices_SortStableFunc_api_Intent_api_Intent_at_outbox_Latest_1.f k b).bind fun c => some (compactL c)
theorem slice4 {w : World} {base : Nat} {ok : Nat → Prop} {v : Value} (xs : List S29) (h : Kd.R k29 29 w base ok v xs) : ∃ A c, v = .slice A xs.length c ∧ xs.length ≤ c ∧ Aside0 (Kd.R k29 29 w base ok (.slice A xs.length c) xs) := by
  obtain ⟨A, c, rfl⟩ := Kd.R_slice h
  exact ⟨A, c, rfl, (Kd.R_reads' h).2.1, ⟨h⟩⟩
set_option maxHeartbeats 4000000 in
set_option maxRecDepth 100000 in
theorem latest_v (k : Nat) (A0 : Option Addr) (c0 : Nat) (l0 : List S29) (r : List S29) (w : World) (hr0 : Kd.C k29 w A0 l0.length l0) (hc0 : l0.length ≤ c0) (h : Latest_f k l0 = some r) :
    Calls Try.prog 9 #[.slice A0 l0.length c0] w fun e w' => ∃ v0_ : Value, e = .returned v0_ ∧ Cl k29 29 w' w.heap.size v0_ r ∧ Below w.heap.size w w' := by
  have mixed : Try.prog.follows Departure.mixedOrders = true := by kernel_rfl
  have HR0 := Aside0.mk hr0
  have HC0 := Aside0.mk hc0
  have HB := Aside0.mk (Below.refl w.heap.size w)
  unfold Latest_f at h
  replace h := Option.bind_eq_some_iff.1 h
  obtain ⟨a, h1, h⟩ := h
  replace h := Option.bind_eq_some_iff.1 h
  obtain ⟨b, h2, h⟩ := h
  replace h := Option.bind_eq_some_iff.1 h
  obtain ⟨c, h3, h⟩ := h
  obtain rfl := Option.some.inj h
  have A1 := Aside0.mk h1
  have A2 := Aside0.mk h2
  have A3 := Aside0.mk h3
  clear h hr0 hc0 h1 h2 h3
  go_enter Try.func9, Try.ntmps9
  go_wp2_with (first
    | ((with_reducible refine gate_callee (f := 27) rfl ?_); refine goesL_ (some 5) rfl rfl Try.func27 (by kernel_rfl) rfl #[.slice A0 l0.length c0] rfl (by (try simp only [List.map_toArray, List.map_cons, List.map_nil]); rfl) ?_; (with_reducible refine (slices_Clone_api_Intent_api_Intent.calls _ _ l0 a _ ?side1 ?side2 A1.out).mono ?_); (case side1 => repeat (first | exact HR0.out | (with_reducible refine Kd.C_drewN ?_ _) | (with_reducible refine Kd.C_drew ?_))); (case side2 => exact HC0.out); rintro e w1 ⟨v1, rfl, hy0, hb⟩; refine ⟨_, rfl, ?_⟩; have HO1 := Aside0.mk (Kd.R_lower (base' := w.heap.size) hy0 (by exact below_size (hL HB.out))); have HB1 := Aside0.mk (below_step (hL HB.out) hb); clear hb hy0)
    | ((with_reducible refine gate_callee (f := 28) rfl ?_); refine goesL_ (some 7) rfl rfl Try.func28 (by kernel_rfl) rfl #[v1] rfl (by (try simp only [List.map_toArray, List.map_cons, List.map_nil]); rfl) ?_; (with_reducible refine (slices_Reverse_api_Intent_api_Intent.calls k (fun _ => True) v1 a b w _ ?side1 ?side2 A2.out).mono ?_); (case side1 => exact hL HB1.out); (case side2 => exact rL HO1.out); rintro e w2 ⟨rfl, hy0, hb, hkp⟩; refine ⟨_, rfl, ?_⟩; have HO2 := Aside0.mk (Kd.R_mono (ok' := fun _ => True) hy0 (fun _ _ => trivial)); have HB2 := Aside0.mk hb; clear hb hy0 hkp HO1 HB1)
    | ((with_reducible refine gate_callee (f := 29) rfl ?_); refine goesL_ (some 9) rfl rfl Try.func29 (by kernel_rfl) rfl #[v1, .func (.func 30) #[] #[]] rfl (by (try simp only [List.map_toArray, List.map_cons, List.map_nil]); rfl) ?_; (with_reducible refine (slices_SortStableFunc_api_Intent_api_Intent_at_outbox_Latest_1.calls k (fun _ => True) v1 b c w _ ?side1 ?side2 A3.out).mono ?_); (case side1 => exact hL HB2.out); (case side2 => exact rL HO2.out); rintro e w3 ⟨rfl, hy0, hb, hkp⟩; refine ⟨_, rfl, ?_⟩; have HO3 := Aside0.mk (Kd.R_mono (ok' := fun _ => True) hy0 (fun _ _ => trivial)); have HB3 := Aside0.mk hb; clear hb hy0 hkp HO2 HB2)
    | ((with_reducible refine gate_callee (f := 35) rfl ?_); refine goesL_ (some 11) rfl rfl Try.func35 (by kernel_rfl) rfl #[v1, .func (.func 36) #[] #[]] rfl (by (try simp only [List.map_toArray, List.map_cons, List.map_nil]); rfl) ?_; (refine (compact_v (fun _ => True) v1 c w _ ?side1 ?side2).mono ?_); (case side1 => exact hL HB3.out); (case side2 => exact rL HO3.out); rintro e w4 ⟨v4, rfl, hy0, hb, hkp⟩; obtain ⟨A, cc, hv, hn, HO4⟩ := slice4 (compactL c) (Kd.R_mono (ok' := fun _ => True) hy0 (fun _ _ => trivial)); subst hv; refine ⟨_, rfl, ?_⟩; have HB4 := Aside0.mk hb; have HN := Aside0.mk hn; clear hb hy0 hkp HO3 HB3 hn)
    | ((with_reducible refine gate_callee (f := 34) rfl ?_); refine goesL_ (some 12) rfl rfl Try.func34 (by kernel_rfl) rfl #[.slice A (compactL c).length cc] rfl (by (try simp only [List.map_toArray, List.map_cons, List.map_nil]); rfl) ?_; (refine (clip29 A _ cc HN.out _).mono ?_); rintro e w5 ⟨rfl, hb⟩; refine ⟨_, rfl, ?_⟩; have HO5 := Aside0.mk (Kd.R_below HO4.out hb); have HB5 := Aside0.mk (below_step HB4.out hb); clear hb))
  go_ret
  exact ⟨_, rfl, cl_of HO5.out, HB5.out⟩
end Go.Proofs.Ytdaikljbljcagaa.Nc
