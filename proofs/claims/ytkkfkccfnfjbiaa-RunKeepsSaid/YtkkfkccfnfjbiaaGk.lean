/- DERIVED. Rows of rows made out of rows that are only read from then on. Conditions: those that each lemma names. DERIVED. RunKeeps: its code walked. Conditions: those that each lemma names. -/
import Derived.Test.YtkkfkccfnfjbiaaHl
import Derived.Test.YtkkfkccfnfjbiaaPGrx0
import Derived.WalkKit
import Derived.Test.YtkkfkccfnfjbiaaKc
import Derived.Test.YtkkfkccfnfjbiaaPGrx19
import Derived.Test.YtkkfkccfnfjbiaaPGrx4
import Derived.Test.YtkkfkccfnfjbiaaPGrx21
import Derived.Test.YtkkfkccfnfjbiaaPGrx14
import Derived.Test.YtkkfkccfnfjbiaaPGrx16
import Derived.Test.YtkkfkccfnfjbiaaPGrx6
import Derived.Test.YtkkfkccfnfjbiaaPGrx15
namespace Go.Proofs.Ytkkfkccfnfjbiaa.Ga
open Go Go.RowKit Go.Proofs.Ytkkfkccfnfjbiaa.PGr Go.Proofs.YtkkfkccfnfjbiaaW.PrintWords Go.Proofs.YtkkfkccfnfjbiaaW.PrintLast Go.Proofs.Ytkkfkccfnfjbiaa.Hl
set_option linter.unusedSimpArgs false
set_option linter.unusedVariables false
/-- A row's value that is only read: its list. -/
def Rd (w : World) (v : Value) (xs : List S37) : Prop := ∃ A c, v = .slice A xs.length c ∧ xs.length ≤ c ∧ k37.C w A xs.length xs
theorem Rd.below {w w1 : World} {v : Value} {xs : List S37} (h : Rd w v xs) (hb : Below w.heap.size w w1) : Rd w1 v xs := by
  obtain ⟨A, c, e, hl, hc⟩ := h
  exact ⟨A, c, e, hl, Kd.C_below hc hb⟩
theorem Rd.of_R {w : World} {e base : Nat} {ok : Nat → Prop} {v : Value} {xs : List S37} (h : Kd.R k37 e w base ok v xs) : Rd w v xs := by
  obtain ⟨A, c, rfl⟩ := Kd.R_slice h
  obtain ⟨_, h2, h3⟩ := Kd.R_reads' h
  exact ⟨A, c, rfl, h2, h3⟩
theorem K_of_Rd {w : World} {v : Value} {xs : List S37} (h : Rd w v xs) : (Kd.slice 37 k37).K w xs [v] := by
  obtain ⟨A, c, rfl, hl, hc⟩ := h
  exact ⟨A, c, rfl, hl, hc⟩
/-- The values' lists, one by one. -/
inductive Rds (w : World) : List Value → List (List S37) → Prop
  | nil : Rds w [] []
  | cons {v : Value} {xs : List S37} {vs : List Value} {ls : List (List S37)} : Rd w v xs → Rds w vs ls → Rds w (v :: vs) (xs :: ls)
theorem Rds.len {w : World} : ∀ {vs : List Value} {ls : List (List S37)}, Rds w vs ls → vs.length = ls.length
  | _, _, .nil => rfl
  | _, _, .cons _ h => by rw [List.length_cons, List.length_cons, h.len]
theorem Rds.get {w : World} : ∀ {vs : List Value} {ls : List (List S37)}, Rds w vs ls → ∀ (j : Nat) (p : List S37), ls[j]? = some p → ∃ v, vs[j]? = some v ∧ Rd w v p
  | _, _, .nil, j, p, h => by simp at h
  | _, _, .cons h1 _, 0, p, h => by
    simp only [List.getElem?_cons_zero, Option.some.injEq] at h
    subst h
    exact ⟨_, rfl, h1⟩
  | _, _, .cons _ h1, j + 1, p, h => by
    simp only [List.getElem?_cons_succ] at h ⊢
    exact h1.get j p h
theorem lit_C {W : World} {e : Nat} {vs : List Value} {ls : List (List S37)} (h : Rds W vs ls) (hm : ls.length ≤ 9223372036854775807) : Kd.C (Kd.slice 37 k37) (W.alloc (.cells vs.toArray e)) (some ⟨W.heap.size, 0, none⟩) ls.length ls := by
  refine ⟨rfl, hm, fun _ => ⟨_, rfl, fun j p hj => ?_⟩⟩
  obtain ⟨v, hv, hr⟩ := h.get j p hj
  refine ⟨[v], rfl, K_of_Rd (hr.below (below_alloc (Below.refl _ _) _)), fun i u hu => ?_⟩
  have hi : i = 0 := by
    rcases i with _ | i
    · rfl
    · simp at hu
  subst hi
  simp only [List.getElem?_cons_zero, Option.some.injEq] at hu
  subst hu
  have hnew : (W.alloc (.cells vs.toArray e)).heap[W.heap.size]? = some (.cells vs.toArray e (0, 0)) := blk_new _ _
  rw [add_plain]
  show World.cell? _ ⟨W.heap.size, j * (Kd.slice 37 k37).sz + 0, none⟩ = some v
  rw [show j * (Kd.slice 37 k37).sz + 0 = j by show j * 1 + 0 = j; omega, blk_cell hnew j]
  simpa using hv
section
variable {P : Program} {ops : Array Oper} {o : Oper} {a : Act} {Q : Exit → Act → World → Prop} {W : World} {rest : List Oper}
theorem lit_event (hgd : o.guard = none) {N : Tmp} (_hd : o.dst = some N) (vs : List Value) (ls : List (List S37)) (hr : (execOp a.eval o).run P W = .ok (.value (.slice (some ⟨W.heap.size, 0, none⟩) vs.length vs.length)) (W.alloc (.cells vs.toArray 25)))
    (hk : Rds W vs ls) (hm : ls.length ≤ 9223372036854775807) (h : ∀ A w1, Kd.C (Kd.slice 37 k37) w1 A ls.length ls → Below W.heap.size W w1 → wpList P ops Q rest (a.put o.dst (.slice A ls.length ls.length)) w1) : wpList P ops Q (o :: rest) a W := by
  rw [hk.len] at hr
  exact Kd.event_run hgd hr (h _ _ (lit_C hk hm) (below_alloc (Below.refl _ _) _))
end
end Go.Proofs.Ytkkfkccfnfjbiaa.Ga
namespace Go.Proofs.Ytkkfkccfnfjbiaa.Gk
open Go Go.RowKit Go.Proofs.Ytkkfkccfnfjbiaa.PGr Go.Proofs.YtkkfkccfnfjbiaaW.PrintWords Go.Proofs.YtkkfkccfnfjbiaaW.PrintLast Go.Proofs.Ytkkfkccfnfjbiaa.Hl Go.Proofs.Ytkkfkccfnfjbiaa.Fv Go.Proofs.Ytkkfkccfnfjbiaa.Ga Go.Proofs.Ytkkfkccfnfjbiaa.Ka Go.Proofs.Ytkkfkccfnfjbiaa.Kb
set_option linter.unusedSimpArgs false
set_option linter.unusedVariables false
theorem rd_C {w : World} {A : Option Addr} {n c : Nat} {xs : List S37} (h : Rd w (.slice A n c) xs) : k37.C w A xs.length xs := by
  obtain ⟨A', c', e, _, hC⟩ := h
  injection e with e1 _ _
  rw [e1]; exact hC
theorem rd_len {w : World} {A : Option Addr} {n c : Nat} {xs : List S37} (h : Rd w (.slice A n c) xs) : xs.length ≤ c := by
  obtain ⟨A', c', e, hl, _⟩ := h
  injection e with _ _ e3
  rw [e3]; exact hl
theorem same_calls (k : Nat) {w : World} {v0 v1 : Value} {l0 l1 : List S37} {r : Bool} (h : shelfmarkref09_Same.f k l0 l1 = some r) (h0 : Rd w v0 l0) (h1 : Rd w v1 l1) : Calls Try.prog 14 #[v0, v1] w fun e w' => e = .returned (.bool r) ∧ Below w.heap.size w w' := by
  obtain ⟨A0, c0, rfl, hl0, hc0⟩ := h0
  obtain ⟨A1, c1, rfl, hl1, hc1⟩ := h1
  refine (shelfmarkref09_Same.calls k A0 c0 l0 A1 c1 l1 r w hc0 hl0 hc1 hl1 h).mono ?_
  rintro e w' ⟨rfl, hd⟩
  exact ⟨rfl, by first | exact hd | exact hd.below⟩
/-- The change that stands in the spare room. -/
def bang : S37 := ⟨⟨#[33]⟩, ⟨#[]⟩, false⟩
/-- A row of one's own with that change behind it. -/
structure Own (w : World) (g m c : Nat) (l : List S37) : Prop where
  lt : l.length < m
  cap : m ≤ c
  read : k37.C w (some ⟨g, 0, none⟩) (l ++ [bang]).length (l ++ [bang])
theorem Own.below {w w1 : World} {g m c : Nat} {l : List S37} (h : Own w g m c l) (hb : Below w.heap.size w w1) : Own w1 g m c l := ⟨h.lt, h.cap, Kd.C_below h.read hb⟩
theorem Own.rest {w : World} {g m c : Nat} {l : List S37} (h : Own w g m c l) : k37.C w (some ⟨g, 0, none⟩) l.length l := by
  have := Kd.C_take (m := l.length) h.read (by simp)
  rwa [List.take_left'] at this
  rfl
theorem Own.rd {w : World} {g m c : Nat} {l : List S37} (h : Own w g m c l) : Rd w (.slice (some ⟨g, 0, none⟩) l.length c) l := ⟨_, _, rfl, Nat.le_trans (Nat.le_of_lt h.lt) h.cap, h.rest⟩
theorem Own.last {w : World} {g m c : Nat} {l : List S37} (h : Own w g m c l) : w.cell? ⟨g, l.length * 3, none⟩ = some (.string ⟨#[33]⟩) := by
  obtain ⟨_, _, h3⟩ := h.read
  obtain ⟨ad, e, hc⟩ := h3 (by simp)
  injection e with e
  subst e
  obtain ⟨cs, hl, hK, hcell⟩ := hc l.length bang (by simp)
  obtain rfl := k37_open hK
  have := hcell 0 _ rfl
  rw [add_plain] at this
  exact this
theorem own_of {w : World} {base : Nat} {ok : Nat → Prop} {v : Value} {l : List S37} (h : Kd.R k37 37 w base ok v (l ++ [bang])) : ∃ g m c, v = .slice (some ⟨g, 0, none⟩) m c ∧ Own w g m c l := by
  obtain ⟨g, c, rfl, _, _, _⟩ := Kd.R_form h (by simp)
  obtain ⟨_, h2, h3⟩ := Kd.R_reads' h
  exact ⟨g, _, c, rfl, by simp, h2, h3⟩
theorem own_ne {g n c k : Nat} (h : some k ≠ (Value.slice (some ⟨g, 0, none⟩) n c).ownBlock) : k ≠ g := by
  intro e
  apply h
  rw [e]
  rfl
set_option maxHeartbeats 8000000 in
set_option maxRecDepth 100000 in
/-- A list that isn't light: nothing is asked. -/
theorem dark (k : Nat) (A0 : Option Addr) (c0 : Nat) (l : List S37) (w : World) (ha : k37.C w A0 l.length l) (hca : l.length ≤ c0)
    (f1 : shelfmarklaw09_awake.f k = some true) (f2 : shelfmarkref09_Light.f k l 60 = some false) :
    Calls Try.prog 8 #[.slice A0 l.length c0] w fun e w' => e = .returned (.bool true) ∧ Below w.heap.size w w' := by
  have F1 := Aside0.mk f1; have F2 := Aside0.mk f2
  have HA := Aside0.mk (show Rd w (.slice A0 l.length c0) l from ⟨_, _, rfl, hca, ha⟩)
  have HB := Aside0.mk (Below.refl w.heap.size w)
  clear f1 f2 ha hca
  go_enter Try.func8, Try.ntmps8
  go_wp2_with (first
    | ((with_reducible refine gate_callee (f := 9) rfl ?_); refine goesL_ (some 12) rfl rfl Try.func9 (by kernel_rfl) rfl #[] rfl (by (try simp only [List.map_toArray, List.map_cons, List.map_nil]); first | done | rfl) ?_; (with_reducible refine (shelfmarklaw09_awake.calls k true _ F1.out rfl).mono ?_); rintro e w1 ⟨rfl, hb_⟩; refine ⟨_, rfl, ?_⟩; have HBn := Aside0.mk (below_step (hL HB.out) hb_); clear HB; have HB := HBn; clear HBn; have HAn := Aside0.mk (HA.out.below hb_); clear HA; have HA := HAn; clear HAn; clear hb_)
    | ((with_reducible refine gate_callee (f := 15) rfl ?_); refine goesL_ (some 15) rfl rfl Try.func15 (by kernel_rfl) rfl #[.slice A0 l.length c0, .int .i64 60] rfl (by (try simp only [List.map_toArray, List.map_cons, List.map_nil]); first | done | rfl) ?_; (refine (shelfmarkref09_Light.calls k A0 c0 l 60 false _ ?side1 ?side2 F2.out).mono ?_); (case side1 => exact (rd_C HA.out)); (case side2 => exact (rd_len HA.out)); rintro e w2 ⟨rfl, hb_⟩; (try have hb_ := hb_.below); refine ⟨_, rfl, ?_⟩; have HBn := Aside0.mk (below_step (hL HB.out) hb_); clear HB; have HB := HBn; clear HBn; have HAn := Aside0.mk (HA.out.below hb_); clear HA; have HA := HAn; clear HAn; clear hb_))
  go_ret
  exact ⟨rfl, HB.out⟩
set_option maxHeartbeats 8000000 in
set_option maxRecDepth 100000 in
/-- All is as it was, and what came out is new. -/
theorem keeps (k : Nat) (A0 : Option Addr) (c0 : Nat) (l want x y z : List S37) (e0 : Int) (w : World) (ha : k37.C w A0 l.length l) (hca : l.length ≤ c0) (hl60 : l.length ≤ 60) (hly : y.length ≤ 60) (hlz : z.length ≤ 60)
    (f1 : shelfmarklaw09_awake.f k = some true) (f2 : shelfmarkref09_Light.f k l 60 = some true) (f3 : shelfmarkref09_Make.f k l = some want) (f4 : run_Make.f k l = some x) (f5 : shelfmarkref09_Same.f k l l = some true) (f6 : run_Merge.f k [x] = some (y, e0)) (f7 : run_Slice.f k x ⟨#[]⟩ ⟨#[]⟩ = some z) (f8 : shelfmarkref09_Same.f k x want = some true) :
    Calls Try.prog 8 #[.slice A0 l.length c0] w fun e w' => e = .returned (.bool true) ∧ Below w.heap.size w w' := by
  have F1 := Aside0.mk f1; have F2 := Aside0.mk f2; have F3 := Aside0.mk f3; have F4 := Aside0.mk f4; have F5 := Aside0.mk f5; have F6 := Aside0.mk f6; have F7 := Aside0.mk f7; have F8 := Aside0.mk f8; have L0 := Aside0.mk hl60; have LY := Aside0.mk hly; have LZ := Aside0.mk hlz
  have HA := Aside0.mk (show Rd w (.slice A0 l.length c0) l from ⟨_, _, rfl, hca, ha⟩)
  have HB := Aside0.mk (Below.refl w.heap.size w)
  obtain ⟨i37, hi37, _, _, _⟩ := info_parts info37
  have hbang : (({ data := #[33] } : ByteArray).toList != ({ data := #[33] } : ByteArray).toList) = false := by decide +kernel
  clear f1 f2 f3 f4 f5 f6 f7 f8 ha hca hl60 hly hlz
  go_enter Try.func8, Try.ntmps8
  go_wp2_with (first
    | ((with_reducible refine gate_callee (f := 9) rfl ?_); refine goesL_ (some 12) rfl rfl Try.func9 (by kernel_rfl) rfl #[] rfl (by (try simp only [List.map_toArray, List.map_cons, List.map_nil]); first | done | rfl) ?_; (with_reducible refine (shelfmarklaw09_awake.calls k true _ F1.out rfl).mono ?_); rintro e w1 ⟨rfl, hb_⟩; refine ⟨_, rfl, ?_⟩; have HBn := Aside0.mk (below_step (hL HB.out) hb_); clear HB; have HB := HBn; clear HBn; have HAn := Aside0.mk (HA.out.below hb_); clear HA; have HA := HAn; clear HAn; clear hb_)
    | ((with_reducible refine gate_callee (f := 15) rfl ?_); refine goesL_ (some 15) rfl rfl Try.func15 (by kernel_rfl) rfl #[.slice A0 l.length c0, .int .i64 60] rfl (by (try simp only [List.map_toArray, List.map_cons, List.map_nil]); first | done | rfl) ?_; (refine (shelfmarkref09_Light.calls k A0 c0 l 60 true _ ?side1 ?side2 F2.out).mono ?_); (case side1 => exact (rd_C HA.out)); (case side2 => exact (rd_len HA.out)); rintro e w2 ⟨rfl, hb_⟩; (try have hb_ := hb_.below); refine ⟨_, rfl, ?_⟩; have HBn := Aside0.mk (below_step (hL HB.out) hb_); clear HB; have HB := HBn; clear HBn; have HAn := Aside0.mk (HA.out.below hb_); clear HA; have HA := HAn; clear HAn; clear hb_)
    | ((with_reducible refine gate_callee (f := 11) rfl ?_); refine goesL_ (some 18) rfl rfl Try.func11 (by kernel_rfl) rfl #[.slice A0 l.length c0] rfl (by (try simp only [List.map_toArray, List.map_cons, List.map_nil]); first | done | rfl) ?_; (refine (shelfmarkref09_Make.calls k A0 c0 l want _ ?side1 ?side2 F3.out).mono ?_); (case side1 => exact (rd_C HA.out)); (case side2 => exact (rd_len HA.out)); rintro e w3 ⟨v3, rfl, hR_, hb_⟩; obtain ⟨Gwant, dwant, e_, hl_, hC_⟩ := Rd.of_R hR_; subst e_; have HRwant := Aside0.mk (show Rd _ (.slice Gwant want.length dwant) want from ⟨_, _, rfl, hl_, hC_⟩); clear hl_ hC_; refine ⟨_, rfl, ?_⟩; have HBn := Aside0.mk (below_step (hL HB.out) hb_); clear HB; have HB := HBn; clear HBn; have HAn := Aside0.mk (HA.out.below hb_); clear HA; have HA := HAn; clear HAn; clear hb_ hR_; have HC := Aside0.mk (Below.refl w3.heap.size w3))
    | ((with_reducible refine gate_dst (N := 19) rfl ?_); refine Kd.R_lit k37 _ 37 ?hg (N := 19) ?hd (xs := ([] : List (S37))) (inner := []) (ok := fun _ => True) (okp := fun _ => True) ?hr ?hp (fun _ hk => hk) trivial (Below.refl _ _) (Nat.le_refl _) (by simp) ?_; (case hd => rfl); (case hg => rfl); (case hr => first | (go_simp; done) | (go_simp; rfl)); (case hp => exact (Reps.none _ _)); intro v19 w19 ho hb_ hg_ hnew_; clear hg_ hnew_; have HO19 := Aside0.mk (Kd.R_lower ho (below_size (hL HC.out))); have HCn := Aside0.mk (below_step (hL HC.out) hb_); clear HC; have HC := HCn; clear HCn; clear hb_ ho)
    | ((with_reducible refine gate_builtin (b := .append) (xs := #[.tmp 19, .tmp 20]) rfl ?_); at_builtin; refine Kd.R_append_rows k37 (w0 := w3) w3.heap.size rfl (.tmp 19) (.tmp 20) 25 37 (.agg #[(.string ⟨#[]⟩), (.string ⟨#[]⟩), (.bool false)]) 40 rfl Try.underlying25 info37 rfl (by decide) (by omega) v19 [] l _ _ _ (fun _ => True) (fun _ => False) rfl rfl ?aO ?aR (fun _ _ h => h) (fun _ h => h.elim) ?aF ?aB ?aS ?aL ?_; (case aR => exact (Kd.C_below (rd_C HA.out) (hL HC.out))); (case aB => exact (hL HC.out)); (case aF => exact (fun _ _ => trivial)); (case aO => exact (rL HO19.out)); (case aS => exact (below_size (hL HC.out))); (case aL => have := L0.out; simp only [List.length_nil]; omega); intro v21 w21 ho hb hg hat; have HO21 := Aside0.mk ho; clear HC HO19; have HC := Aside0.mk hb; clear ho hb hg hat)
    | ((with_reducible refine gate_builtin (b := .append) (xs := #[.tmp 21, .tmp 23]) rfl ?_); at_builtin; refine Kd.R_append k37 (w0 := w3) w3.heap.size rfl (.tmp 21) (.tmp 23) 25 37 (.agg #[(.string ⟨#[]⟩), (.string ⟨#[]⟩), (.bool false)]) 40 rfl Try.underlying25 info37 rfl (by decide) (by omega) v21 ([] ++ l) bang [.string ⟨#[33]⟩, .string ⟨#[]⟩, .bool false] (fun _ => True) (fun _ => False) rfl rfl ?aP (fun _ hk => hk.elim) ?aF ?aO ?aB ?aS ?aL ?_; (case aP => exact k37_mkM _ _ _ bang); (case aB => exact (hL HC.out)); (case aF => exact (fun _ _ => trivial)); (case aO => exact (rL HO21.out)); (case aS => exact (below_size (hL HC.out))); (case aL => have := L0.out; simp only [List.nil_append]; omega); intro v24 w24 ho hb hg hat; rw [List.nil_append] at ho; obtain ⟨go, mo, co, hv_, hown_⟩ := own_of ho; subst hv_; have HOW := Aside0.mk hown_; clear HC HO21; have HC := Aside0.mk hb; clear ho hb hg hat hown_; have hm1 : l.length < mo := HOW.out.lt; have hm2 : mo ≤ co := HOW.out.cap; have hcut28 := cut_to (P := Try.prog) 25 37 .i64 Try.underlying25 hi37 (some ⟨go, 0, none⟩) mo co (l.length : Int) (by omega) (by omega) hm2; rw [Int.toNat_natCast] at hcut28)
    | ((with_reducible refine gate_callee (f := 27) rfl ?_); refine goesL_ (some 29) rfl rfl Try.func27 (by kernel_rfl) rfl #[.slice (some ⟨go, 0, none⟩) l.length co] rfl (by (try simp only [List.map_toArray, List.map_cons, List.map_nil]); first | done | rfl) ?_; (refine (run_Make.calls k _ _ l x _ ?side1 ?side2 F4.out).mono ?_); (case side1 => exact (HOW.out.rest)); (case side2 => exact (Nat.le_trans (Nat.le_of_lt hm1) hm2)); rintro e w29 ⟨v29, rfl, hR_, hb_⟩; obtain ⟨Gx, dx, e_, hl_, hC_⟩ := Rd.of_R hR_; subst e_; have HRx := Aside0.mk (show Rd _ (.slice Gx x.length dx) x from ⟨_, _, rfl, hl_, hC_⟩); clear hl_ hC_; refine ⟨_, rfl, ?_⟩; have HCn := Aside0.mk (below_step (hL HC.out) hb_); clear HC; have HC := HCn; clear HCn; have HOWn := Aside0.mk (HOW.out.below hb_); clear HOW; have HOW := HOWn; clear HOWn; clear hb_ hR_; have hcell := HOW.out.last)
    | ((with_reducible refine gate_callee (f := 14) rfl ?_); (try (refine gate_guard (by rfl) ?_; dsimp only)); refine goesL_ (some 43) rfl rfl Try.func14 (by kernel_rfl) rfl #[.slice (some ⟨go, 0, none⟩) l.length co, .slice A0 l.length c0] rfl (by (try simp only [List.map_toArray, List.map_cons, List.map_nil]); first | done | rfl) ?_; (refine (same_calls k F5.out (HOW.out.rd) (HA.out.below HC.out)).mono ?_); rintro e w43 ⟨rfl, hb_⟩; refine ⟨_, rfl, ?_⟩; have HCn := Aside0.mk (below_step (hL HC.out) hb_); clear HC; have HC := HCn; clear HCn; have HOWn := Aside0.mk (HOW.out.below hb_); clear HOW; have HOW := HOWn; clear HOWn; have HRxn := Aside0.mk (HRx.out.below hb_); clear HRx; have HRx := HRxn; clear HRxn; clear hb_))
  have HBC := Aside0.mk (below_step HB.out HC.out)
  have HW := Aside0.mk (HRwant.out.below HC.out)
  clear HB HC HRwant HOW HA F1 F2 F3 F4 F5
  go_loopg [6] 2 (fun gk v6 wr => ∃ i : Nat, i ≤ 2 ∧ 2 - i ≤ gk ∧ v6 = .int .i64 (i : Int) ∧ Aside0 (Rd wr (.slice Gx x.length dx) x) ∧ Aside0 (Rd wr (.slice Gwant want.length dwant) want) ∧ Aside0 (Below w.heap.size w wr))
  case atStart => exact ⟨0, by omega, by omega, rfl, ⟨HRx.out⟩, ⟨HW.out⟩, ⟨HBC.out⟩⟩
  case round =>
    rename World => wo
    obtain ⟨i, hi, hg, rfl, HX, HWr, HBr⟩ := hrel
    clear HRx HW HBC
    by_cases hlt2 : i < 2
    · go_wp2_with (first
        | ((with_reducible refine gate_dst (N := 52) rfl ?_); refine lit_event ?hg (N := 52) ?hd [.slice Gx x.length dx] [x] ?hr (.cons HX.out .nil) (by simp) ?_; (case hd => rfl); (case hg => rfl); (case hr => first | (go_simp; done) | (go_simp; rfl)); intro Al wl hc_ hb_; have HL := Aside0.mk hc_; have HD := Aside0.mk hb_; clear hc_ hb_)
        | ((with_reducible refine gate_callee (f := 12) rfl ?_); refine goesL_ (some 53) rfl rfl Try.func12 (by kernel_rfl) rfl #[.slice Al 1 1] rfl (by (try simp only [List.map_toArray, List.map_cons, List.map_nil]); first | done | rfl) ?_; (refine (run_Merge.calls k Al 1 [x] y e0 _ ?side1 ?side2 F6.out).mono ?_); (case side1 => exact HL.out); (case side2 => exact Nat.le_refl _); rintro e wy ⟨vy, rfl, hR_, hb_⟩; obtain ⟨Ay, cy, hv_⟩ := Kd.R_slice hR_; subst hv_; refine ⟨_, rfl, ?_⟩; have HY := Aside0.mk (Kd.R_lower hR_ (below_size (hL HD.out))); have HDn := Aside0.mk (below_step (hL HD.out) hb_); clear HD; have HD := HDn; clear HDn; clear hb_ hR_ HL)
        | ((with_reducible refine gate_callee (f := 18) rfl ?_); refine goesL_ (some 58) rfl rfl Try.func18 (by kernel_rfl) rfl #[.slice Gx x.length dx, .agg #[.string ⟨#[]⟩, .string ⟨#[]⟩]] rfl (by (try simp only [List.map_toArray, List.map_cons, List.map_nil]); first | done | rfl) ?_; (refine (run_Slice.calls k Gx dx x ⟨#[]⟩ ⟨#[]⟩ z _ ?side1 ?side2 F7.out).mono ?_); (case side1 => exact (Kd.C_below (rd_C HX.out) (hL HD.out))); (case side2 => exact (rd_len HX.out)); rintro e wz ⟨vz, rfl, hR_, hb_⟩; obtain ⟨Az, cz, hv_⟩ := Kd.R_slice hR_; subst hv_; refine ⟨_, rfl, ?_⟩; have HZ := Aside0.mk (Kd.R_mono (ok' := fun k_ => some k_ ≠ (Value.slice Ay y.length cy).ownBlock) (Kd.R_lower (Kd.R_new' hR_ (Kd.R_lt HY.out)) (below_size (hL HD.out))) (fun _ hk => hk.2)); have HYn := Aside0.mk (Kd.R_mono (ok' := fun _ => True) (Kd.R_elder' HY.out (Kd.R_base hR_) hb_) (fun _ _ => trivial)); clear HY; have HY := HYn; clear HYn; have HDn := Aside0.mk (below_step (hL HD.out) hb_); clear HD; have HD := HDn; clear HDn; clear hb_ hR_))

      go_loopg [10] y.length (fun gj v10 wq => ∃ (j : Nat) (ys : List S37), j ≤ y.length ∧ y.length - j ≤ gj ∧ v10 = .int .i64 (j : Int) ∧ Aside0 (Kd.R k37 37 wq wo.heap.size (fun _ => True) (.slice Ay y.length cy) ys) ∧ Aside0 (Kd.R k37 37 wq wo.heap.size (fun k_ => some k_ ≠ (Value.slice Ay y.length cy).ownBlock) (.slice Az z.length cz) z) ∧ Aside0 (Below wo.heap.size wo wq))
      case atStart => exact ⟨0, y, by omega, by omega, rfl, ⟨HY.out⟩, ⟨HZ.out⟩, ⟨HD.out⟩⟩
      case round =>
        obtain ⟨j, ys, hj, hgj, rfl, HO, HZq, HDq⟩ := hrel
        have hln := (Kd.R_reads' HO.out).1
        by_cases hlt : j < y.length
        · obtain ⟨g, cg, eo, gb, _, _⟩ := Kd.R_form HO.out (by omega)
          injection eo with ea _ ec
          subst ea
          have GB := Aside0.mk gb
          clear ec gb
          obtain ⟨ce, hcl, hM, hcc, hfr⟩ := Kd.R_elem HO.out z37 (j : Int) (by omega) (by omega)
          obtain ⟨p_, hp_⟩ : ∃ p_, p_ = ys.getD (j : Int).toNat z37 := ⟨_, rfl⟩
          rw [← hp_] at hM
          obtain rfl := k37_openM hM
          have f1 : wr.frozen? ⟨g, j * 3, none⟩ = false := hfr 0
          have c1 : wr.cell? ⟨g, j * 3, none⟩ = some _ := hcc 0 _ rfl
          have HP := (Kd.R_seg HO.out (j : Int) (by omega) (by omega) (seg := [.string ⟨#[33]⟩]) (j := 0) hcl hcc (show 0 + 1 ≤ 3 from by decide) (x' := ⟨⟨#[33]⟩, p_.f1, p_.f2⟩) (by
              show Kd.M k37 _ _ _ _ [.string ⟨#[33]⟩, .string p_.f1, .bool p_.f2]
              exact k37_mkM _ _ _ (⟨⟨#[33]⟩, p_.f1, p_.f2⟩ : S37)) (fun _ hk => hk)).1
          have HQ := Aside0.mk HP
          clear HP hcl hcc hfr hM HO hln hp_
          go_wp2
          go_roundg (y.length - (j + 1))
          case measure => omega
          case rel => exact ⟨j + 1, _, by omega, by omega, by rw [w64p (by have := LY.out; omega)], ⟨HQ.out⟩, ⟨Kd.R_far HZq.out (fun k_ hk => own_ne hk) _⟩, ⟨HDq.out.setCell (p := ⟨g, j * 3, none⟩) GB.out _⟩⟩
        · obtain rfl : j = y.length := by omega
          clear hln hlt hj hgj
          have HZ := HZq
          have HD := HDq
          go_wp2
          go_loopg [11] z.length (fun gj v11 wq => ∃ (j : Nat) (ys : List S37), j ≤ z.length ∧ z.length - j ≤ gj ∧ v11 = .int .i64 (j : Int) ∧ Aside0 (Kd.R k37 37 wq wo.heap.size (fun k_ => some k_ ≠ (Value.slice Ay y.length cy).ownBlock) (.slice Az z.length cz) ys) ∧ Aside0 (Below wo.heap.size wo wq))
          case atStart => exact ⟨0, z, by omega, by omega, rfl, ⟨HZ.out⟩, ⟨HD.out⟩⟩
          case round =>
            obtain ⟨j, ys, hj, hgj, rfl, HO, HDq⟩ := hrel
            have hln := (Kd.R_reads' HO.out).1
            by_cases hlt : j < z.length
            · obtain ⟨g, cg, eo, gb, _, _⟩ := Kd.R_form HO.out (by omega)
              injection eo with ea _ ec
              subst ea
              have GB := Aside0.mk gb
              clear ec gb
              obtain ⟨ce, hcl, hM, hcc, hfr⟩ := Kd.R_elem HO.out z37 (j : Int) (by omega) (by omega)
              obtain ⟨p_, hp_⟩ : ∃ p_, p_ = ys.getD (j : Int).toNat z37 := ⟨_, rfl⟩
              rw [← hp_] at hM
              obtain rfl := k37_openM hM
              have f1 : wr.frozen? ⟨g, j * 3 + 1, none⟩ = false := hfr 1
              have c1 : wr.cell? ⟨g, j * 3 + 1, none⟩ = some _ := hcc 1 _ rfl
              have HP := (Kd.R_seg HO.out (j : Int) (by omega) (by omega) (seg := [.string ⟨#[33]⟩]) (j := 1) hcl hcc (show 1 + 1 ≤ 3 from by decide) (x' := ⟨p_.f0, ⟨#[33]⟩, p_.f2⟩) (by
                  show Kd.M k37 _ _ _ _ [.string p_.f0, .string ⟨#[33]⟩, .bool p_.f2]
                  exact k37_mkM _ _ _ (⟨p_.f0, ⟨#[33]⟩, p_.f2⟩ : S37)) (fun _ hk => hk)).1
              have HQ := Aside0.mk HP
              clear HP hcl hcc hfr hM HO hln hp_
              go_wp2
              go_roundg (z.length - (j + 1))
              case measure => omega
              case rel => exact ⟨j + 1, _, by omega, by omega, by rw [w64p (by have := LZ.out; omega)], ⟨HQ.out⟩, ⟨HDq.out.setCell (p := ⟨g, j * 3 + 1, none⟩) GB.out _⟩⟩
            · obtain rfl : j = z.length := by omega
              clear hln hlt hj hgj
              go_wp2
              go_roundg (2 - (i + 1))
              case measure => omega
              case rel => exact ⟨i + 1, by omega, by omega, by first | rfl | (congr 1), ⟨HX.out.below HDq.out⟩, ⟨HWr.out.below HDq.out⟩, ⟨below_step HBr.out HDq.out⟩⟩
    · obtain rfl : i = 2 := by omega
      go_wp2_with (first
        | ((with_reducible refine gate_callee (f := 14) rfl ?_); refine goesL_ (some 81) rfl rfl Try.func14 (by kernel_rfl) rfl #[.slice Gx x.length dx, .slice Gwant want.length dwant] rfl (by (try simp only [List.map_toArray, List.map_cons, List.map_nil]); first | done | rfl) ?_; (refine (same_calls k F8.out HX.out HWr.out).mono ?_); rintro e w81 ⟨rfl, hb_⟩; refine ⟨_, rfl, ?_⟩; have HE := Aside0.mk (below_step HBr.out hb_); clear hb_))
      go_ret
      exact ⟨rfl, HE.out⟩
end Go.Proofs.Ytkkfkccfnfjbiaa.Gk
