/- DERIVED. slices.Clip over intents, and (*Box).Due: their code walked. Conditions: those that each lemma names. DERIVED. (*Box).Due: its code walked. Conditions: those that each lemma names. DERIVED. (*Box).Room and (*Box).Len over a box's cells alone: their code walked. Conditions: those that each lemma names. DERIVED. (*Box).add: its code walked. Conditions: those that each lemma names. DERIVED. outbox.part with any closure that only reads: its code walked. Conditions: those that each lemma names. -/
import Derived.Test.YtdaikljbljcagaaMe
import Derived.Deep.RegionHeld3
import Derived.BigRegion
import Derived.Test.YtdaikljbljcagaaPAllx2
import Derived.BigQuiet
namespace Go.Proofs.Ytdaikljbljcagaa.Mf
open Go Go.RowKit Go.Proofs.Ytdaikljbljcagaa.PAll Go.Proofs.YtdaikljbljcagaaW.PrintWords Go.Proofs.YtdaikljbljcagaaW.PrintLast Go.Proofs.Ytdaikljbljcagaa.Hl Go.Proofs.Ytdaikljbljcagaa.Fv Go.Proofs.Ytdaikljbljcagaa.Dr
set_option linter.unusedSimpArgs false
set_option linter.unusedVariables false
theorem cut_cap {P : Program} (t e : TypeId) (kh km : IntKind) {i : TypeInfo} (ht : P.underlying t = some (.slice e)) (hi : P.info? e = some i) (A : Option Addr) (n c : Nat) (hc : n ≤ c) :
    ∀ W : World, (Instr.slice t (.slice A n c) none (some (.int kh (n : Int))) (some (.int km (n : Int)))).run P W = .ok (.slice A n n) W := by
  intro W
  have hel : P.elem t = e := by simp [Program.elem, ht]
  have hu : P.underlying t = some (.slice (P.elem t)) := by rw [hel]; exact ht
  have ha : (A.map fun x => x.add 0) = A := by cases A <;> simp [Addr.add]
  rw [run_slice_hm W t A n c hu kh km (n : Int) (n : Int) (by omega) (by omega) (by omega), hel]
  simp [sizeOf, typeInfo, hi, sliced, Result.andThen, ha]
theorem hi29 : Try.prog.info? 29 = some (Option.get (Try.prog.info? 29) (by kernel_rfl)) := by kernel_rfl
set_option maxHeartbeats 4000000 in
theorem clip29 (A : Option Addr) (n c : Nat) (h : n ≤ c) (w : World) : Calls Try.prog 34 #[.slice A n c] w fun en w' => en = .returned (.slice A n n) ∧ Below w.heap.size w w' := by
  have hu29 := Try.underlying29
  have mixed : Try.prog.follows Departure.mixedOrders = true := by kernel_rfl
  have hcut := cut_cap (P := Try.prog) 22 29 .i64 .i64 Try.underlying22 hi29 A n c h
  go_enter Try.func34, Try.ntmps34
  go_wp2
  go_ret
  exact ⟨rfl, Below.refl _ _⟩
/-- A row whose capacity has been cut. -/
def Cl {α : Type} (d : Kd α) (e : Nat) (w : World) (base : Nat) (v : Value) (xs : List α) : Prop := ∃ A c, v = .slice A xs.length xs.length ∧ xs.length ≤ c ∧ Kd.R d e w base (fun _ => True) (.slice A xs.length c) xs
theorem cl_of {α : Type} {d : Kd α} {e : Nat} {w : World} {base : Nat} {A : Option Addr} {c : Nat} {xs : List α} (h : Kd.R d e w base (fun _ => True) (.slice A xs.length c) xs) : Cl d e w base (.slice A xs.length xs.length) xs := ⟨A, c, rfl, (Kd.R_reads' h).2.1, h⟩
theorem Cl.below {α : Type} {d : Kd α} {e : Nat} {w w1 : World} {base : Nat} {v : Value} {xs : List α} (h : Cl d e w base v xs) (hb : Below w.heap.size w w1) : Cl d e w1 base v xs := by
  obtain ⟨A, c, rfl, hc, hR⟩ := h
  exact ⟨A, c, rfl, hc, Kd.R_below hR hb⟩
theorem Cl.lower {α : Type} {d : Kd α} {e : Nat} {w : World} {base b1 : Nat} {v : Value} {xs : List α} (h : Cl d e w base v xs) (hb : b1 ≤ base) : Cl d e w b1 v xs := by
  obtain ⟨A, c, rfl, hc, hR⟩ := h
  exact ⟨A, c, rfl, hc, Kd.R_lower hR hb⟩
theorem Cl.far {α : Type} {d : Kd α} (hE : d.E = []) {e : Nat} {w : World} {base : Nat} {v : Value} {xs : List α} (h : Cl d e w base v xs) {p : Addr} (hp : some p.block ≠ v.ownBlock) (u : Value) : Cl d e (w.setCell p u) base v xs := by
  obtain ⟨A, c, rfl, hc, hR⟩ := h
  have hp2 : some p.block ≠ (Value.slice A xs.length c).ownBlock := by cases A <;> exact hp
  exact ⟨A, c, rfl, hc, Kd.R_mono (Kd.R_far (Kd.R_far1 hR hE hp2) (fun k hk => hk.2) u) (fun _ _ => trivial)⟩
/-- How many are due. -/
def dueN (n : Int) (len : Nat) : Nat := (mn (mx n 0) (len : Int)).toNat
end Go.Proofs.Ytdaikljbljcagaa.Mf
namespace Go.Proofs.Ytdaikljbljcagaa.Mg
open Go Go.RowKit Go.Proofs.Ytdaikljbljcagaa.PAll Go.Proofs.YtdaikljbljcagaaW.PrintWords Go.Proofs.YtdaikljbljcagaaW.PrintLast Go.Proofs.YtdaikljbljcagaaW.PrintMore Go.Proofs.Ytdaikljbljcagaa.Hl Go.Proofs.Ytdaikljbljcagaa.Fv Go.Proofs.Ytdaikljbljcagaa.Mf
set_option linter.unusedSimpArgs false
set_option linter.unusedVariables false
set_option maxHeartbeats 8000000 in
set_option maxRecDepth 100000 in
theorem due_v (w : World) (gb : Nat) (mo : Int) (A : Option Addr) (c : Nat) (l : List S29) (hB : w.heap[gb]? = some (.cells #[.int .i64 mo, .slice A l.length c] 68 (0, 0))) (hC : Kd.C k29 w A l.length l) (hc : l.length ≤ c) (hz : l.length < 4398046511104) (n : Int) (d : Nat) (hd : d = dueN n l.length) :
    Calls Try.prog 17 #[.pointer (some ⟨gb, 0, none⟩), .int .i64 n] w fun en w' => ∃ v, en = .returned v ∧ Cl k29 29 w' w.heap.size v (l.take d) ∧ Below w.heap.size w w' := by
  have hu29 := Try.underlying29
  have hu68 := Try.underlying68
  have mixed : Try.prog.follows Departure.mixedOrders = true := by kernel_rfl
  have hdl : d ≤ l.length := by
    rw [hd]
    unfold dueN mn
    split <;> omega
  obtain ⟨m1, hm1⟩ : ∃ m1, (if n < 0 then 0 else n) = m1 := ⟨_, rfl⟩
  have hm2 : (if (l.length : Int) < m1 then (l.length : Int) else m1) = (d : Int) := by
    rw [hd, ← hm1]
    unfold dueN mn mx
    split <;> split <;> omega
  obtain ⟨tl, htl⟩ : ∃ tl, tl = l.take d := ⟨_, rfl⟩
  have hlen : tl.length = d := by rw [htl, List.length_take]; omega
  have CT := Aside0.mk (show Kd.C k29 w.drew A tl.length tl by rw [htl]; have h := Kd.C_take (m := d) hC hdl; exact Kd.C_below h (below_drew (Below.refl _ _)))
  rw [← htl]
  clear hd htl
  subst hlen
  have hcut := cut_to (P := Try.prog) 22 29 .i64 Try.underlying22 hi29 A l.length c (tl.length : Int) (by omega) (by omega) hc
  rw [Int.toNat_natCast] at hcut
  have HBX := Aside0.mk hB
  have CC := Aside0.mk (show tl.length ≤ c by omega)
  have HD := Aside0.mk (show slices_Clone_api_Intent_api_Intent.f tl = some tl by unfold slices_Clone_api_Intent_api_Intent.f; rw [Option.bind_some, if_pos (by simp; omega), List.nil_append])
  clear hB hC hc hz hdl
  go_enter Try.func17, Try.ntmps17
  go_upto_region 1 with (fail)
  go_region_held3 (fun W : World => W.cell? ⟨gb, 1, none⟩ = some (.slice A l.length c)) (exact (blk_cell (by with_reducible repeat (first | exact HBX.out | refine blk_drewN ?_ _ | refine blk_drew ?_)) 1).trans rfl) (first
    | (go_at_call 27; (refine (slices_Clone_api_Intent_api_Intent.calls A c tl tl _ ?s1 ?s2 HD.out).mono ?_); (case s1 => exact CT.out); (case s2 => exact CC.out); rintro en wv ⟨v_, rfl, hR_, hb_⟩; obtain ⟨AR, cR, hv_⟩ := Kd.R_slice hR_; subst hv_; have HR := Aside0.mk hR_; have HBXn := Aside0.mk (blk_below (blk_drew HBX.out) hb_); clear HBX; have HBX := HBXn; clear HBXn; have HB1 := Aside0.mk (below_step (below_drew (Below.refl w.heap.size w)) hb_); clear hR_ hb_)
    | (go_at_call 34; (refine (clip29 AR _ cR (Kd.R_reads' HR.out).2.1 _).mono ?_); rintro en wu ⟨rfl, hb_⟩; have HR2 := Aside0.mk (Kd.R_below HR.out hb_); have HBXn := Aside0.mk (blk_below HBX.out hb_); clear HBX; have HBX := HBXn; clear HBXn; have HB2 := Aside0.mk (below_step HB1.out hb_); clear hb_))
  all_goals (try go_wp2)
  all_goals go_ret
  all_goals exact ⟨_, rfl, cl_of HR2.out, HB2.out⟩
end Go.Proofs.Ytdaikljbljcagaa.Mg
namespace Go.Proofs.Ytdaikljbljcagaa.Mh
open Go Go.RowKit Go.Proofs.Ytdaikljbljcagaa.PAll Go.Proofs.YtdaikljbljcagaaW.PrintWords Go.Proofs.YtdaikljbljcagaaW.PrintLast Go.Proofs.Ytdaikljbljcagaa.Hl Go.Proofs.Ytdaikljbljcagaa.Fv
set_option linter.unusedSimpArgs false
set_option linter.unusedVariables false
set_option maxHeartbeats 4000000 in
set_option maxRecDepth 100000 in
theorem room_v (w : World) (gb : Nat) (mo : Int) (A : Option Addr) (c n : Nat) (hB : w.heap[gb]? = some (.cells #[.int .i64 mo, .slice A n c] 68 (0, 0))) :
    Calls Try.prog 43 #[.pointer (some ⟨gb, 0, none⟩)] w fun en w' => en = .returned (.int .i64 (wrap64 (mo - (n : Int)))) ∧ Below w.heap.size w w' := by
  have hu68 := Try.underlying68
  have mixed : Try.prog.follows Departure.mixedOrders = true := by kernel_rfl
  have e0 : w.cell? ⟨gb, 0, none⟩ = some (.int .i64 mo) := (blk_cell hB 0).trans rfl
  have e1 : w.cell? ⟨gb, 1, none⟩ = some (.slice A n c) := (blk_cell hB 1).trans rfl
  clear hB
  go_enter Try.func43, Try.ntmps43
  go_upto_region 1 with (fail)
  go_quiet (fail)
  go_wp2
  go_ret
  exact ⟨rfl, pw_below_drewN (Below.refl _ _) _⟩
set_option maxHeartbeats 4000000 in
set_option maxRecDepth 100000 in
theorem len_v (w : World) (gb : Nat) (mo : Int) (A : Option Addr) (c n : Nat) (hB : w.heap[gb]? = some (.cells #[.int .i64 mo, .slice A n c] 68 (0, 0))) :
    Calls Try.prog 25 #[.pointer (some ⟨gb, 0, none⟩)] w fun en w' => en = .returned (.int .i64 (n : Int)) ∧ Below w.heap.size w w' := by
  have hu68 := Try.underlying68
  have mixed : Try.prog.follows Departure.mixedOrders = true := by kernel_rfl
  have e1 : w.cell? ⟨gb, 1, none⟩ = some (.slice A n c) := (blk_cell hB 1).trans rfl
  clear hB
  go_enter Try.func25, Try.ntmps25
  go_wp2
  go_ret
  exact ⟨rfl, Below.refl _ _⟩
end Go.Proofs.Ytdaikljbljcagaa.Mh
namespace Go.Proofs.Ytdaikljbljcagaa.Mi
open Go Go.RowKit Go.Proofs.Ytdaikljbljcagaa.PAll Go.Proofs.YtdaikljbljcagaaW.PrintWords Go.Proofs.YtdaikljbljcagaaW.PrintLast Go.Proofs.Ytdaikljbljcagaa.Hl Go.Proofs.Ytdaikljbljcagaa.Fv Go.Proofs.Ytdaikljbljcagaa.Ma Go.Proofs.Ytdaikljbljcagaa.Mc Go.Proofs.Ytdaikljbljcagaa.Me Go.Proofs.Ytdaikljbljcagaa.Mh Go.Proofs.Ytdaikljbljcagaa.Dr
set_option linter.unusedSimpArgs false
set_option linter.unusedVariables false
theorem below_low {a b : Nat} {w w' : World} (h : Below b w w') (hab : a ≤ b) : Below a w w' := ⟨h.os, h.tape, h.output, h.size, fun k hk => h.block k (Nat.lt_of_lt_of_le hk hab)⟩
/-- A box (its struct's type is t): how many there may be, and its row; all of it lies in the blocks S. -/
def Box (t : TypeId) (w : World) (base : Nat) (S : Nat → Prop) (gb : Nat) (mo : Int) (l : List S29) : Prop := S gb ∧ (∀ k, S k → base ≤ k ∧ k < w.heap.size) ∧ ∃ A c, w.heap[gb]? = some (.cells #[.int .i64 mo, .slice A l.length c] t (0, 0)) ∧ Kd.R k29 29 w base S (.slice A l.length c) l
/-- What a call does to a box: nothing else that was there changes. -/
structure Upd (w w' : World) (base : Nat) (S S' : Nat → Prop) : Prop where
  below : Below base w w'
  kept : Kept w w' S
  new : ∀ k, S' k → S k ∨ w.heap.size ≤ k
theorem Box.frame {t : TypeId} {w w' : World} {base : Nat} {S S2 : Nat → Prop} {gb : Nat} {mo : Int} {l : List S29} (h : Box t w base S gb mo l) (hk : Kept w w' S2) (hd : ∀ k, S k → ¬ S2 k) : Box t w' base S gb mo l := by
  obtain ⟨h1, h2, A, c, hb, hR⟩ := h
  exact ⟨h1, fun k hk2 => ⟨(h2 k hk2).1, Nat.lt_of_lt_of_le (h2 k hk2).2 hk.1⟩, A, c, (hk.2 gb (h2 gb h1).2 (hd gb h1)).trans hb, Kd.R_kept hR hk hd⟩
theorem Box.below {t : TypeId} {w w' : World} {base : Nat} {S : Nat → Prop} {gb : Nat} {mo : Int} {l : List S29} (h : Box t w base S gb mo l) (hb : Below w.heap.size w w') : Box t w' base S gb mo l :=
  h.frame (Kept.of_below hb (fun _ => False)) (fun _ _ h => h)
theorem Upd.trans {w w1 w2 : World} {base : Nat} {S S1 S2 : Nat → Prop} (h : Upd w w1 base S S1) (k : Upd w1 w2 base S1 S2) : Upd w w2 base S S2 :=
  ⟨h.below.trans k.below, h.kept.then_ k.kept h.new, fun i hi => by
    rcases k.new i hi with h1 | h1
    · exact h.new i h1
    · exact .inr (Nat.le_trans h.kept.1 h1)⟩
theorem Upd.of_below {w w1 : World} {base : Nat} {S : Nat → Prop} (hb : Below w.heap.size w w1) (hs : base ≤ w.heap.size) : Upd w w1 base S S :=
  ⟨below_low hb hs, Kept.of_below hb _, fun _ h => .inl h⟩
theorem Upd.apart {w w1 : World} {base : Nat} {S S1 T : Nat → Prop} (h : Upd w w1 base S S1) (hd : ∀ k, S k → ¬ T k) (hT : ∀ k, T k → k < w.heap.size) : ∀ k, S1 k → ¬ T k := fun k hk ht => by
  rcases h.new k hk with h1 | h1
  · exact hd k h1 ht
  · have := hT k ht
    omega
theorem kept_set {w w1 : World} {S : Nat → Prop} (h : Kept w w1 S) {p : Addr} (hp : S p.block ∨ w.heap.size ≤ p.block) (v : Value) : Kept w (w1.setCell p v) S :=
  ⟨by have := h.1; simpa [World.setCell] using this, fun i hi hn => (Below.heap_setCell _ _ _ _ (by rintro rfl; rcases hp with hp | hp; exact hn hp; omega)).trans (h.2 i hi hn)⟩
theorem kept_grown {w w1 w2 : World} {S : Nat → Prop} (h : Kept w w1 S) {row : Option Nat} (hg : w1.grownBy w2 row) (hr : ∀ k, row = some k → S k ∨ w.heap.size ≤ k) : Kept w w2 S :=
  ⟨Nat.le_trans h.1 hg.size, fun i hi hn => (hg.block i (Nat.lt_of_lt_of_le hi h.1) (fun e => by rcases hr i e.symm with h1 | h1; exact hn h1; omega)).trans (h.2 i hi hn)⟩
set_option maxHeartbeats 16000000 in
set_option maxRecDepth 100000 in
theorem add_v (w : World) (base gb : Nat) (S : Nat → Prop) (mo : Int) (l : List S29) (hX : Box 68 w base S gb mo l) (hbase : base ≤ w.heap.size) (AM : Option Addr) (cM : Nat) (m : List S29) (hm : Kd.C k29 w AM m.length m) (wl : WfI l) (wm : WfI m) (hz : l.length + m.length < 1000000000) (more : List S29) (hmore : more = newF (namesF l) m) :
    Calls Try.prog 40 #[.pointer (some ⟨gb, 0, none⟩), .slice AM m.length cM] w fun en w' => ∃ full : Bool, (full = true ↔ (more.length : Int) > wrap64 (mo - (l.length : Int))) ∧ en = .returned (.int .i64 (if full = true then 6 else 0)) ∧ ∃ S', Box 68 w' base S' gb mo (if full = true then l else l ++ more) ∧ Upd w w' base S S' := by
  have hu29 := Try.underlying29
  have hu68 := Try.underlying68
  have mixed : Try.prog.follows Departure.mixedOrders = true := by kernel_rfl
  obtain ⟨hS, hSb, A, c, hB, hR⟩ := hX
  have HS := Aside0.mk hS
  have HSB := Aside0.mk hSb
  have hgb : base ≤ gb := (hSb gb hS).1
  have hml : more.length ≤ m.length := by rw [hmore]; exact newF_len _ _
  have e1 : w.cell? ⟨gb, 1, none⟩ = some (.slice A l.length c) := (blk_cell hB 1).trans rfl
  have BX := Aside0.mk hB
  have HR := Aside0.mk hR
  have HMC := Aside0.mk hm
  have WL := Aside0.mk wl
  have WM := Aside0.mk wm
  have LZ1 := Aside0.mk (show l.length + m.length ≤ maxLen by unfold maxLen; omega)
  have LZ2 := Aside0.mk (show m.length < 1000000000000 by omega)
  have LZ3 := Aside0.mk (show l.length + more.length < 1000000000 by omega)
  have HBS := Aside0.mk hbase
  have HGB := Aside0.mk hgb
  have HMO := Aside0.mk hmore
  clear hB hR hm wl wm hz hbase hgb hml hmore hS hSb
  go_enter Try.func40, Try.ntmps40
  go_upto_region 2 with (first
    | ((with_reducible refine gate_callee (f := 53) rfl ?_); refine goesL_ (some 11) rfl rfl Try.func53 (by kernel_rfl) rfl #[.slice A l.length c] rfl (by (try simp only [List.map_toArray, List.map_cons, List.map_nil]); first | done | rfl) ?_; (refine (names_v w A c l (Kd.R_reads' HR.out).2.2 WL.out).mono ?_); rintro en w1 ⟨B, rfl, hge_, hm_, hb_⟩; refine ⟨_, rfl, ?_⟩; have HM1 := Aside0.mk hm_; have HB1 := Aside0.mk hb_; have LB := Aside0.mk hge_; have BX1 := Aside0.mk (blk_below BX.out hb_); clear hm_ hb_ hge_)
    | ((with_reducible refine gate_callee (f := 60) rfl ?_); refine goesL_ (some 12) rfl rfl Try.func60 (by kernel_rfl) rfl #[.slice AM m.length cM, .map (some B)] rfl (by (try simp only [List.map_toArray, List.map_cons, List.map_nil]); first | done | rfl) ?_; (refine (without_v w1 AM cM m (Kd.C_below HMC.out HB1.out) WM.out B l.length (namesF l) HM1.out LZ1.out LZ2.out).mono ?_); rintro en w2 ⟨v_, rfl, hR_, hM_, ht_⟩; refine ⟨_, rfl, ?_⟩; obtain ⟨AX, cX, hv_⟩ := Kd.R_slice hR_; subst hv_; have HX2 := Aside0.mk hR_; have HB2 := Aside0.mk (ht_.below HB1.out LB.out HB1.out.size); have BX2 := Aside0.mk (ht_.blk BX1.out (Nat.ne_of_lt (Nat.lt_of_lt_of_le (blk_lt BX.out) LB.out))); clear hR_ hM_ ht_; have z1 : w2.cell? ⟨gb, 1, none⟩ = some (.slice A l.length c) := (blk_cell BX2.out 1).trans rfl))
  rw [← HMO.out] at HX2 ⊢
  clear e1
  by_cases hfull : (more.length : Int) > wrap64 (mo - (l.length : Int))
  · have q1 : decide ((more.length : Int) > wrap64 (mo - (l.length : Int))) = true := decide_eq_true hfull
    have HF := Aside0.mk hfull
    clear hfull
    go_wp2_with (first
          | ((with_reducible refine gate_callee (f := 43) rfl ?_); refine goesL_ (some 16) rfl rfl Try.func43 (by kernel_rfl) rfl #[.pointer (some ⟨gb, 0, none⟩)] rfl (by (try simp only [List.map_toArray, List.map_cons, List.map_nil]); first | done | rfl) ?_; (refine (room_v w2 gb mo A c l.length BX2.out).mono ?_); rintro en w3 ⟨rfl, hb_⟩; refine ⟨_, rfl, ?_⟩; have HX3 := Aside0.mk (Kd.R_below HX2.out hb_); have HB3 := Aside0.mk (below_step HB2.out hb_); have BX3 := Aside0.mk (blk_below BX2.out hb_); clear hb_ z1; have z1 : w3.cell? ⟨gb, 1, none⟩ = some (.slice A l.length c) := (blk_cell BX3.out 1).trans rfl))
    go_ret
    have hlow : Below base w w3 := below_low HB3.out HBS.out
    have hbx : Box 68 w base S gb mo l := ⟨HS.out, HSB.out, A, c, BX.out, HR.out⟩
    exact ⟨true, ⟨fun _ => HF.out, fun _ => rfl⟩, rfl, S, hbx.below HB3.out, Upd.of_below HB3.out HBS.out⟩
  · have q1 : decide ((more.length : Int) > wrap64 (mo - (l.length : Int))) = false := decide_eq_false hfull
    have HF := Aside0.mk hfull
    clear hfull
    go_upto_region 4 with (first
      | ((with_reducible refine gate_callee (f := 43) rfl ?_); refine goesL_ (some 16) rfl rfl Try.func43 (by kernel_rfl) rfl #[.pointer (some ⟨gb, 0, none⟩)] rfl (by (try simp only [List.map_toArray, List.map_cons, List.map_nil]); first | done | rfl) ?_; (refine (room_v w2 gb mo A c l.length BX2.out).mono ?_); rintro en w3 ⟨rfl, hb_⟩; refine ⟨_, rfl, ?_⟩; have HX3 := Aside0.mk (Kd.R_below HX2.out hb_); have HB3 := Aside0.mk (below_step HB2.out hb_); have BX3 := Aside0.mk (blk_below BX2.out hb_); clear hb_ z1; have z1 : w3.cell? ⟨gb, 1, none⟩ = some (.slice A l.length c) := (blk_cell BX3.out 1).trans rfl))
    have HBb := Aside0.mk (below_low HB3.out HBS.out)
    have HBs := Aside0.mk (Nat.le_trans HBS.out HB3.out.size)
    have HR3 := Aside0.mk (Kd.R_below HR.out HB3.out)
    go_wp2_with (first
          | ((with_reducible refine gate_builtin (b := .append) (xs := #[.tmp 22, .tmp 23]) rfl ?_); at_builtin; refine Kd.R_append_rows k29 (w0 := w) base rfl (.tmp 22) (.tmp 23) 22 29 (.agg #[(.string ⟨#[]⟩), (.int .i64 0), (.bool false)]) 32 rfl Try.underlying22 info29 rfl (by decide) (by omega) (.slice A l.length c) l more _ _ _ (fun k => S k ∨ w.heap.size ≤ k) (fun _ => False) rfl rfl ?aO ?aR (fun _ _ h => h) (fun _ h => h.elim) ?aF ?aB ?aS ?aL ?_; (case aR => exact (Kd.R_reads' HX3.out).2.2); (case aB => exact HBb.out); (case aF => exact (fun k_ hk_ => .inr (Nat.le_trans HB3.out.size hk_))); (case aO => exact Kd.R_mono HR3.out (fun _ hk_ => .inl hk_)); (case aS => exact HBs.out); (case aL => have h1 := LZ3.out; omega); intro v4 w4 ho_ hb_ hg_ hat_; obtain ⟨A4, c4, hv_⟩ := Kd.R_slice ho_; subst hv_; have HR4 := Aside0.mk ho_; have HB4 := Aside0.mk hb_; have HK4 := Aside0.mk (kept_grown (Kept.of_below HB3.out S) hg_ (fun k_ hk_ => .inl (HR3.out.1 k_ hk_))); have BX4 := Aside0.mk (blk_grown BX3.out hg_ (Kd.R_ne HR3.out BX3.out (by decide))); have y1 := blk_frozen BX4.out 1; clear ho_ hb_ hg_ hat_ z1; have z1 : w4.cell? ⟨gb, 1, none⟩ = some (.slice A l.length c) := (blk_cell BX4.out 1).trans rfl))
    go_ret
    refine .inl ⟨HF.out, rfl, fun k => (S k ∨ w.heap.size ≤ k) ∧ k < w4.heap.size, ⟨⟨.inl HS.out, blk_lt BX4.out⟩, ?_, ?_⟩, ⟨Below.setCell HB4.out (p := ⟨gb, 1, none⟩) HGB.out _, kept_set HK4.out (.inl HS.out) _, fun k hk => hk.1⟩⟩
    · intro k hk
      refine ⟨?_, by have := hk.2; simpa [World.setCell] using this⟩
      rcases hk.1 with h1 | h1
      · exact (HSB.out k h1).1
      · exact Nat.le_trans HBS.out h1
    rw [← List.length_append]
    exact ⟨A4, c4, blk_put BX4.out 1 _ rfl, Kd.R_set (Kd.R_mono (Kd.R_bound HR4.out) (fun k hk => ⟨hk.1, hk.2.2.1⟩)) BX4.out (by decide) 1 _⟩
end Go.Proofs.Ytdaikljbljcagaa.Mi
namespace Go.Proofs.Ytdaikljbljcagaa.Mj
open Go Go.RowKit Go.Proofs.Ytdaikljbljcagaa.PAll Go.Proofs.YtdaikljbljcagaaW.PrintWords Go.Proofs.YtdaikljbljcagaaW.PrintLast Go.Proofs.Ytdaikljbljcagaa.Hl Go.Proofs.Ytdaikljbljcagaa.Fv Go.Proofs.Ytdaikljbljcagaa.Mc Go.Proofs.Ytdaikljbljcagaa.Me Go.Proofs.Ytdaikljbljcagaa.Dr
set_option linter.unusedSimpArgs false
set_option linter.unusedVariables false
section
variable {P : Program} {ops : Array Oper} {Q : Exit → Act → World → Prop} {rest : List Oper}
theorem run_closure {oi : Oper} {a : Act} {w : World} {t : Tmp} {f : FuncId} {fn : Func} {xa : Array Operand} {ts : Array TypeId} (hf : P.funcs[f]? = some fn) (hname : (fn.name == "runtime.NumGoroutine") = false) (hb : fn.body.isSome = true) (args cap : Array Value)
    (hop : oi.op = .call { callee := .value (.tmp t), args := xa, argTypes := ts }) (hargs : xa.map a.eval = args) (hv : a.eval (.tmp t) = .func (.func f) #[] cap) : (execOp a.eval oi).run P w = .ok (.enter f (args ++ cap)) w := by
  have he := enters_ hf hname hb (args ++ cap) w
  unfold execOp
  simp [hop, resolve, Deferred.ofValue, invoke, hv, hargs, he]
/-- A call of a closure, in a plain region. -/
theorem goesLC {oi : Oper} {a : Act} {w : World} (N : Option Tmp) (hd : oi.dst = N) (hg : oi.guard = none) {t : Tmp} {f : FuncId} {fn : Func} {xa : Array Operand} {ts : Array TypeId} (hf : P.funcs[f]? = some fn) (hname : (fn.name == "runtime.NumGoroutine") = false) (hb : fn.body.isSome = true) (args cap : Array Value)
    (hop : oi.op = .call { callee := .value (.tmp t), args := xa, argTypes := ts }) (hargs : xa.map a.eval = args) (hv : a.eval (.tmp t) = .func (.func f) #[] cap)
    (h : Calls P f (args ++ cap) w fun e w' => ∃ v, e = .returned v ∧ wpList P ops Q rest (a.put N v) w') : wpList P ops Q (oi :: rest) a w := by
  refine wpList_plain hg fun K hK => ?_
  have hrun := run_closure (P := P) (w := w) hf hname hb args cap hop hargs hv
  unfold Oper.wp
  rw [hrun, Oper.upon_enter]
  refine h.mono fun e w'' hh => ?_
  obtain ⟨v, rfl, hk⟩ := hh
  subst hd
  exact hK _ _ hk
end
/-- Two rows in blocks of their own. -/
def Apart (u v : Value) : Prop := ∀ k, u.ownBlock = some k → v.ownBlock ≠ some k
theorem Apart.symm {u v : Value} (h : Apart u v) : Apart v u := fun k hk e => h k e hk
theorem apart_app {w W : World} {u u1 v : Value} (h : Apart u v) (hs : w.heap.size ≤ W.heap.size) {xs : List S29} {ok : Nat → Prop} (hv : Kd.R k29 29 W w.heap.size ok v xs) (hat : u1.ownBlock = u.ownBlock ∨ ∃ b, u1.ownBlock = some b ∧ W.heap.size ≤ b) : Apart u1 v := by
  rcases hat with e | ⟨b, e, hb⟩
  · intro k hk; exact h k (e ▸ hk)
  · intro k hk e2
    rw [e] at hk
    obtain rfl := Option.some.inj hk
    have := Kd.R_lt hv b e2
    omega
theorem filter_step (p : S29 → Bool) (l : List S29) (j : Nat) (h : j < l.length) : (l.take (j + 1)).filter p = (l.take j).filter p ++ (if p l[j] then [l[j]] else []) := by
  rw [List.take_add_one, List.getElem?_eq_getElem h, Option.toList_some, List.filter_append]
  congr 1
  by_cases hp : p l[j] <;> simp [hp]
set_option maxHeartbeats 16000000 in
set_option maxRecDepth 100000 in
theorem part_v (w : World) (A : Option Addr) (c : Nat) (l : List S29) (hC : Kd.C k29 w A l.length l) (hz : l.length < 1000000000000) (p : S29 → Bool)
    (f : FuncId) (fn : Func) (hf : Try.prog.funcs[f]? = some fn) (hn : (fn.name == "runtime.NumGoroutine") = false) (hbd : fn.body.isSome = true) (cap : Array Value)
    (hF : ∀ (W : World) (x_ : S29), Below w.heap.size w W → x_ ∈ l → Calls Try.prog f (#[.agg #[.string x_.f0, .int .i64 x_.f1, .bool x_.f2]] ++ cap) W fun e W' => e = .returned (.bool (p x_)) ∧ Below W.heap.size W W') :
    Calls Try.prog 50 #[.slice A l.length c, .func (.func f) #[] cap] w fun en w' => ∃ v1 v2, en = .returned (.tuple #[v1, v2]) ∧ Kd.R k29 29 w' w.heap.size (fun _ => True) v1 (l.filter p) ∧ Kd.R k29 29 w' w.heap.size (fun _ => True) v2 (l.filter (fun x => !p x)) ∧ Apart v1 v2 ∧ Below w.heap.size w w' := by
  have hu29 := Try.underlying29
  have mixed : Try.prog.follows Departure.mixedOrders = true := by kernel_rfl
  have HC := Aside0.mk hC
  have LZ := Aside0.mk hz
  have HF := Aside0.mk hF
  clear hC hz hF
  go_enter Try.func50, Try.ntmps50
  go_wp2
  go_loopg [4, 5, 10] l.length (fun kq v4 v5 v10 wr => ∃ (j : Nat) (A1 : Option Addr) (c1 : Nat) (A2 : Option Addr) (c2 : Nat), v10 = .int .i64 (j : Int) ∧ v4 = .slice A1 ((l.take j).filter p).length c1 ∧ v5 = .slice A2 ((l.take j).filter (fun x => !p x)).length c2 ∧ Aside0 (j ≤ l.length ∧ l.length - j ≤ kq) ∧ Aside0 (Below w.heap.size w wr) ∧ Aside0 (Kd.R k29 29 wr w.heap.size (fun _ => True) (.slice A1 ((l.take j).filter p).length c1) ((l.take j).filter p)) ∧ Aside0 (Kd.R k29 29 wr w.heap.size (fun _ => True) (.slice A2 ((l.take j).filter (fun x => !p x)).length c2) ((l.take j).filter (fun x => !p x))) ∧ Aside0 (Apart (.slice A1 ((l.take j).filter p).length c1) (.slice A2 ((l.take j).filter (fun x => !p x)).length c2)))
  case atStart => exact ⟨0, none, 0, none, 0, rfl, rfl, rfl, ⟨Nat.zero_le _, Nat.le_refl _⟩, ⟨Below.refl _ _⟩, ⟨Kd.R_nil _ _ _ _ _⟩, ⟨Kd.R_nil _ _ _ _ _⟩, ⟨fun k hk => by cases hk⟩⟩
  case round =>
    obtain ⟨j, A1, c1, A2, c2, rfl, rfl, rfl, HI, HBr, H1r, H2r, HD⟩ := hrel
    by_cases hlt : j < l.length
    · obtain ⟨ad, hA, hx⟩ := at_T29 (Kd.C_below HC.out HBr.out) (j : Int) (by omega) (by omega)
      rw [rd29_at l j hlt, Int.toNat_natCast] at hx
      obtain ⟨p_, hp_⟩ : ∃ p_, p_ = l[j] := ⟨_, rfl⟩
      obtain ⟨o1, ho1⟩ : ∃ o1, o1 = (l.take j).filter p := ⟨_, rfl⟩
      obtain ⟨o2, ho2⟩ : ∃ o2, o2 = (l.take j).filter (fun x => !p x) := ⟨_, rfl⟩
      have HS1 := Aside0.mk (show (l.take (j + 1)).filter p = o1 ++ (if p p_ then [p_] else []) by rw [filter_step p l j hlt, hp_, ho1])
      have HS2 := Aside0.mk (show (l.take (j + 1)).filter (fun x => !p x) = o2 ++ (if !p p_ then [p_] else []) by rw [filter_step (fun x => !p x) l j hlt, hp_, ho2])
      have LO := Aside0.mk (show o1.length ≤ l.length ∧ o2.length ≤ l.length by
        rw [ho1, ho2]
        have h1 := List.length_filter_le p (l.take j)
        have h2 := List.length_filter_le (fun x => !p x) (l.take j)
        rw [List.length_take] at h1 h2
        omega)
      have HIN := Aside0.mk (show p_ ∈ l by rw [hp_]; exact List.getElem_mem hlt)
      rw [← ho1] at H1r HD ⊢
      rw [← ho2] at H2r HD ⊢
      rw [← hp_] at hx
      obtain ⟨hx0, hx1, hx2⟩ := hx
      have q1 : decide ((j : Int) < (l.length : Int)) = true := decide_eq_true (by omega)
      have q2 : (j : Int) < (l.length : Int) := by omega
      have HIL := Aside0.mk (show j < l.length from hlt)
      subst hA
      clear hp_ hlt ho1 ho2
      go_upto_region 4 with (first
        | ((with_reducible refine gate_dst (N := 7) rfl ?_); refine box_event ?hg (N := 7) ?hd (cs := #[.string (⟨#[]⟩ : ByteArray), .int .i64 0, .bool false]) (t := 29) ?hr ?_; (case hd => rfl); (case hg => rfl); (case hr => first | (go_simp; done) | (go_simp; rfl)); intro g7 hg_ wA hbox_ hb_; have LG7 := Aside0.mk (show wr.heap.size ≤ g7 by omega); have BXa := Aside0.mk hbox_; have HBa := Aside0.mk (below_step HBr.out hb_); have H1a := Aside0.mk (Kd.R_below H1r.out hb_); have H2a := Aside0.mk (Kd.R_below H2r.out hb_); have yx0 := blk_frozen BXa.out 0; have zx0 : wA.cell? ⟨g7, 0, none⟩ = some (.string (⟨#[]⟩ : ByteArray)) := (blk_cell BXa.out 0).trans rfl; have yx1 := blk_frozen BXa.out 1; have zx1 : wA.cell? ⟨g7, 1, none⟩ = some (.int .i64 0) := (blk_cell BXa.out 1).trans rfl; have yx2 := blk_frozen BXa.out 2; have zx2 : wA.cell? ⟨g7, 2, none⟩ = some (.bool false) := (blk_cell BXa.out 2).trans rfl; clear hb_ hbox_ hg_))
      have LW7 := Aside0.mk (show w.heap.size ≤ g7 from Nat.le_trans HBr.out.size LG7.out)
      have N71 := Aside0.mk (show some g7 ≠ (Value.slice A1 o1.length c1).ownBlock from fun e_ => by have h1 := Kd.R_lt H1r.out g7 e_.symm; have h2 := LG7.out; omega)
      have N72 := Aside0.mk (show some g7 ≠ (Value.slice A2 o2.length c2).ownBlock from fun e_ => by have h1 := Kd.R_lt H2r.out g7 e_.symm; have h2 := LG7.out; omega)
      have BXb := Aside0.mk (blk_put (cs' := #[.string p_.f0, .int .i64 p_.f1, .bool p_.f2]) (blk_put (cs' := #[.string p_.f0, .int .i64 p_.f1, .bool false]) (blk_put (cs' := #[.string p_.f0, .int .i64 0, .bool false]) BXa.out 0 (.string p_.f0) rfl) 1 (.int .i64 p_.f1) rfl) 2 (.bool p_.f2) rfl)
      have HBb := Aside0.mk (Below.setCell (Below.setCell (Below.setCell HBa.out (p := ⟨g7, 0, none⟩) LW7.out (.string p_.f0)) (p := ⟨g7, 1, none⟩) LW7.out (.int .i64 p_.f1)) (p := ⟨g7, 2, none⟩) LW7.out (.bool p_.f2))
      have H1b := Aside0.mk (R_off (R_off (R_off H1a.out rfl (p := ⟨g7, 0, none⟩) N71.out (.string p_.f0)) rfl (p := ⟨g7, 1, none⟩) N71.out (.int .i64 p_.f1)) rfl (p := ⟨g7, 2, none⟩) N71.out (.bool p_.f2))
      have H2b := Aside0.mk (R_off (R_off (R_off H2a.out rfl (p := ⟨g7, 0, none⟩) N72.out (.string p_.f0)) rfl (p := ⟨g7, 1, none⟩) N72.out (.int .i64 p_.f1)) rfl (p := ⟨g7, 2, none⟩) N72.out (.bool p_.f2))
      obtain ⟨wB, hw_⟩ : ∃ u, (((wA.setCell ⟨g7, 0, none⟩ (.string p_.f0)).setCell ⟨g7, 1, none⟩ (.int .i64 p_.f1)).setCell ⟨g7, 2, none⟩ (.bool p_.f2)) = u := ⟨_, rfl⟩
      rw [hw_] at BXb HBb H1b H2b ⊢
      clear hw_ yx0 yx1 yx2 zx0 zx1 zx2 hx0 hx1 hx2 HBa H1a H2a BXa HBr H1r H2r
      have zl0 : wB.cell? ⟨g7, 0, none⟩ = some (.string p_.f0) := (blk_cell BXb.out 0).trans rfl
      have zl1 : wB.cell? ⟨g7, 1, none⟩ = some (.int .i64 p_.f1) := (blk_cell BXb.out 1).trans rfl
      have zl2 : wB.cell? ⟨g7, 2, none⟩ = some (.bool p_.f2) := (blk_cell BXb.out 2).trans rfl
      by_cases h1 : p p_ = true
      · have q3 : p p_ = true := h1
        have HS3 := Aside0.mk (show (l.take (j + 1)).filter p = o1 ++ [p_] by rw [HS1.out, if_pos h1])
        have HS4 := Aside0.mk (show (l.take (j + 1)).filter (fun x => !p x) = o2 by rw [HS2.out, h1]; simp)
        clear h1
        go_wp2_with (first
              | ((with_reducible refine gate_dst (N := 16) rfl ?_); refine goesLC (some 16) rfl rfl hf hn hbd #[.agg #[.string p_.f0, .int .i64 p_.f1, .bool p_.f2]] cap rfl (by (try simp only [List.map_toArray, List.map_cons, List.map_nil]); first | done | rfl) rfl ?_; (refine (HF.out wB p_ HBb.out HIN.out).mono ?_); rintro en wq ⟨rfl, hb_⟩; refine ⟨_, rfl, ?_⟩; rw [q3]; have HBq := Aside0.mk (below_step HBb.out hb_); have H1q := Aside0.mk (Kd.R_below H1b.out hb_); have H2q := Aside0.mk (Kd.R_below H2b.out hb_); have BXq := Aside0.mk (blk_below BXb.out hb_); clear hb_ zl0 zl1 zl2; have zm0 : wq.cell? ⟨g7, 0, none⟩ = some (.string p_.f0) := (blk_cell BXq.out 0).trans rfl; have zm1 : wq.cell? ⟨g7, 1, none⟩ = some (.int .i64 p_.f1) := (blk_cell BXq.out 1).trans rfl; have zm2 : wq.cell? ⟨g7, 2, none⟩ = some (.bool p_.f2) := (blk_cell BXq.out 2).trans rfl)
              | ((with_reducible refine gate_builtin (b := .append) (xs := #[.tmp 17, .tmp 19]) rfl ?_); at_builtin; refine Kd.R_append k29 (w0 := w) w.heap.size rfl (.tmp 17) (.tmp 19) 22 29 (.agg #[(.string ⟨#[]⟩), (.int .i64 0), (.bool false)]) 32 rfl Try.underlying22 info29 rfl (by decide) (by omega) (.slice A1 o1.length c1) o1 p_ [.string p_.f0, .int .i64 p_.f1, .bool p_.f2] (fun _ => True) (fun _ => False) rfl rfl ?aP (fun _ hk => hk.elim) ?aF ?aO ?aB ?aS ?aL ?_; (case aP => exact k29_mkM _ _ _ p_); (case aB => exact HBq.out); (case aF => exact (fun _ _ => trivial)); (case aO => exact H1q.out); (case aS => exact HBq.out.size); (case aL => have h1 := LO.out; have h2 := LZ.out; omega); intro v1 w1 ho_ hb_ hg_ hat_; obtain ⟨A1, c1, hv_⟩ := Kd.R_slice ho_; subst hv_; have HN1 := Aside0.mk ho_; have HO1 := Aside0.mk (Kd.R_grown2 H2q.out rfl hg_ (fun k_ hk_ e_ => HD.out k_ hk_ e_.symm)); have HB1 := Aside0.mk hb_; have HD1 := Aside0.mk (apart_app HD.out HBq.out.size H2q.out hat_); clear ho_ hb_ hg_ hat_))
        go_roundg (l.length - (j + 1))
        case measure => have := HI.out.2; have := HIL.out; omega
        case rel => exact ⟨j + 1, A1, c1, A2, c2, by first | rfl | (congr 1; exact Go.IntWalk.wrap64_in _ (by have h1 := LZ.out; have h2 := HIL.out; omega)), by first | (rw [HS3.out]; done) | (rw [HS3.out, List.length_append]; rfl), by rw [HS4.out], ⟨HIL.out, Nat.le_refl _⟩, HB1, ⟨by rw [HS3.out]; exact HN1.out⟩, ⟨by rw [HS4.out]; exact HO1.out⟩, ⟨by rw [HS3.out, HS4.out]; exact HD1.out⟩⟩
      · have q3 : p p_ = false := by simpa using h1
        have HS3 := Aside0.mk (show (l.take (j + 1)).filter p = o1 by rw [HS1.out, if_neg h1, List.append_nil])
        have HS4 := Aside0.mk (show (l.take (j + 1)).filter (fun x => !p x) = o2 ++ [p_] by rw [HS2.out, q3]; simp)
        clear h1
        go_wp2_with (first
              | ((with_reducible refine gate_dst (N := 16) rfl ?_); refine goesLC (some 16) rfl rfl hf hn hbd #[.agg #[.string p_.f0, .int .i64 p_.f1, .bool p_.f2]] cap rfl (by (try simp only [List.map_toArray, List.map_cons, List.map_nil]); first | done | rfl) rfl ?_; (refine (HF.out wB p_ HBb.out HIN.out).mono ?_); rintro en wq ⟨rfl, hb_⟩; refine ⟨_, rfl, ?_⟩; rw [q3]; have HBq := Aside0.mk (below_step HBb.out hb_); have H1q := Aside0.mk (Kd.R_below H1b.out hb_); have H2q := Aside0.mk (Kd.R_below H2b.out hb_); have BXq := Aside0.mk (blk_below BXb.out hb_); clear hb_ zl0 zl1 zl2; have zm0 : wq.cell? ⟨g7, 0, none⟩ = some (.string p_.f0) := (blk_cell BXq.out 0).trans rfl; have zm1 : wq.cell? ⟨g7, 1, none⟩ = some (.int .i64 p_.f1) := (blk_cell BXq.out 1).trans rfl; have zm2 : wq.cell? ⟨g7, 2, none⟩ = some (.bool p_.f2) := (blk_cell BXq.out 2).trans rfl)
              | ((with_reducible refine gate_builtin (b := .append) (xs := #[.tmp 21, .tmp 23]) rfl ?_); at_builtin; refine Kd.R_append k29 (w0 := w) w.heap.size rfl (.tmp 21) (.tmp 23) 22 29 (.agg #[(.string ⟨#[]⟩), (.int .i64 0), (.bool false)]) 32 rfl Try.underlying22 info29 rfl (by decide) (by omega) (.slice A2 o2.length c2) o2 p_ [.string p_.f0, .int .i64 p_.f1, .bool p_.f2] (fun _ => True) (fun _ => False) rfl rfl ?aP (fun _ hk => hk.elim) ?aF ?aO ?aB ?aS ?aL ?_; (case aP => exact k29_mkM _ _ _ p_); (case aB => exact HBq.out); (case aF => exact (fun _ _ => trivial)); (case aO => exact H2q.out); (case aS => exact HBq.out.size); (case aL => have h1 := LO.out; have h2 := LZ.out; omega); intro v1 w1 ho_ hb_ hg_ hat_; obtain ⟨A2, c2, hv_⟩ := Kd.R_slice ho_; subst hv_; have HN1 := Aside0.mk ho_; have HO1 := Aside0.mk (Kd.R_grown2 H1q.out rfl hg_ (fun k_ hk_ e_ => HD.out k_ e_.symm hk_)); have HB1 := Aside0.mk hb_; have HD1 := Aside0.mk (apart_app HD.out.symm HBq.out.size H1q.out hat_); clear ho_ hb_ hg_ hat_))
        go_roundg (l.length - (j + 1))
        case measure => have := HI.out.2; have := HIL.out; omega
        case rel => exact ⟨j + 1, A1, c1, A2, c2, by first | rfl | (congr 1; exact Go.IntWalk.wrap64_in _ (by have h1 := LZ.out; have h2 := HIL.out; omega)), by rw [HS3.out], by first | (rw [HS4.out]; done) | (rw [HS4.out, List.length_append]; rfl), ⟨HIL.out, Nat.le_refl _⟩, HB1, ⟨by rw [HS3.out]; exact HO1.out⟩, ⟨by rw [HS4.out]; exact HN1.out⟩, ⟨by rw [HS3.out, HS4.out]; exact HD1.out.symm⟩⟩
    · obtain rfl : j = l.length := by have := HI.out.1; omega
      have q1 : decide ((l.length : Int) < (l.length : Int)) = false := decide_eq_false (by omega)
      have H1e := H1r
      have H2e := H2r
      have HBe := HBr
      have HDe := HD
      rw [List.take_length] at H1e H2e HDe ⊢
      clear hlt HI H1r H2r HBr HD
      go_wp2
      go_ret2
      exact ⟨_, _, rfl, H1e.out, H2e.out, HDe.out, HBe.out⟩
end Go.Proofs.Ytdaikljbljcagaa.Mj
