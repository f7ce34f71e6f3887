/- DERIVED. (*Box).Add: its code walked. Conditions: those that each lemma names. DERIVED. awake of chapter 18: its code walked. Conditions: those that each lemma names. -/
import Derived.Test.YtdaikljbljcagaaMk
import Derived.Test.YtdaikljbljcagaaPAllx15
import Derived.Test.YtdaikljbljcagaaNd
namespace Go.Proofs.Ytdaikljbljcagaa.Ml
open Go Go.RowKit Go.Proofs.Ytdaikljbljcagaa.PAll Go.Proofs.YtdaikljbljcagaaW.PrintWords Go.Proofs.YtdaikljbljcagaaW.PrintLast Go.Proofs.Ytdaikljbljcagaa.Hl Go.Proofs.Ytdaikljbljcagaa.Fv Go.Proofs.Ytdaikljbljcagaa.Ma Go.Proofs.Ytdaikljbljcagaa.Mc Go.Proofs.Ytdaikljbljcagaa.Me Go.Proofs.Ytdaikljbljcagaa.Mi Go.Proofs.Ytdaikljbljcagaa.Mj Go.Proofs.Ytdaikljbljcagaa.Mk Go.Proofs.Ytdaikljbljcagaa.Dr
set_option linter.unusedSimpArgs false
set_option linter.unusedVariables false
/-- What Add makes of a box: what it answers, and what waits then. -/
def addE (mo : Int) (l m : List S29) (bad : Bool) : Int := if bad = true then 1 else if ((newF (namesF l) m).length : Int) > wrap64 (mo - (l.length : Int)) then 6 else 0
def addL (mo : Int) (l m : List S29) (bad : Bool) : List S29 := if addE mo l m bad = 0 then l ++ newF (namesF l) m else l
set_option maxHeartbeats 16000000 in
set_option maxRecDepth 100000 in
theorem Add_v (w : World) (base gb : Nat) (S : Nat → Prop) (mo : Int) (l : List S29) (hX : Box 68 w base S gb mo l) (hbase : base ≤ w.heap.size) (AM : Option Addr) (cM : Nat) (m : List S29) (hm : Kd.C k29 w AM m.length m) (hc : m.length ≤ cM) (wl : WfI l) (wm : WfI m) (hz : l.length + m.length < 1000000000) (k : Nat) (bad : Bool) (hbad : slices_ContainsFunc_api_Intent_api_Intent_at_outbox_Box_Add_1.f k m = some bad) :
    Calls Try.prog 15 #[.pointer (some ⟨gb, 0, none⟩), .slice AM m.length cM] w fun en w' => en = .returned (.int .i64 (addE mo l m bad)) ∧ ∃ S', Box 68 w' base S' gb mo (addL mo l m bad) ∧ Upd w w' base S S' := by
  have hu29 := Try.underlying29
  have hu68 := Try.underlying68
  have mixed : Try.prog.follows Departure.mixedOrders = true := by kernel_rfl
  have HX := Aside0.mk hX
  have HMC := Aside0.mk hm
  have HCC := Aside0.mk hc
  have WL := Aside0.mk wl
  have WM := Aside0.mk wm
  have LZ := Aside0.mk hz
  have HBS := Aside0.mk hbase
  have HK := Aside0.mk hbad
  clear hX hm hc wl wm hz hbase hbad
  cases bad with
  | true =>
    go_enter Try.func15, Try.ntmps15
    go_wp2_with (first
      | ((with_reducible refine gate_callee (f := 37) rfl ?_); refine goesL_ (some 6) rfl rfl Try.func37 (by kernel_rfl) rfl #[.slice AM m.length cM, .func (.func 38) #[] #[]] rfl (by (try simp only [List.map_toArray, List.map_cons, List.map_nil]); first | done | rfl) ?_; (refine (slices_ContainsFunc_api_Intent_api_Intent_at_outbox_Box_Add_1.calls k AM cM m true w HMC.out HCC.out HK.out).mono ?_); rintro en w1 ⟨rfl, hb_⟩; refine ⟨_, rfl, ?_⟩; have HB1 := Aside0.mk hb_; clear hb_))
    go_ret
    exact ⟨rfl, S, HX.out.below HB1.out, Upd.of_below HB1.out HBS.out⟩
  | false =>
    go_enter Try.func15, Try.ntmps15
    go_wp2_with (first
      | ((with_reducible refine gate_callee (f := 37) rfl ?_); refine goesL_ (some 6) rfl rfl Try.func37 (by kernel_rfl) rfl #[.slice AM m.length cM, .func (.func 38) #[] #[]] rfl (by (try simp only [List.map_toArray, List.map_cons, List.map_nil]); first | done | rfl) ?_; (refine (slices_ContainsFunc_api_Intent_api_Intent_at_outbox_Box_Add_1.calls k AM cM m false w HMC.out HCC.out HK.out).mono ?_); rintro en w1 ⟨rfl, hb_⟩; refine ⟨_, rfl, ?_⟩; have HB1 := Aside0.mk hb_; clear hb_)
      | ((with_reducible refine gate_callee (f := 40) rfl ?_); refine goesL_ (some 9) rfl rfl Try.func40 (by kernel_rfl) rfl #[.pointer (some ⟨gb, 0, none⟩), .slice AM m.length cM] rfl (by (try simp only [List.map_toArray, List.map_cons, List.map_nil]); first | done | rfl) ?_; (refine (add_v w1 base gb S mo l (HX.out.below HB1.out) (Nat.le_trans HBS.out HB1.out.size) AM cM m (Kd.C_below HMC.out HB1.out) WL.out WM.out LZ.out _ rfl).mono ?_); rintro en w2 ⟨full, hf_, he_, S2, hx_, hu_⟩; obtain ⟨ev, hev⟩ : ∃ ev : Int, (if full = true then (6 : Int) else 0) = ev := ⟨_, rfl⟩; rw [hev] at he_; subst he_; have HEV := Aside0.mk hev; clear hev; refine ⟨_, rfl, ?_⟩; have HF := Aside0.mk hf_; have HX2 := Aside0.mk hx_; have HU := Aside0.mk ((Upd.of_below HB1.out HBS.out).trans hu_); clear hf_ hx_ hu_))
    go_ret
    have e1 : (if full = true then (6 : Int) else 0) = addE mo l m false := by
      unfold addE
      cases full with
      | true => rw [if_pos rfl, if_neg (by decide), if_pos (HF.out.1 rfl)]
      | false => rw [if_neg (by decide), if_neg (by decide), if_neg (fun h => by have := HF.out.2 h; cases this)]
    refine ⟨by rw [← e1, HEV.out]; rfl, S2, ?_, HU.out⟩
    have e2 : (if full = true then l else l ++ newF (namesF l) m) = addL mo l m false := by
      unfold addL
      rw [← e1]
      cases full <;> rfl
    rw [← e2]
    exact HX2.out
end Go.Proofs.Ytdaikljbljcagaa.Ml
namespace Go.Proofs.Ytdaikljbljcagaa.Mm
open Go Go.RowKit Go.Proofs.Ytdaikljbljcagaa.PAll Go.Proofs.YtdaikljbljcagaaW.PrintWords Go.Proofs.YtdaikljbljcagaaW.PrintLast Go.Proofs.Ytdaikljbljcagaa.Hl Go.Proofs.Ytdaikljbljcagaa.Fv Go.Proofs.Ytdaikljbljcagaa.Ma Go.Proofs.Ytdaikljbljcagaa.Mc Go.Proofs.Ytdaikljbljcagaa.Me Go.Proofs.Ytdaikljbljcagaa.Mf Go.Proofs.Ytdaikljbljcagaa.Mg Go.Proofs.Ytdaikljbljcagaa.Mh Go.Proofs.Ytdaikljbljcagaa.Mi Go.Proofs.Ytdaikljbljcagaa.Mj Go.Proofs.Ytdaikljbljcagaa.Mk Go.Proofs.Ytdaikljbljcagaa.Ml Go.Proofs.Ytdaikljbljcagaa.Na Go.Proofs.Ytdaikljbljcagaa.Nd Go.Proofs.Ytdaikljbljcagaa.Dr
set_option linter.unusedSimpArgs false
set_option linter.unusedVariables false
def x1 : S29 := ⟨⟨#[0, 1, 3, 97, 0, 0, 0, 107]⟩, 1, false⟩
def x2 : S29 := ⟨⟨#[0, 1, 3, 97, 0, 0, 0, 107]⟩, 2, true⟩
def m2 : List S29 := [x1, x2]
def m3 : List S29 := [x1, x2, x1]
theorem wf0 : WfI [] := fun x hx => by cases hx
theorem wfx : ∀ x, x = x1 ∨ x = x2 → x.f0.size ≤ maxLen ∧ (Lit.int .i64 x.f1).wf = true := by
  rintro x (rfl | rfl) <;> exact ⟨by decide, by decide⟩
theorem wf1 : WfI [x1] := fun x hx => wfx x (by simp at hx; exact .inl hx)
theorem wf2 : WfI m2 := fun x hx => wfx x (by simpa [m2] using hx)
theorem wf3 : WfI m3 := fun x hx => wfx x (by simp [m3] at hx; rcases hx with h | h | h <;> simp [h])
set_option maxRecDepth 100000 in
theorem bad3 : slices_ContainsFunc_api_Intent_api_Intent_at_outbox_Box_Add_1.f 64 m3 = some false := by kernel_rfl
set_option maxRecDepth 100000 in
theorem add3e : addE (mx 5 0) [] m3 false = 0 := by kernel_rfl
set_option maxRecDepth 100000 in
theorem add3l : addL (mx 5 0) [] m3 false = m2 := by kernel_rfl
set_option maxRecDepth 100000 in
theorem lat2 : Latest_s 64 (m2.take 2) = some [x2] := by kernel_rfl
set_option maxRecDepth 100000 in
theorem done_o : [x1] = m2.filter (named [x1]) := by kernel_rfl
set_option maxRecDepth 100000 in
theorem done_l : [x2] = m2.filter (fun x => !named [x1] x) := by kernel_rfl
section
variable {P : Program} {ops : Array Oper} {Q : Exit → Act → World → Prop} {rest : List Oper}
/-- A call whose guard says yes, in a plain region. -/
theorem goesLw {oi : Oper} {a : Act} {w : World} (N : Option Tmp) (hd : oi.dst = N) (hw : Region.wanted oi (yielded ops a.tmps) = true) {f : FuncId} {fn : Func} {xa : Array Operand} {ts : Array TypeId} (hf : P.funcs[f]? = some fn) (hname : (fn.name == "runtime.NumGoroutine") = false) (hb : fn.body.isSome = true) (args : Array Value)
    (hop : oi.op = .call { callee := .value (.func f), args := xa, argTypes := ts }) (hargs : xa.map a.eval = args)
    (h : Calls P f args w fun e w' => ∃ v, e = .returned v ∧ wpList P ops Q rest (a.put N v) w') : wpList P ops Q (oi :: rest) a w := by
  refine wpList_step fun K hK => ?_
  rw [if_pos hw]
  have h2 := goes_ (ops := ops) (Q := Q) (K := K) hf hname hb args hw hd hop hargs (h.mono fun e w'' hh => by
    obtain ⟨v, he, hk⟩ := hh
    exact ⟨v, he, hK _ _ hk⟩)
  rw [if_pos hw] at h2
  exact h2
end
/-- A row that a literal makes. -/
theorem lit_row (w : World) (xs : List S29) (hm : xs.length ≤ maxLen := by decide) : Kd.C k29 (w.alloc (.cells (rowP xs).toArray 29)) (some ⟨w.heap.size, 0, none⟩) xs.length xs ∧ Below w.heap.size w (w.alloc (.cells (rowP xs).toArray 29)) := by
  have hb : Below w.heap.size w (w.alloc (.cells (rowP xs).toArray 29)) := below_alloc (Below.refl _ _) _
  have hR := cells_R (w := w.alloc (.cells (rowP xs).toArray 29)) (base := w.heap.size) (ok := fun _ => True) (g := w.heap.size) (c := xs.length) (cur := (rowP xs).toArray) (xs := xs) trivial (Nat.le_refl _) (heap_alloc_new w _) (Nat.le_refl _) hm (by rw [List.size_toArray, rowP_len]) (by
    rw [List.toList_toArray, ← rowP_len, List.take_length])
  exact ⟨(Kd.R_reads' hR).2.2, hb⟩
theorem drawn_below {w w' : World} (h : Drawn0 w w') : Below w.heap.size w w' := h.below
theorem cells3 {w w' : World} {a b c : Addr} {x y z : Value} (h : w.cell? a = some x ∧ w.cell? b = some y ∧ w.cell? c = some z) (hb : Below w.heap.size w w') : w'.cell? a = some x ∧ w'.cell? b = some y ∧ w'.cell? c = some z :=
  ⟨pw_cell_below hb h.1, pw_cell_below hb h.2.1, pw_cell_below hb h.2.2⟩
theorem cl_open {w : World} {base : Nat} {v : Value} {xs : List S29} (h : Cl k29 29 w base v xs) : ∃ A, v = .slice A xs.length xs.length ∧ Kd.C k29 w A xs.length xs := by
  obtain ⟨A, c, e, _, hR⟩ := h
  exact ⟨A, e, (Kd.R_reads' hR).2.2⟩
theorem _root_.Go.Proofs.Ytdaikljbljcagaa.Mi.Box.open_ {t : TypeId} {w : World} {base : Nat} {S : Nat → Prop} {gb : Nat} {mo : Int} {l : List S29} (h : Box t w base S gb mo l) : ∃ A c, l.length ≤ c ∧ w.heap[gb]? = some (.cells #[.int .i64 mo, .slice A l.length c] t (0, 0)) ∧ Kd.C k29 w A l.length l := by
  obtain ⟨_, _, A, c, hb, hR⟩ := h
  exact ⟨A, c, (Kd.R_reads' hR).2.1, hb, (Kd.R_reads' hR).2.2⟩
set_option maxHeartbeats 16000000 in
set_option maxRecDepth 100000 in
theorem awake_v (w : World) : Calls Try.prog 7 #[] w fun en w' => en = .returned (.bool true) ∧ Below w.heap.size w w' := by
  have hu29 := Try.underlying29
  have hu68 := Try.underlying68
  have mixed : Try.prog.follows Departure.mixedOrders = true := by kernel_rfl
  go_enter Try.func7, Try.ntmps7
  go_wp2_with (first
    | ((with_reducible refine gate_callee (f := 13) rfl ?_); refine goesL_ (some 4) rfl rfl Try.func13 (by kernel_rfl) rfl #[.int .i64 5] rfl (by (try simp only [List.map_toArray, List.map_cons, List.map_nil]); first | done | rfl) ?_; (refine (new_v w 5).mono ?_); rintro en w1 ⟨gb, rfl, hx_, hg_, hb_⟩; refine ⟨_, rfl, ?_⟩; have HX1 := Aside0.mk hx_; have HB1 := Aside0.mk hb_; clear hx_ hg_ hb_)
    | ((with_reducible refine gate_callee (f := 15) rfl ?_); refine goesL_ (some 12) rfl rfl Try.func15 (by kernel_rfl) rfl #[.pointer (some ⟨gb, 0, none⟩), .slice (some ⟨w1.heap.size, 0, none⟩) 3 3] rfl (by (try simp only [List.map_toArray, List.map_cons, List.map_nil]); first | done | rfl) ?_; obtain ⟨HCl, HBl⟩ := lit_row w1 m3; (refine (Add_v _ w.heap.size gb _ (mx 5 0) [] (HX1.out.below HBl) (Nat.le_trans HB1.out.size HBl.size) _ 3 m3 HCl (Nat.le_refl _) wf0 wf3 (by decide) 64 false bad3).mono ?_); rintro en w2 ⟨rfl, S2, hx_, hu_⟩; rw [add3e]; rw [add3l] at hx_; refine ⟨_, rfl, ?_⟩; have HX2 := Aside0.mk hx_; have HU2 := Aside0.mk hu_; have LS2 := Aside0.mk (Nat.le_trans HB1.out.size (Nat.le_trans HBl.size hu_.kept.1)); have HB2 := Aside0.mk (hu_.below); have HBl_ := Aside0.mk (below_step HB1.out HBl); clear hx_ hu_ HCl HBl)
    | ((with_reducible refine gate_callee (f := 17) rfl ?_); refine goesL_ (some 14) rfl rfl Try.func17 (by kernel_rfl) rfl #[.pointer (some ⟨gb, 0, none⟩), .int .i64 9] rfl (by (try simp only [List.map_toArray, List.map_cons, List.map_nil]); first | done | rfl) ?_; obtain ⟨A2, c2, hc2_, hb2_, hr2_⟩ := HX2.out.open_; (refine (due_v w2 gb (mx 5 0) A2 c2 m2 hb2_ hr2_ hc2_ (by decide) 9 2 (by kernel_rfl)).mono ?_); rintro en w3 ⟨v3, rfl, hc3_, hb3_⟩; obtain ⟨A3, hv3_, hC3_⟩ := cl_open hc3_; subst hv3_; refine ⟨_, rfl, ?_⟩; have HC3 := Aside0.mk hC3_; have HX3 := Aside0.mk (HX2.out.below hb3_); have HB3 := Aside0.mk hb3_; have LS3 := Aside0.mk (Nat.le_trans LS2.out hb3_.size); clear hc2_ hb2_ hr2_ hc3_ hb3_ hC3_)
    | ((with_reducible refine gate_callee (f := 9) rfl ?_); refine goesL_ (some 15) rfl rfl Try.func9 (by kernel_rfl) rfl #[.slice A3 (m2.take 2).length (m2.take 2).length] rfl (by (try simp only [List.map_toArray, List.map_cons, List.map_nil]); first | done | rfl) ?_; (refine (latest_s 64 A3 _ (m2.take 2) [x2] w3 HC3.out (Nat.le_refl _) (by decide) lat2).mono ?_); rintro en w4 ⟨v4, rfl, hc4_, hb4_⟩; obtain ⟨A4, hv4_, hC4_⟩ := cl_open hc4_; subst hv4_; refine ⟨_, rfl, ?_⟩; have HC4 := Aside0.mk hC4_; have HX4 := Aside0.mk (HX3.out.below hb4_); have HB4 := Aside0.mk hb4_; have LS4 := Aside0.mk (Nat.le_trans LS3.out hb4_.size); clear hc4_ hb4_ hC4_)
    | ((with_reducible refine gate_callee (f := 25) rfl ?_); refine goesLw (some 20) rfl (by rfl) Try.func25 (by kernel_rfl) rfl #[.pointer (some ⟨gb, 0, none⟩)] rfl (by (try simp only [List.map_toArray, List.map_cons, List.map_nil]); first | done | rfl) ?_; obtain ⟨A5, c5, hc5_, hb5_, hr5_⟩ := HX4.out.open_; (refine (len_v w4 gb (mx 5 0) A5 c5 2 hb5_).mono ?_); rintro en w5 ⟨rfl, hl5_⟩; refine ⟨_, rfl, ?_⟩; have HX5 := Aside0.mk (HX4.out.below hl5_); have HB5 := Aside0.mk hl5_; have LS5 := Aside0.mk (Nat.le_trans LS4.out hl5_.size); obtain ⟨ad4, hA4_, hx4_⟩ := at_T29 (Kd.C_below HC4.out hl5_) 0 (by decide) (by decide); subst hA4_; obtain ⟨q0_, q1_, q2_⟩ := hx4_; have q3_ : w5.cell? ⟨ad4.block, ad4.off + 2, none⟩ = some (.bool true) := q2_; clear q0_ q1_ q2_; clear hc5_ hb5_ hr5_ hl5_)
    | ((with_reducible refine gate_callee (f := 26) rfl ?_); refine goesLw (some 38) rfl (by rfl) Try.func26 (by kernel_rfl) rfl #[.pointer (some ⟨gb, 0, none⟩), .slice (some ⟨w5.heap.size, 0, none⟩) 1 1] rfl (by (try simp only [List.map_toArray, List.map_cons, List.map_nil]); first | done | rfl) ?_; obtain ⟨HCl, HBl⟩ := lit_row w5 [x1]; (refine (done_v _ w.heap.size gb _ (mx 5 0) m2 (HX5.out.below HBl) (Nat.le_trans LS5.out HBl.size) _ 1 [x1] HCl wf2 wf1 (by decide) [x1] [x2] done_o done_l).mono ?_); rintro en w6 ⟨rfl, S6, hx_, hu_⟩; refine ⟨_, rfl, ?_⟩; have HU6 := Aside0.mk hu_.below; have HBl6 := Aside0.mk HBl; clear hx_ hu_ HCl HBl))
  go_ret
  exact ⟨rfl, (((((HBl_.out.trans HB2.out).trans (below_low HB3.out LS2.out)).trans (below_low HB4.out LS3.out)).trans (below_low HB5.out LS4.out)).trans (below_low HBl6.out LS5.out)).trans HU6.out⟩
end Go.Proofs.Ytdaikljbljcagaa.Mm
