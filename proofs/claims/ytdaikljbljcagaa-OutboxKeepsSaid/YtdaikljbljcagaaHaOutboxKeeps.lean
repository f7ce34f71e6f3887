/- DERIVED. OutboxKeeps: the code walked. Conditions: those that each lemma names. DERIVED. OutboxKeeps answers true at all inputs. Conditions: none but those of the statement. -/
import Derived.Test.YtdaikljbljcagaaMt
import Derived.Test.YtdaikljbljcagaaNc
import Derived.ArgAppend
import Derived.Test.YtdaikljbljcagaaUi
import Derived.Test.YtdaikljbljcagaaRs
namespace Go.Proofs.Ytdaikljbljcagaa.Mu
open Go Go.RowKit Go.Proofs.Ytdaikljbljcagaa.PAll Go.Proofs.YtdaikljbljcagaaW.PrintWords Go.Proofs.YtdaikljbljcagaaW.PrintLast Go.Proofs.Ytdaikljbljcagaa.Hl Go.Proofs.Ytdaikljbljcagaa.Fv Go.Proofs.Ytdaikljbljcagaa.Mc Go.Proofs.Ytdaikljbljcagaa.Me Go.Proofs.Ytdaikljbljcagaa.Mf Go.Proofs.Ytdaikljbljcagaa.Mg Go.Proofs.Ytdaikljbljcagaa.Mi Go.Proofs.Ytdaikljbljcagaa.Mj Go.Proofs.Ytdaikljbljcagaa.Mk Go.Proofs.Ytdaikljbljcagaa.Ml Go.Proofs.Ytdaikljbljcagaa.Mm Go.Proofs.Ytdaikljbljcagaa.Mo Go.Proofs.Ytdaikljbljcagaa.Mr Go.Proofs.Ytdaikljbljcagaa.Ms Go.Proofs.Ytdaikljbljcagaa.Mt Go.Proofs.Ytdaikljbljcagaa.Na Go.Proofs.Ytdaikljbljcagaa.Nc Go.Proofs.Ytdaikljbljcagaa.Pn Go.Proofs.Ytdaikljbljcagaa.Pq Go.Proofs.Ytdaikljbljcagaa.Uj
set_option linter.unusedSimpArgs false
set_option linter.unusedVariables false
/-- append to a row whose capacity has been cut: a new row; the old one stays. -/
theorem append_cl {P : Program} {ops : Array Oper} {rest : List Oper} {o : Oper} {a : Act} {Q : Exit → Act → World → Prop} {α : Type} (d : Kd α) {W : World} (hgd : o.guard = none) (s x : Operand) (t e : TypeId) (z : Value) (bytes : Nat)
    (ho : o.op = .call { callee := .builtin .append, args := #[s, x], argTypes := #[t, t] })
    (ht : P.underlying t = some (.slice e)) (hinfo : (P.info? e).map (fun i => (i.zero, i.size, i.bytes)) = some (some z, d.sz, bytes)) (hz : z.cells.size = d.sz) (hs0 : 0 < d.sz)
    {base : Nat} (v : Value) (xs : List α) (cs : List Value) (hcs : cs.length = d.sz) (h1 : ∀ u ∈ cs, u.oneCell' = true) (hs : a.eval s = v) (hx : a.eval x = .slice (some ⟨W.heap.size, 0, none⟩) 1 1)
    (HC : Cl d e W base v xs) (hm : xs.length + 1 ≤ maxLen) (hl : (xs.length + 1) * bytes ≤ 140737488355328)
    (h : ∀ A n c w1, Below W.heap.size W w1 → wpList P ops Q rest (a.put o.dst (.slice A n c)) w1) : wpList P ops Q (o :: rest) a (W.alloc (.cells cs.toArray e)) := by
  obtain ⟨A, c, rfl, hc, hR⟩ := HC
  obtain ⟨_, inner, hown, hr⟩ := hR
  obtain ⟨i, hi, he⟩ := Option.map_eq_some_iff.1 hinfo
  simp only [Prod.mk.injEq] at he
  obtain ⟨e1, e2, e3⟩ := he
  refine wpList_append_grows (W.alloc (.cells cs.toArray e)) hgd s x t ho e i z d.sz bytes ht hi e1 e2 e3 hz hs0 A xs.length xs.length inner hs ?_ hown.1 ?_ ⟨W.heap.size, 0, none⟩ 1 1 cs hx (by rw [hcs, Nat.one_mul]) ?_ h1 (by omega) hm hl ?_
  · intro hA
    rcases hown.2 with ⟨_, h0⟩ | ⟨g, cap, cur, hv, _⟩
    · exact ⟨h0, h0⟩
    · injection hv with hv _ _
      rw [hA] at hv
      cases hv
  · intro b hb j u hj
    subst hb
    have h2 : ∃ g, b = ⟨g, 0, none⟩ := by
      rcases hown.2 with ⟨hv, _⟩ | ⟨g, cap, cur, hv, _⟩
      · injection hv with hv _ _
        cases hv
      · injection hv with hv _ _
        injection hv with hv
        exact ⟨g, hv⟩
    obtain ⟨g, rfl⟩ := h2
    have h3 : W.cell? ((⟨g, 0, none⟩ : Addr).add j) = some u := hown.cells (g := g) (by simp [Value.ownBlock]) _ u hj
    exact (World.cell?_alloc_lt _ _ _ (World.block_lt_of_cell? _ _ h3)).trans h3
  · intro j u hj
    rw [Addr.add_lit, Nat.zero_add]
    exact (blk_cell (blk_new W _) j).trans (by simpa using hj)
  · intro v1 w1 hown1 hg
    have hb : Below W.heap.size W w1 := Below.grown (below_alloc (Below.refl _ _) _) hg (by simp) (fun k hk => by cases hk)
    rcases hown1.2 with ⟨hv, _⟩ | ⟨g, cap, cur, hv, _⟩
    · rw [hv]
      exact h _ _ _ _ hb
    · rw [hv]
      exact h _ _ _ _ hb
def bang : S29 := ⟨⟨#[33]⟩, 0, false⟩
theorem cs29_one : ∀ u ∈ [Value.string (⟨#[]⟩ : ByteArray), .int .i64 0, .bool false], u.oneCell' = true := by
  intro u hu
  simp only [List.mem_cons, List.not_mem_nil, or_false] at hu
  rcases hu with rfl | rfl | rfl <;> rfl
theorem empty_row (base : Nat) (w : World) (hb : base ≤ w.heap.size) : Kd.R k29 29 (w.alloc (.cells #[] 29)) base (fun _ => True) (.slice (some ⟨w.heap.size, 0, none⟩) 0 0) ([] : List S29) :=
  cells_R (w := w.alloc (.cells #[] 29)) (base := base) (g := w.heap.size) (c := 0) (cur := #[]) (xs := []) trivial hb (heap_alloc_new w _) (Nat.le_refl _) (Nat.zero_le _) rfl rfl
theorem own_bound {w : World} {base g n c : Nat} {xs : List S29} (h : Kd.R k29 29 w base (fun _ => True) (.slice (some ⟨g, 0, none⟩) n c) xs) : Kd.R k29 29 w base (fun k => k = g) (.slice (some ⟨g, 0, none⟩) n c) xs :=
  Kd.R_reok rfl h (fun k hk => by injection hk with hk; exact hk.symm)
theorem own_cut {w : World} {base : Nat} {ok : Nat → Prop} {A : Option Addr} {c : Nat} {own l : List S29} {x : S29} (ho : own = l ++ [x]) (h : Kd.R k29 29 w base ok (.slice A own.length c) own) : Kd.C k29 w A l.length l := by
  have h1 := Kd.C_take (m := l.length) (Kd.R_reads' h).2.2 (by rw [ho, List.length_append]; omega)
  have e : own.take l.length = l := by rw [ho, List.take_left]
  rwa [e] at h1
theorem own_at {w : World} {base : Nat} {ok : Nat → Prop} {g c : Nat} {own l : List S29} {x : S29} (ho : own = l ++ [x]) (h : Kd.R k29 29 w base ok (.slice (some ⟨g, 0, none⟩) own.length c) own) : w.cell? ⟨g, l.length * 3, none⟩ = some (.string x.f0) := by
  obtain ⟨ce, hcl, hM, hcc, hfr⟩ := Kd.R_elem h z29 (l.length : Int) (by omega) (by rw [ho, List.length_append, List.length_singleton]; omega)
  obtain rfl := k29_openM hM
  have h0 := hcc 0 _ rfl
  have e : own.getD (l.length : Int).toNat z29 = x := by rw [Int.toNat_natCast, ho, List.getD_eq_getElem?_getD]; simp
  rw [e] at h0
  exact h0
/-- What is due of a whole box. -/
theorem due_box (w : World) (base gb : Nat) (S : Nat → Prop) (mo : Int) (l : List S29) (hX : Box 68 w base S gb mo l) (hz : l.length < 1000000000) : Calls Try.prog 17 #[.pointer (some ⟨gb, 0, none⟩), .int .i64 1099511627776] w fun en w' => ∃ Ax cx, en = .returned (.slice Ax l.length l.length) ∧ l.length ≤ cx ∧ Kd.R k29 29 w' w.heap.size (fun _ => True) (.slice Ax l.length cx) l ∧ Below w.heap.size w w' := by
  obtain ⟨_, _, A, c, hB, hR⟩ := hX
  have hd : l.length = dueN 1099511627776 l.length := by
    unfold dueN mn mx
    repeat' split
    all_goals omega
  refine (due_v w gb mo A c l hB (Kd.R_reads' hR).2.2 (Kd.R_reads' hR).2.1 (by omega) 1099511627776 l.length hd).mono ?_
  rintro en w' ⟨v, rfl, hc, hb⟩
  rw [List.take_length] at hc
  obtain ⟨A', c', rfl, h1, h2⟩ := hc
  exact ⟨A', c', rfl, h1, h2, hb⟩
set_option maxHeartbeats 16000000 in
set_option maxRecDepth 100000 in
theorem keeps_law (k : Nat) (w : World) (A : Option Addr) (c : Nat) (l : List S29) (hC : Kd.C k29 w A l.length l) (hc : l.length ≤ c) (lb : Bool) (hl : shelfmarkref18_Light.f k l 60 = some lb)
    (x : List S29) (h : lb = true → l.length ≤ 60 ∧ Latest_f k l = some x ∧ shelfmarkref13_SameIntents.f k l l = some true ∧ WfI l ∧ ActOk k (mx 100 0) [] ⟨1, l, 0, z43⟩) :
    Calls Try.prog 4 #[.slice A l.length c] w fun en w' => en = .returned (.bool true) ∧ Below w.heap.size w w' := by
  have hu29 := Try.underlying29
  have mixed : Try.prog.follows Departure.mixedOrders = true := by kernel_rfl
  have HC := Aside0.mk hC
  have HCC := Aside0.mk hc
  have HL := Aside0.mk hl
  clear hC hc hl
  cases lb with
  | false =>
    clear h
    go_enter Try.func4, Try.ntmps4
    go_wp2_with (first
          | ((with_reducible refine gate_callee (f := 7) rfl ?_); (try (refine gate_guard (by rfl) ?_; dsimp only)); refine goesL_ (some 9) rfl rfl Try.func7 (by kernel_rfl) rfl #[] rfl (by (try simp only [List.map_toArray, List.map_cons, List.map_nil]); first | done | rfl) ?_; (refine (awake_v w).mono ?_); rintro en w1 ⟨rfl, hb_⟩; refine ⟨_, rfl, ?_⟩; have HB1 := Aside0.mk hb_; clear hb_)
          | ((with_reducible refine gate_callee (f := 8) rfl ?_); (try (refine gate_guard (by rfl) ?_; dsimp only)); refine goesL_ (some 12) rfl rfl Try.func8 (by kernel_rfl) rfl #[.slice A l.length c, .int .i64 60] rfl (by (try simp only [List.map_toArray, List.map_cons, List.map_nil]); first | done | rfl) ?_; (refine (shelfmarkref18_Light.calls k A c l 60 false w1 (Kd.C_below HC.out HB1.out) HCC.out HL.out).mono ?_); rintro en w2 ⟨rfl, hd_⟩; refine ⟨_, rfl, ?_⟩; have HB2 := Aside0.mk (below_step HB1.out (drawn_below hd_)); clear hd_; have HB2a := Aside0.mk (below_alloc HB2.out (.cells #[] 29)); have HE := Aside0.mk (empty_row w.heap.size w2 HB2.out.size)))
    go_ret
    exact ⟨rfl, HB2.out⟩
  | true =>
    obtain ⟨h0, h1, h2, h3, h4⟩ := h rfl
    have LZ := Aside0.mk h0
    have FX := Aside0.mk h1
    have FS := Aside0.mk h2
    have WL := Aside0.mk h3
    have OK := Aside0.mk h4
    obtain ⟨L, hL⟩ : ∃ L, L = addL (mx 100 0) [] l (l.any (badI pe0)) := ⟨_, rfl⟩
    have LZ2 := Aside0.mk (show ([] : List S29).length + l.length < 1000000000 by rw [List.length_nil]; omega)
    have hadd := add_eq (mx 100 0) [] l (l.any (badI pe0)) LZ2.out (by decide) (by decide)
    have L1 := Aside0.mk hL
    have L2 := Aside0.mk (show L = raddL (mx 100 0) [] l (l.any (badI pe0)) by rw [hL, hadd.2])
    have LL := Aside0.mk (show L.length < 1000000000 by rw [L2.out]; have := raddL_len (mx 100 0) [] l (l.any (badI pe0)); rw [List.length_nil] at this; omega)
    have FL := Aside0.mk (show shelfmarkref13_SameIntents.f k L L = some true by
      have := h4.same
      rw [show actL (mx 100 0) [] ⟨1, l, 0, z43⟩ = L from by rw [L2.out]; rfl] at this
      exact this)
    clear h h0 h1 h2 h3 h4 hL hadd
    go_enter Try.func4, Try.ntmps4
    go_upto_region 7 with (first
      | ((with_reducible refine gate_callee (f := 7) rfl ?_); (try (refine gate_guard (by rfl) ?_; dsimp only)); refine goesL_ (some 9) rfl rfl Try.func7 (by kernel_rfl) rfl #[] rfl (by (try simp only [List.map_toArray, List.map_cons, List.map_nil]); first | done | rfl) ?_; (refine (awake_v w).mono ?_); rintro en w1 ⟨rfl, hb_⟩; refine ⟨_, rfl, ?_⟩; have HB1 := Aside0.mk hb_; clear hb_)
      | ((with_reducible refine gate_callee (f := 8) rfl ?_); (try (refine gate_guard (by rfl) ?_; dsimp only)); refine goesL_ (some 12) rfl rfl Try.func8 (by kernel_rfl) rfl #[.slice A l.length c, .int .i64 60] rfl (by (try simp only [List.map_toArray, List.map_cons, List.map_nil]); first | done | rfl) ?_; (refine (shelfmarkref18_Light.calls k A c l 60 true w1 (Kd.C_below HC.out HB1.out) HCC.out HL.out).mono ?_); rintro en w2 ⟨rfl, hd_⟩; refine ⟨_, rfl, ?_⟩; have HB2 := Aside0.mk (below_step HB1.out (drawn_below hd_)); clear hd_; have HB2a := Aside0.mk (below_alloc HB2.out (.cells #[] 29)); have HE := Aside0.mk (empty_row w.heap.size w2 HB2.out.size))
      | ((with_reducible refine gate_builtin (b := .append) (xs := #[.tmp 14, .tmp 15]) rfl ?_); at_builtin; refine Kd.R_append_rows k29 (w0 := w) w.heap.size rfl (.tmp 14) (.tmp 15) 22 29 (.agg #[(.string ⟨#[]⟩), (.int .i64 0), (.bool false)]) 32 rfl Try.underlying22 info29 rfl (by decide) (by omega) (.slice (some ⟨w2.heap.size, 0, none⟩) 0 0) [] l A l.length c (fun _ => True) (fun _ => False) rfl rfl ?aO ?aR (fun _ _ h => h) (fun _ h => h.elim) ?aF ?aB ?aS ?aL ?_; (case aR => exact (Kd.C_below HC.out HB2a.out)); (case aB => exact HB2a.out); (case aF => exact (fun _ _ => trivial)); (case aO => exact HE.out); (case aS => exact HB2a.out.size); (case aL => have h1 := LZ.out; simp only [List.length_nil]; omega); intro v_ w3 ho_ hb_ hg_ hat_; (try rw [List.nil_append] at ho_); obtain ⟨A3, c3, hv_⟩ := Kd.R_slice ho_; subst hv_; have HR3 := Aside0.mk ho_; have HB3 := Aside0.mk hb_; clear ho_ hb_ hg_ hat_)
      | ((with_reducible refine gate_builtin (b := .append) (xs := #[.tmp 16, .tmp 18]) rfl ?_); at_builtin; refine Kd.R_append k29 (w0 := w) w.heap.size rfl (.tmp 16) (.tmp 18) 22 29 (.agg #[(.string ⟨#[]⟩), (.int .i64 0), (.bool false)]) 32 rfl Try.underlying22 info29 rfl (by decide) (by omega) (.slice A3 l.length c3) l bang [.string ⟨#[33]⟩, .int .i64 0, .bool false] (fun _ => True) (fun _ => False) rfl rfl ?aP (fun _ hk => hk.elim) ?aF ?aO ?aB ?aS ?aL ?_; (case aP => exact k29_mkM _ _ _ bang); (case aB => exact HB3.out); (case aF => exact (fun _ _ => trivial)); (case aO => exact HR3.out); (case aS => exact HB3.out.size); (case aL => have h1 := LZ.out; omega); intro v_ w4 ho_ hb_ hg_ hat_; have HB4 := Aside0.mk hb_; have LW := Aside0.mk (show w3.heap.size ≤ w4.heap.size from hg_.size); obtain ⟨g4, c4, hv_, hgb_, _, _⟩ := Kd.R_form ho_ (by rw [List.length_append, List.length_singleton]; omega); subst hv_; obtain ⟨own, hown⟩ : ∃ own, own = l ++ [bang] := ⟨_, rfl⟩; rw [← hown] at ho_ ⊢; have HOW := Aside0.mk hown; have ON := Aside0.mk (show own.length = l.length + 1 by rw [hown, List.length_append, List.length_singleton]); clear hown; have HR4 := Aside0.mk (own_bound ho_); clear ho_ hb_ hg_ hat_)
      | ((with_reducible refine gate_callee (f := 13) rfl ?_); (try (refine gate_guard (by rfl) ?_; dsimp only)); refine goesL_ (some 20) rfl rfl Try.func13 (by kernel_rfl) rfl #[.int .i64 100] rfl (by (try simp only [List.map_toArray, List.map_cons, List.map_nil]); first | done | rfl) ?_; (refine (new_v w4 100).mono ?_); rintro en w5 ⟨gb, rfl, hx_, hg_, hb_⟩; refine ⟨_, rfl, ?_⟩; have X5 := Aside0.mk hx_; have HB5 := Aside0.mk (below_step HB4.out hb_); have GB := Aside0.mk hg_; have HR5 := Aside0.mk (Kd.R_below HR4.out hb_); have LB5 := Aside0.mk hb_.size; clear hx_ hb_ hg_)
      | ((with_reducible refine gate_callee (f := 14) rfl ?_); (try (refine gate_guard (by rfl) ?_; dsimp only)); refine goesL_ (some 21) rfl rfl Try.func14 (by kernel_rfl) rfl #[.int .i64 100] rfl (by (try simp only [List.map_toArray, List.map_cons, List.map_nil]); first | done | rfl) ?_; (refine (newr_v w5 100).mono ?_); rintro en w6 ⟨gr, rfl, hx_, hg_, hb_⟩; refine ⟨_, rfl, ?_⟩; have X6 := Aside0.mk hx_; have X5b := Aside0.mk ((X5.out.lower HB4.out.size).below hb_); have HB6 := Aside0.mk (below_step HB5.out hb_); have LB6 := Aside0.mk hb_.size; have GR := Aside0.mk hg_; have HR6 := Aside0.mk (Kd.R_below HR5.out hb_); clear hx_ hb_ hg_))
    have OC := Aside0.mk (show own.length ≤ c4 from (Kd.R_reads' HR6.out).2.1)
    have OLC := Aside0.mk (show l.length ≤ c4 by have h1 := OC.out; have h2 := ON.out; omega)
    have G4 := Aside0.mk (show g4 < w4.heap.size from Kd.R_lt HR4.out g4 rfl)
    have NE := Aside0.mk (show gb < gr from Nat.lt_of_lt_of_le (X5.out.2.1 gb rfl).2 GR.out)
    have NG := Aside0.mk (show g4 < gb ∧ g4 < gr from ⟨Nat.lt_of_lt_of_le G4.out GB.out, Nat.lt_of_lt_of_le (Nat.lt_of_lt_of_le G4.out LB5.out) GR.out⟩)
    have hct_ := cut_to (P := Try.prog) 22 29 .i64 Try.underlying22 hi29 (some ⟨g4, 0, none⟩) own.length c4 (l.length : Int) (by omega) (by have := ON.out; omega) OC.out; rw [Int.toNat_natCast] at hct_
    have LR7 := Aside0.mk (show gr < w6.heap.size from (X6.out.2.1 gr rfl).2)
    have q2 : (l.length : Int) < (own.length : Int) := by have := ON.out; omega
    have q5 : (0 : Int) ≤ (l.length : Int) := by omega
    clear HB1 HB2 HB2a HE HR3 HB3 HB4 X5 HR4 HR5 GB GR
    go_wp2_with (first
          | ((with_reducible refine gate_callee (f := 9) rfl ?_); (try (refine gate_guard (by rfl) ?_; dsimp only)); refine goesL_ (some 26) rfl rfl Try.func9 (by kernel_rfl) rfl #[.slice (some ⟨g4, 0, none⟩) l.length c4] rfl (by (try simp only [List.map_toArray, List.map_cons, List.map_nil]); first | done | rfl) ?_; (refine (latest_v k (some ⟨g4, 0, none⟩) c4 l x w6 (own_cut HOW.out HR6.out) OLC.out FX.out).mono ?_); rintro en w7 ⟨v_, rfl, _, hb_⟩; refine ⟨_, rfl, ?_⟩; have X7 := Aside0.mk (X5b.out.below hb_); have Y7 := Aside0.mk ((X6.out.lower HB5.out.size).below hb_); have HR7 := Aside0.mk (Kd.R_below HR6.out hb_); have HB7 := Aside0.mk (below_step HB6.out hb_); have L67 := Aside0.mk hb_.size; have LB7 := Aside0.mk (Nat.le_trans (Nat.le_trans LB5.out LB6.out) hb_.size); clear hb_)
          | ((with_reducible refine gate_callee (f := 15) rfl ?_); (try (refine gate_guard (by rfl) ?_; dsimp only)); refine goesL_ (some 32) rfl rfl Try.func15 (by kernel_rfl) rfl #[.pointer (some ⟨gb, 0, none⟩), .slice (some ⟨g4, 0, none⟩) l.length c4] rfl (by (try simp only [List.map_toArray, List.map_cons, List.map_nil]); first | done | rfl) ?_; (refine (Add_v w7 w.heap.size gb _ (mx 100 0) [] X7.out HB7.out.size (some ⟨g4, 0, none⟩) c4 l (own_cut HOW.out HR7.out) OLC.out wf0 WL.out LZ2.out k (l.any (badI pe0)) OK.out.bad).mono ?_); rintro en w8 ⟨rfl, T1, hx_, hu_⟩; refine ⟨_, rfl, ?_⟩; have X8 := Aside0.mk hx_; have Y8 := Aside0.mk (Y7.out.frame hu_.kept (fun k_ h1_ h2_ => by have h3_ := NE.out; omega)); have HR8 := Aside0.mk (Kd.R_kept HR7.out hu_.kept (fun k_ h1_ h2_ => by have h3_ := NG.out; omega)); have HB8 := Aside0.mk (HB7.out.trans hu_.below); have T1b := Aside0.mk (show ∀ k_, T1 k_ → k_ ≠ g4 ∧ k_ ≠ gr from fun k_ h_ => by have h1_ := hu_.new k_ h_; have h2_ := NE.out; have h3_ := NG.out; have h4_ := LR7.out; have h5_ := L67.out; omega); have LB8_ := Aside0.mk (Nat.lt_of_lt_of_le (Nat.lt_of_lt_of_le LR7.out L67.out) hu_.kept.1); clear hx_ hu_)
          | ((with_reducible refine gate_callee (f := 16) rfl ?_); (try (refine gate_guard (by rfl) ?_; dsimp only)); refine goesL_ (some 35) rfl rfl Try.func16 (by kernel_rfl) rfl #[.pointer (some ⟨gr, 0, none⟩), .slice A l.length c] rfl (by (try simp only [List.map_toArray, List.map_cons, List.map_nil]); first | done | rfl) ?_; (refine (rAdd_v w8 w.heap.size gr _ (mx 100 0) [] Y8.out HB8.out.size A c l (Kd.C_below HC.out HB8.out) k pe0 OK.out.par OK.out.new LZ2.out (l.any (badI pe0)) rfl).mono ?_); rintro en w9 ⟨rfl, T2, hx_, hu_⟩; refine ⟨_, rfl, ?_⟩; have Y9 := Aside0.mk hx_; have X9 := Aside0.mk (X8.out.frame hu_.kept (fun k_ h1_ h2_ => (T1b.out k_ h1_).2 h2_)); have HR9 := Aside0.mk (Kd.R_kept HR8.out hu_.kept (fun k_ h1_ h2_ => by have h3_ := NG.out; omega)); have HB9 := Aside0.mk (HB8.out.trans hu_.below); have T2b := Aside0.mk (show ∀ k_, T2 k_ → k_ ≠ g4 ∧ ¬ T1 k_ from fun k_ h_ => by (have h1_ := hu_.new k_ h_; refine ⟨by have h3_ := NG.out; have h4_ := LB8_.out; omega, fun h5_ => ?_⟩; rcases h1_ with h1_ | h1_; exact (T1b.out k_ h5_).2 h1_; have h6_ := (X8.out.2.1 k_ h5_).2; omega)); have z0_ : w9.cell? ⟨g4, l.length * 3, none⟩ = some (.string ⟨#[33]⟩) := own_at HOW.out HR9.out; clear hx_ hu_)
          | ((with_reducible refine gate_callee (f := 10) rfl ?_); (try (refine gate_guard (by rfl) ?_; dsimp only)); refine goesL_ (some 49) rfl rfl Try.func10 (by kernel_rfl) rfl #[.slice (some ⟨g4, 0, none⟩) l.length c4, .slice A l.length c] rfl (by (try simp only [List.map_toArray, List.map_cons, List.map_nil]); first | done | rfl) ?_; (refine (shelfmarkref13_SameIntents.calls k (some ⟨g4, 0, none⟩) c4 l A c l true w9 (own_cut HOW.out HR9.out) OLC.out (Kd.C_below HC.out HB9.out) HCC.out FS.out).mono ?_); rintro en w10 ⟨rfl, hd_⟩; refine ⟨_, rfl, ?_⟩; have hb_ := drawn_below hd_; have X10 := Aside0.mk (X9.out.below hb_); have Y10 := Aside0.mk (Y9.out.below hb_); have HR10 := Aside0.mk (Kd.R_below HR9.out hb_); have HB10 := Aside0.mk (below_step HB9.out hb_); clear hb_ hd_ z0_))
    clear hct_ X7 X8 X9 Y7 Y8 Y9 HR7 HR8 HR9 HB7 HB8 HB9 HB5 HB6 X5b X6 HR6 q2 q5
    have CS0 := Aside0.mk (show CSt w w10 (fun k => k = g4) g4 own.length c4 w10 own from ⟨Kd.R_mono HR10.out (fun k hk => .inl hk), HB10.out, Kept.refl _ _⟩)
    go_loopg [6] own.length (fun kq v6 wr => ∃ (i : Nat) (ys : List S29), v6 = .int .i64 (i : Int) ∧ Aside0 (i ≤ own.length ∧ own.length - i ≤ kq) ∧ Aside0 (CSt w w10 (fun k => k = g4) g4 own.length c4 wr ys))
    case atStart => exact ⟨0, own, rfl, ⟨Nat.zero_le _, Nat.le_refl _⟩, CS0⟩
    case round =>
      obtain ⟨i, ys, rfl, HI, HCr⟩ := hrel
      by_cases hlt : i < own.length
      · obtain ⟨⟨o0, o1, o2⟩, f0, f1, f2⟩ := HCr.out.cells i hlt
        have HP := Aside0.mk (HCr.out.put i hlt z29)
        have HIL := Aside0.mk hlt
        have q1 : decide ((i : Int) < (own.length : Int)) = true := decide_eq_true (by omega)
        have q2 : (i : Int) < (own.length : Int) := by omega
        have q5 : (0 : Int) ≤ (i : Int) := by omega
        clear hlt HCr
        go_wp2
        go_roundg (own.length - (i + 1))
        case measure => have := HI.out.2; have := HIL.out; omega
        case rel => exact ⟨i + 1, ys.set i z29, by first | rfl | (congr 1; exact Go.IntWalk.wrap64_in _ (by have h1 := LZ.out; have h2 := HIL.out; have h3 := ON.out; omega)), ⟨HIL.out, Nat.le_refl _⟩, ⟨HP.out⟩⟩
      · obtain rfl : i = own.length := by have := HI.out.1; omega
        have q1 : decide ((own.length : Int) < (own.length : Int)) = false := decide_eq_false (by omega)
        have X11 := Aside0.mk (show Box 68 wr w.heap.size T1 gb (mx 100 0) L by rw [L1.out]; exact X10.out.frame HCr.out.kept (fun k hk h2 => (T1b.out k hk).1 h2))
        have Y11 := Aside0.mk (show Box 70 wr w.heap.size T2 gr (mx 100 0) L by rw [L2.out]; exact Y10.out.frame HCr.out.kept (fun k hk h2 => (T2b.out k hk).1 h2))
        have HB11 := Aside0.mk (HCr.out.below)
        have HBw := Aside0.mk (show w.heap.size ≤ wr.heap.size from HB11.out.size)
        clear hlt HI HCr X10 Y10 HR10 HB10 CS0 L1 L2
        obtain ⟨w11, rfl⟩ : ∃ w11, w11 = wr := ⟨_, rfl⟩
        go_wp2_with (first
              | ((with_reducible refine gate_callee (f := 17) rfl ?_); (try (refine gate_guard (by rfl) ?_; dsimp only)); refine goesL_ (some 63) rfl rfl Try.func17 (by kernel_rfl) rfl #[.pointer (some ⟨gb, 0, none⟩), .int .i64 1099511627776] rfl (by (try simp only [List.map_toArray, List.map_cons, List.map_nil]); first | done | rfl) ?_; (refine (due_box w11 w.heap.size gb T1 (mx 100 0) L X11.out LL.out).mono ?_); rintro en w12 ⟨Ax, cx, rfl, hcx_, hR_, hb_⟩; refine ⟨_, rfl, ?_⟩; have X12 := Aside0.mk (X11.out.below hb_); have Y12 := Aside0.mk (Y11.out.below hb_); have HX12 := Aside0.mk hR_; have HCX := Aside0.mk hcx_; have HB12 := Aside0.mk (below_step HB11.out hb_); have HS11 := Aside0.mk (show ∀ k_, T1 k_ ∨ T2 k_ → k_ < w11.heap.size from fun k_ h_ => h_.elim (fun h_ => (X11.out.2.1 k_ h_).2) (fun h_ => (Y11.out.2.1 k_ h_).2)); clear hcx_ hR_ hb_))
        have P12 := Aside0.mk (show Pair w12 w.heap.size (fun k => T1 k ∨ T2 k) gb gr (mx 100 0) L from ⟨T1, T2, X12.out, Y12.out, fun k h1 h2 => (T2b.out k h2).2 h1, fun k => Iff.rfl⟩)
        clear X11 Y11 X12 Y12 HB11
        go_loopg [8] L.length (fun kq v8 wr2 => ∃ (i : Nat) (xs : List S29), v8 = .int .i64 (i : Int) ∧ Aside0 (i ≤ L.length ∧ L.length - i ≤ kq) ∧ Aside0 (xs.length = L.length) ∧ Aside0 (Kd.R k29 29 wr2 w11.heap.size (fun _ => True) (.slice Ax L.length cx) xs) ∧ Aside0 (Below w.heap.size w wr2) ∧ Aside0 (Kept w12 wr2 (fun k => w11.heap.size ≤ k)))
        case atStart => exact ⟨0, L, rfl, ⟨Nat.zero_le _, Nat.le_refl _⟩, ⟨rfl⟩, HX12, HB12, ⟨Kept.refl _ _⟩⟩
        case round =>
          obtain ⟨i, xs, rfl, HI, HXl, HXr, HB2r, HKr⟩ := hrel
          by_cases hlt : i < L.length
          · obtain ⟨g, co, eo, gb_, _, _⟩ := Kd.R_form HXr.out (by have := HXl.out; omega)
            injection eo with ea _ ec
            subst ea
            have GX := Aside0.mk gb_
            clear ec gb_
            obtain ⟨ce, hcl, hM, hcc, hfr⟩ := Kd.R_elem HXr.out z29 (i : Int) (by omega) (by have := HXl.out; omega)
            obtain rfl := k29_openM hM
            have c1_ : wr.cell? ⟨g, i * 3 + 1, none⟩ = some (.int .i64 (xs.getD (i : Int).toNat z29).f1) := hcc 1 _ rfl
            have f1_ : wr.frozen? ⟨g, i * 3 + 1, none⟩ = false := hfr 1
            have HP := Aside0.mk (Kd.R_seg HXr.out (i : Int) (by omega) (by have := HXl.out; omega) (seg := [.int .i64 0]) (j := 1) hcl hcc (show 1 + 1 ≤ 3 from by decide) (x' := (⟨(xs.getD (i : Int).toNat z29).f0, 0, (xs.getD (i : Int).toNat z29).f2⟩ : S29)) (k29_mkM _ _ _ _) (fun _ hk => hk)).1
            have HIL := Aside0.mk hlt
            have q1 : decide ((i : Int) < (L.length : Int)) = true := decide_eq_true (by omega)
            have q2 : (i : Int) < (L.length : Int) := by omega
            have q5 : (0 : Int) ≤ (i : Int) := by omega
            clear hlt HXr hcl hcc hfr hM
            go_wp2
            go_roundg (L.length - (i + 1))
            case measure => have := HI.out.2; have := HIL.out; omega
            case rel => exact ⟨i + 1, _, by first | rfl | (congr 1; exact Go.IntWalk.wrap64_in _ (by have h1 := LL.out; have h2 := HIL.out; omega)), ⟨HIL.out, Nat.le_refl _⟩, ⟨by rw [List.length_set]; exact HXl.out⟩, ⟨HP.out⟩, ⟨Below.setCell HB2r.out (p := ⟨g, i * 3 + 1, none⟩) (Nat.le_trans HBw.out GX.out) _⟩, ⟨kept_set HKr.out (.inl GX.out) _⟩⟩
          · obtain rfl : i = L.length := by have := HI.out.1; omega
            have q1 : decide ((L.length : Int) < (L.length : Int)) = false := decide_eq_false (by omega)
            have PRe := Aside0.mk (P12.out.frame HKr.out (fun k hk h2 => by have := HS11.out k hk; omega))
            have HXe := Aside0.mk (show Cl k29 29 wr w11.heap.size (.slice Ax L.length L.length) xs from by rw [← HXl.out]; exact cl_of (c := cx) (by rw [HXl.out]; exact HXr.out))
            have HB2e := HB2r
            clear hlt HI HXr HB2r HKr
            go_wp2_with (first
                  | ((with_reducible refine gate_builtin (b := .append) (xs := #[.tmp 74, .tmp 76]) rfl ?_); at_builtin; refine append_cl k29 (W := wr) rfl (.tmp 74) (.tmp 76) 22 29 (.agg #[(.string ⟨#[]⟩), (.int .i64 0), (.bool false)]) 32 rfl Try.underlying22 info29 rfl (by decide) (.slice Ax L.length L.length) xs [.string ⟨#[]⟩, .int .i64 0, .bool false] rfl cs29_one rfl rfl HXe.out ?aM ?aL ?_; (case aM => have h1 := LL.out; have h2 := HXl.out; unfold maxLen; omega); (case aL => have h1 := LL.out; have h2 := HXl.out; omega); intro An nn cn w13 hb_; have P13 := Aside0.mk (PRe.out.below hb_); have HB13 := Aside0.mk (below_step HB2e.out hb_); clear hb_)
                  | ((with_reducible refine gate_callee (f := 18) rfl ?_); (try (refine gate_guard (by rfl) ?_; dsimp only)); refine goesL_ (some 80) rfl rfl Try.func18 (by kernel_rfl) rfl #[.pointer (some ⟨gb, 0, none⟩), .pointer (some ⟨gr, 0, none⟩)] rfl (by (try simp only [List.map_toArray, List.map_cons, List.map_nil]); first | done | rfl) ?_; (refine (same_pair w13 w.heap.size (fun k => T1 k ∨ T2 k) gb gr (mx 100 0) L P13.out LL.out k FL.out).mono ?_); rintro en w14 ⟨rfl, hb_⟩; refine ⟨_, rfl, ?_⟩; have HB14 := Aside0.mk (below_step HB13.out hb_); clear hb_))
            go_ret
            exact ⟨rfl, HB14.out⟩
end Go.Proofs.Ytdaikljbljcagaa.Mu
namespace Go.Proofs.Ytdaikljbljcagaa.HaOutboxKeeps
open Go.RowKit Go.Proofs.Ytdaikljbljcagaa.PAll Go.Proofs.YtdaikljbljcagaaW.PrintWords Go.Proofs.YtdaikljbljcagaaW.PrintLast Go.Proofs.Ytdaikljbljcagaa.Mc Go.Proofs.Ytdaikljbljcagaa.Mu Go.Proofs.Ytdaikljbljcagaa.Pv Go.Proofs.Ytdaikljbljcagaa.Ui Go.Proofs.Ytdaikljbljcagaa.Uj Go.Proofs.Ytdaikljbljcagaa.Rs
theorem law (W : World) (A0 : Option Addr) (c0 : Nat) (l0 : List S29) (hr0 : Kd.C k29 W A0 l0.length l0) (hc0 : l0.length ≤ c0) (w0 : l0.length ≤ maxLen ∧ ∀ x ∈ l0, WF29 x) (y0 : l0.length * 32 ≤ 140737488351232) :
    Calls Try.prog 4 #[.slice A0 l0.length c0] W fun en W' => en = .returned (.bool true) ∧ Below W.heap.size W W' := by
  obtain ⟨lb, ⟨K0, h0⟩, hlb⟩ := light_ev l0 60 (by omega)
  cases lb with
  | false => exact keeps_law K0 W A0 c0 l0 hr0 hc0 false (h0 K0 (Nat.le_refl _)) [] (fun h => by cases h)
  | true =>
    obtain ⟨hlen, hsz⟩ := hlb rfl
    obtain ⟨K1, h1⟩ := latest_ev l0 (by omega)
    obtain ⟨K2, h2⟩ := same_ev l0 (by omega)
    obtain ⟨K3, h3⟩ := act_ok (mx 100 0) [] ⟨1, l0, 0, z43⟩ (by show 0 + l0.length < _; omega) (fun x hx => by have := hsz x hx; omega)
    exact keeps_law (K0 + K1 + K2 + K3) W A0 c0 l0 hr0 hc0 true (h0 _ (by omega)) _ (fun _ => ⟨hlen, h1 _ (by omega), h2 _ (by omega), fun x hx => ⟨(w0.2 x hx).1, (w0.2 x hx).2.1⟩, h3 _ (by omega)⟩)
end Go.Proofs.Ytdaikljbljcagaa.HaOutboxKeeps
