/- DERIVED. OutboxPlays answers true at all inputs. Conditions: none but those of the statement. DERIVED. OutboxCuts: the code walked. Conditions: those that each lemma names. DERIVED. OutboxCuts answers true at all inputs. Conditions: none but those of the statement. -/
import Derived.Test.YtdaikljbljcagaaMt
import Derived.Test.YtdaikljbljcagaaRs
import Derived.Test.YtdaikljbljcagaaMz
import Derived.Test.YtdaikljbljcagaaMu
namespace Go.Proofs.Ytdaikljbljcagaa.HaOutboxPlays
open Go.RowKit Go.Proofs.Ytdaikljbljcagaa.Na Go.Proofs.Ytdaikljbljcagaa.Pq Go.Proofs.Ytdaikljbljcagaa.PAll Go.Proofs.YtdaikljbljcagaaW.PrintWords Go.Proofs.YtdaikljbljcagaaW.PrintLast Go.Proofs.Ytdaikljbljcagaa.Mc Go.Proofs.Ytdaikljbljcagaa.Mt Go.Proofs.Ytdaikljbljcagaa.Pv Go.Proofs.Ytdaikljbljcagaa.Uj Go.Proofs.Ytdaikljbljcagaa.Rs
set_option linter.unusedSimpArgs false
set_option linter.unusedVariables false
theorem int_lt {a : Int} (h : (Lit.int .i64 a).wf = true) : a < 9223372036854775808 := by
  simp [Lit.wf, IntKind.wrap, IntKind.bits, IntKind.signed] at h
  omega
theorem rd45 (l : List S45) (i : Nat) (h : i < l.length) : rd_T45 l (i : Int) = l[i] := by
  unfold rd_T45
  rw [Int.toNat_natCast, List.getD_eq_getElem?_getD, List.getElem?_eq_getElem h]; rfl
theorem light_l0 (l : List S45) (hl : l.length < 4611686018427387904) (hm : ∀ a ∈ l, a.f1.length ≤ 9223372036854775807) : ∀ (s i : Nat), l.length - i ≤ s → i ≤ l.length → ∃ b, Ev (fun k => shelfmarklaw18_light.l0 k l (i : Int)) b ∧ (b = true → l.length < 60 ∧ ∀ j (h : j < l.length), i ≤ j → l[j].f1.length ≤ 30 ∧ (∀ x ∈ l[j].f1, x.f0.size ≤ 300) ∧ l[j].f3.f0.size ≤ 300 ∧ l[j].f3.f1.size ≤ 300) := by
  have fin : ∀ (i : Nat) (f : Nat → Option Bool), (∀ k, f (k + 1) = shelfmarklaw18_light.j1 k l (i : Int) false) → Ev f (decide ((l.length : Int) < 60)) := fun i f hf =>
    Ev.step hf (Ev.step (fun _ => shelfmarklaw18_light.j1.eq_2 ..) (Ev.congr (fun k => if_neg (by decide)) (Ev.now _)))
  intro s
  induction s with
  | zero =>
    intro i hs hi
    refine ⟨_, fin i _ (fun k => (shelfmarklaw18_light.l0.eq_2 ..).trans (if_neg (by omega))), fun h => ⟨by have := of_decide_eq_true h; omega, fun j h1 h2 => by omega⟩⟩
  | succ s ih =>
    intro i hs hi
    by_cases hlt : i < l.length
    · by_cases hn : i < 60
      · have go : ∀ b, Ev (fun k => shelfmarklaw18_light.j1 k l (i : Int) true) b → Ev (fun k => shelfmarklaw18_light.l0 k l (i : Int)) b := fun b h => Ev.step (fun _ => shelfmarklaw18_light.l0.eq_2 ..) (Ev.congr (fun k => by rw [if_pos (by omega), decide_eq_true (by omega)]) h)
        obtain ⟨b1, h1, h2⟩ := light_ev l[i].f1 30 (hm _ (List.getElem_mem hlt))
        have hj : ∀ (g : Nat → Bool → Option Bool) b, (∀ k t, g k t = (if t = true then (if (((rd_T45 l (i : Int)).f3.f0).size : Int) > 300 then (some false) else (if (((rd_T45 l (i : Int)).f3.f1).size : Int) > 300 then (some false) else (shelfmarklaw18_light.l0 k l (wrap64 ((i : Int) + 1))))) else (some false))) → Ev (fun k => g k b1) b → Ev (fun k => shelfmarklaw18_light.j1 k l (i : Int) true) b := by
          intro g b hg h
          refine Ev.step (fun _ => shelfmarklaw18_light.j1.eq_2 ..) (Ev.congr (fun k => ?_) (Ev.bind h1 h))
          rw [if_pos rfl, if_pos (by omega), if_pos (by omega), rd45 l i hlt]
          congr 1
          funext t
          rw [hg k t, rd45 l i hlt]
        cases b1 with
        | false => exact ⟨false, go _ (hj _ _ (fun k t => rfl) (Ev.congr (fun k => if_neg (by decide)) (Ev.now _))), fun h => by cases h⟩
        | true =>
          by_cases z1 : ((l[i].f3.f0).size : Int) > 300
          · exact ⟨false, go _ (hj _ _ (fun k t => rfl) (Ev.congr (fun k => by rw [if_pos rfl, rd45 l i hlt, if_pos z1]) (Ev.now _))), fun h => by cases h⟩
          · by_cases z2 : ((l[i].f3.f1).size : Int) > 300
            · exact ⟨false, go _ (hj _ _ (fun k t => rfl) (Ev.congr (fun k => by rw [if_pos rfl, rd45 l i hlt, if_neg z1, if_pos z2]) (Ev.now _))), fun h => by cases h⟩
            · obtain ⟨b, k1, k2⟩ := ih (i + 1) (by omega) (by omega)
              refine ⟨b, go _ (hj _ _ (fun k t => rfl) (Ev.congr (fun k => by rw [if_pos rfl, rd45 l i hlt, if_neg z1, if_neg z2, up1 (by omega)]) k1)), fun h => ⟨(k2 h).1, fun j hj2 hij => ?_⟩⟩
              by_cases e : i = j
              · subst e
                exact ⟨(h2 rfl).1, (h2 rfl).2, by omega, by omega⟩
              · exact (k2 h).2 j hj2 (by omega)
      · refine ⟨_, fin i _ (fun k => (shelfmarklaw18_light.l0.eq_2 ..).trans ((if_pos (by omega)).trans (by rw [decide_eq_false (by omega)]))), fun h => by have := of_decide_eq_true h; omega⟩
    · refine ⟨_, fin i _ (fun k => (shelfmarklaw18_light.l0.eq_2 ..).trans (if_neg (by omega))), fun h => ⟨by have := of_decide_eq_true h; omega, fun j h1 h2 => by omega⟩⟩
theorem acts_ok (mo : Int) (l : List S45) (h60 : l.length < 60) (hl : ∀ j (h : j < l.length), l[j].f1.length ≤ 30 ∧ (∀ x ∈ l[j].f1, x.f0.size ≤ 300)) (hw : ∀ a ∈ l, WfI a.f1) : ∃ N, ∀ k, N ≤ k → ActsOk k mo l := by
  have hlen : ∀ j, j ≤ l.length → (runL mo (l.take j) []).length ≤ 30 * j := by
    intro j
    induction j with
    | zero => intro _; exact Nat.le_refl _
    | succ j ih =>
      intro hj
      rw [List.take_add_one, List.getElem?_eq_getElem (by omega), Option.toList_some, runL_snoc]
      have h1 := actL_len mo (runL mo (l.take j) []) l[j]
      have h2 := ih (by omega)
      have h3 := (hl j (by omega)).1
      omega
  have hwf : ∀ j, j ≤ l.length → WfI (runL mo (l.take j) []) := by
    intro j
    induction j with
    | zero => intro _ x hx; cases hx
    | succ j ih =>
      intro hj x hx
      rw [List.take_add_one, List.getElem?_eq_getElem (by omega), Option.toList_some, runL_snoc] at hx
      rcases actL_mem mo _ _ x hx with h | h
      · exact ih (by omega) x h
      · exact hw _ (List.getElem_mem (by omega)) x h
  have hN : ∀ j (h : j < l.length), ∃ N, ∀ k, N ≤ k → ActOk k mo (runL mo (l.take j) []) l[j] := fun j h => act_ok mo _ _ (by have h1 := hlen j (by omega); have h2 := (hl j h).1; omega) (fun x hx => by have := (hl j h).2 x hx; omega)
  have hall : ∀ n, n ≤ l.length → ∃ N, ∀ k, N ≤ k → ∀ j (h : j < l.length), j < n → ActOk k mo (runL mo (l.take j) []) l[j] := by
    intro n
    induction n with
    | zero => intro _; exact ⟨0, fun k _ j h hj => by omega⟩
    | succ n ih =>
      intro hn
      obtain ⟨N, h1⟩ := ih (by omega)
      obtain ⟨M, h2⟩ := hN n (by omega)
      refine ⟨max N M, fun k hk j h hj => ?_⟩
      by_cases e : j = n
      · subst e
        exact h2 k (by omega)
      · exact h1 k (by omega) j h (by omega)
  obtain ⟨N, h⟩ := hall l.length (Nat.le_refl _)
  exact ⟨N, fun k hk => ⟨h60, fun j hj => h k hk j hj hj, fun j hj => by have h1 := hlen j (by omega); have h2 := (hl j hj).1; omega, fun j hj => hwf j (by omega), fun j hj => hw _ (List.getElem_mem hj)⟩⟩
theorem plain (most : Int) (l : List S45) (hl : l.length < 4611686018427387904) (hm : ∀ a ∈ l, a.f1.length ≤ 9223372036854775807) (hw : ∀ a ∈ l, WfI a.f1) : ∃ (k : Nat) (lb : Bool), shelfmarklaw18_light.f k l = some lb ∧ (lb = true → ActsOk k most l) := by
  obtain ⟨lb, ⟨K, h1⟩, h2⟩ := light_l0 l hl hm l.length 0 (by omega) (by omega)
  cases lb with
  | false => exact ⟨K, false, h1 K (Nat.le_refl _), fun h => by cases h⟩
  | true =>
    obtain ⟨N, h3⟩ := acts_ok most l (h2 rfl).1 (fun j h => ⟨((h2 rfl).2 j h (by omega)).1, ((h2 rfl).2 j h (by omega)).2.1⟩) hw
    exact ⟨K + N, true, h1 (K + N) (by omega), fun _ => h3 (K + N) (by omega)⟩
theorem law (W : World) (a0 : Int) (A1 : Option Addr) (c1 : Nat) (l1 : List S45) (hr1 : Kd.C k45 W A1 l1.length l1) (hc1 : l1.length ≤ c1) (w0 : (Lit.int .i64 a0).wf = true) (w1 : l1.length ≤ maxLen ∧ ∀ x ∈ l1, WF45 x) (y1 : l1.length * 72 ≤ 140737488351232) :
    Calls Try.prog 5 #[.int .i64 a0, .slice A1 l1.length c1] W fun en W' => en = .returned (.bool true) ∧ Below W.heap.size W W' := by
  have hw : ∀ a ∈ l1, WfI a.f1 := fun a ha x hx => ⟨((w1.2 a ha).2.1.2 x hx).1, ((w1.2 a ha).2.1.2 x hx).2.1⟩
  obtain ⟨k, lb, h1, h2⟩ := plain (mx a0 0) l1 (by omega) (fun a ha => (w1.2 a ha).2.1.1) hw
  exact plays_law k W a0 (int_lt w0) A1 c1 l1 hr1 hc1 lb h1 h2
end Go.Proofs.Ytdaikljbljcagaa.HaOutboxPlays
namespace Go.Proofs.Ytdaikljbljcagaa.Mv
open Go Go.RowKit Go.Proofs.Ytdaikljbljcagaa.PAll Go.Proofs.YtdaikljbljcagaaW.PrintWords Go.Proofs.YtdaikljbljcagaaW.PrintLast Go.Proofs.Ytdaikljbljcagaa.Hl Go.Proofs.Ytdaikljbljcagaa.Fv Go.Proofs.Ytdaikljbljcagaa.Mc Go.Proofs.Ytdaikljbljcagaa.Me Go.Proofs.Ytdaikljbljcagaa.Mf Go.Proofs.Ytdaikljbljcagaa.Mg Go.Proofs.Ytdaikljbljcagaa.Mh Go.Proofs.Ytdaikljbljcagaa.Mi Go.Proofs.Ytdaikljbljcagaa.Mj Go.Proofs.Ytdaikljbljcagaa.Mk Go.Proofs.Ytdaikljbljcagaa.Mm Go.Proofs.Ytdaikljbljcagaa.Mo Go.Proofs.Ytdaikljbljcagaa.Mr Go.Proofs.Ytdaikljbljcagaa.Ms Go.Proofs.Ytdaikljbljcagaa.Mt Go.Proofs.Ytdaikljbljcagaa.Mu Go.Proofs.Ytdaikljbljcagaa.Mw Go.Proofs.Ytdaikljbljcagaa.Mx Go.Proofs.Ytdaikljbljcagaa.My Go.Proofs.Ytdaikljbljcagaa.Mz Go.Proofs.Ytdaikljbljcagaa.Pn Go.Proofs.Ytdaikljbljcagaa.Pq Go.Proofs.Ytdaikljbljcagaa.Uj
set_option linter.unusedSimpArgs false
set_option linter.unusedVariables false
/-- Two pairs of boxes beside each other. -/
def Two (w : World) (base : Nat) (S T : Nat → Prop) (gb gm gc gn : Nat) (mo1 mo2 : Int) (o1 o2 : List S29) : Prop := Pair w base S gb gm mo1 o1 ∧ Pair w base T gc gn mo2 o2 ∧ ∀ k, S k → ¬ T k
section
variable {w w' : World} {base : Nat} {S S' T T' U : Nat → Prop} {gb gm gc gn : Nat} {mo1 mo2 : Int} {o1 o2 o1' o2' : List S29}
theorem Two.left (h : Two w base S T gb gm gc gn mo1 mo2 o1 o2) : Pair w base S gb gm mo1 o1 := h.1
theorem Two.right (h : Two w base S T gb gm gc gn mo1 mo2 o1 o2) : Pair w base T gc gn mo2 o2 := h.2.1
theorem Two.below (h : Two w base S T gb gm gc gn mo1 mo2 o1 o2) (hb : Below w.heap.size w w') : Two w' base S T gb gm gc gn mo1 mo2 o1 o2 := ⟨h.1.below hb, h.2.1.below hb, h.2.2⟩
theorem Two.setl (h : Two w base S T gb gm gc gn mo1 mo2 o1 o2) (hp : Pair w' base S' gb gm mo1 o1') (hu : Upd w w' base S S') : Two w' base S' T gb gm gc gn mo1 mo2 o1' o2 :=
  ⟨hp, h.2.1.frame hu.kept (fun k h1 h2 => h.2.2 k h2 h1), hu.apart h.2.2 (fun k hk => (h.2.1.bound k hk).2)⟩
theorem Two.setr (h : Two w base S T gb gm gc gn mo1 mo2 o1 o2) (hp : Pair w' base T' gc gn mo2 o2') (hu : Upd w w' base T T') : Two w' base S T' gb gm gc gn mo1 mo2 o1 o2' :=
  ⟨h.1.frame hu.kept h.2.2, hp, fun k h1 h2 => hu.apart (fun k h3 h4 => h.2.2 k h4 h3) (fun k hk => (h.1.bound k hk).2) k h2 h1⟩
theorem Two.far (h : Two w base S T gb gm gc gn mo1 mo2 o1 o2) (hk : Kept w w' U) (h1 : ∀ k, S k → ¬ U k) (h2 : ∀ k, T k → ¬ U k) : Two w' base S T gb gm gc gn mo1 mo2 o1 o2 := ⟨h.1.frame hk h1, h.2.1.frame hk h2, h.2.2⟩
end
theorem _root_.Go.Proofs.Ytdaikljbljcagaa.Ms.Pair.lower {w : World} {base base' : Nat} {S : Nat → Prop} {gb gr : Nat} {mo : Int} {l : List S29} (h : Pair w base S gb gr mo l) (hb : base' ≤ base) : Pair w base' S gb gr mo l := by
  obtain ⟨S1, S2, h1, h2, h3, h4⟩ := h
  exact ⟨S1, S2, h1.lower hb, h2.lower hb, h3, h4⟩
theorem pair_two {w w1 w2 w3 : World} {gb gr : Nat} {mo : Int} (h0 : Below w.heap.size w w1) (h1 : Box 68 w2 w1.heap.size (fun k => k = gb) gb mo []) (g1 : w1.heap.size ≤ gb) (b1 : Below w1.heap.size w1 w2) {wx : World} (hx : Below w2.heap.size w2 wx) (h2 : Box 70 w3 wx.heap.size (fun k => k = gr) gr mo []) (g2 : wx.heap.size ≤ gr) (b2 : Below wx.heap.size wx w3) :
    Pair w3 w.heap.size (fun k => k = gb ∨ k = gr) gb gr mo [] ∧ Below w.heap.size w w3 := by
  have hlt := (h1.2.1 gb rfl).2
  have hs := hx.size
  have hs0 := h0.size
  have hs1 := b1.size
  exact ⟨⟨_, _, ((h1.below hx).below b2).lower h0.size, h2.lower (by omega), fun k h1 h2 => by omega, fun k => Iff.rfl⟩, below_step (below_step (below_step h0 b1) hx) b2⟩
theorem pair_two' {w w1 w2 w3 : World} {gb gr : Nat} {mo : Int} (h0 : Below w.heap.size w w1) (h1 : Box 70 w2 w1.heap.size (fun k => k = gr) gr mo []) (g1 : w1.heap.size ≤ gr) (b1 : Below w1.heap.size w1 w2) {wx : World} (hx : Below w2.heap.size w2 wx) (h2 : Box 68 w3 wx.heap.size (fun k => k = gb) gb mo []) (g2 : wx.heap.size ≤ gb) (b2 : Below wx.heap.size wx w3) :
    Pair w3 w.heap.size (fun k => k = gb ∨ k = gr) gb gr mo [] ∧ Below w.heap.size w w3 := by
  have hlt := (h1.2.1 gr rfl).2
  have hs := hx.size
  have hs0 := h0.size
  have hs1 := b1.size
  exact ⟨⟨_, _, h2.lower (by omega), ((h1.below hx).below b2).lower h0.size, fun k h1 h2 => by omega, fun k => Iff.rfl⟩, below_step (below_step (below_step h0 b1) hx) b2⟩
theorem two_start {w w3 w4 w6 : World} {S0 T0 : Nat → Prop} {gb gm gc gn : Nat} {mo1 mo2 : Int} {o1 o2 : List S29} (h3 : w.heap.size ≤ w3.heap.size) (p : Pair w4 w3.heap.size S0 gb gm mo1 o1) (h4 : w.heap.size ≤ w4.heap.size) (q : Pair w6 w4.heap.size T0 gc gn mo2 o2) (hb : Below w4.heap.size w4 w6) : Two w6 w.heap.size S0 T0 gb gm gc gn mo1 mo2 o1 o2 :=
  ⟨(p.lower h3).below hb, q.lower h4, fun k h1 h2 => Nat.lt_irrefl _ (Nat.lt_of_lt_of_le (p.bound k h1).2 (q.bound k h2).1)⟩
theorem same_box (w : World) (b1 b2 gb gr : Nat) (S1 S2 : Nat → Prop) (mo mo' : Int) (l : List S29) (h1 : Box 68 w b1 S1 gb mo l) (h2 : Box 70 w b2 S2 gr mo l) (hz : l.length < 1000000000) (k : Nat) (hs : shelfmarkref13_SameIntents.f k l l = some true) :
    Calls Try.prog 18 #[.pointer (some ⟨gb, 0, none⟩), .pointer (some ⟨gr, 0, none⟩)] w fun en w' => en = .returned (.bool true) ∧ Below w.heap.size w w' := by
  obtain ⟨_, _, A, c, hB, hR⟩ := h1
  obtain ⟨_, _, A2, c2, hB2, hR2⟩ := h2
  exact same_v w gb gr mo l A A2 c c2 hB (Kd.R_reads' hR).2.2 (Kd.R_reads' hR).2.1 hB2 (Kd.R_reads' hR2).2.2 (Kd.R_reads' hR2).2.1 hz k hs
theorem box_len (w : World) (b1 gb : Nat) (S : Nat → Prop) (mo : Int) (l : List S29) (h : Box 68 w b1 S gb mo l) : Calls Try.prog 25 #[.pointer (some ⟨gb, 0, none⟩)] w fun en w' => en = .returned (.int .i64 (l.length : Int)) ∧ Below w.heap.size w w' := by
  obtain ⟨_, _, A, c, hB, hR⟩ := h
  exact len_v w gb mo A c l.length hB
theorem room64 {mo : Int} {n : Nat} (h0 : 0 ≤ mo) (h1 : mo < 9223372036854775808) (hn : n < 1000000000) : wrap64 (mo - (n : Int)) = mo - (n : Int) := Go.IntWalk.wrap64_in _ (by omega)
/-- All that is asked of what is cut and joined. -/
structure CutOk (k : Nat) (mo : Int) (key : S29 → ByteArray) (low : S29 → Bool) (lA lB : List S29) : Prop where
  lenA : lA.length < 1000000
  lenB : lB.length < 1000000
  wfA : WfI lA
  wfB : WfI lB
  fit : (lA.length : Int) ≤ mo
  par : ∀ x ∈ lA, ∃ r1 r2 r4, record_Parse.f k x.f0 = some (r1, r2, key x, r4)
  rpar : ∀ x ∈ lA, ∃ r1 r2 r4, shelfmarkref04_Parse.f k x.f0 = some (r1, r2, key x, r4)
  new : newF (namesF (lA.filter low)) (lA.filter (fun x => !low x)) = lA.filter (fun x => !low x)
  once : onceG (lA.filter low) (lA.filter (fun x => !low x)) = lA.filter low ++ lA.filter (fun x => !low x)
  new2 : onceG lA lB = lA ++ newF (namesF lA) lB
  nam : ∀ j (h : j < (lA.filter (fun x => !low x)).length), shelfmarkref18_Named.f k (onceG (lA.filter low) ((lA.filter (fun x => !low x)).take j)) (lA.filter (fun x => !low x))[j].f0 (lA.filter (fun x => !low x))[j].f1 (lA.filter (fun x => !low x))[j].f2 = some (namedIn (onceG (lA.filter low) ((lA.filter (fun x => !low x)).take j)) (lA.filter (fun x => !low x))[j])
  nam2 : ∀ j (h : j < lB.length), shelfmarkref18_Named.f k (onceG lA (lB.take j)) lB[j].f0 lB[j].f1 lB[j].f2 = some (namedIn (onceG lA (lB.take j)) lB[j])
  sLo : shelfmarkref13_SameIntents.f k (lA.filter low) (lA.filter low) = some true
  sHi : shelfmarkref13_SameIntents.f k (lA.filter (fun x => !low x)) (lA.filter (fun x => !low x)) = some true
  sA : shelfmarkref13_SameIntents.f k lA lA = some true
  sB : shelfmarkref13_SameIntents.f k lB lB = some true
  sJ : shelfmarkref13_SameIntents.f k (lA.filter low ++ lA.filter (fun x => !low x)) (lA.filter low ++ lA.filter (fun x => !low x)) = some true
  sJ2 : shelfmarkref13_SameIntents.f k (onceG lA lB) (onceG lA lB) = some true
set_option maxHeartbeats 16000000 in
set_option maxRecDepth 100000 in
theorem cuts_law (k : Nat) (w : World) (m0 m1 : Int) (hm0 : m0 < 9223372036854775808) (hm1 : m1 < 9223372036854775808) (A1 : Option Addr) (c1 : Nat) (l1 : List S45) (hC1 : Kd.C k45 w A1 l1.length l1) (hc1 : l1.length ≤ c1) (A2 : Option Addr) (c2 : Nat) (l2 : List S45) (hC2 : Kd.C k45 w A2 l2.length l2) (hc2 : l2.length ≤ c2) (at_ : ByteArray) (la lb : Bool) (hla : shelfmarklaw18_light.f k l1 = some la) (hlb : shelfmarklaw18_light.f k l2 = some lb) (h1 : la = true → ActsOk k (mx m0 0) l1) (h2 : lb = true → ActsOk k (mx m1 0) l2) (lA lB : List S29) (hlA : lA = runL (mx m0 0) l1 []) (hlB : lB = runL (mx m1 0) l2 []) (key : S29 → ByteArray) (low : S29 → Bool) (hlow : low = fun x => Op.bytesLess (key x).toList at_.toList) (hcut : la = true → lb = true → ¬ (at_.size : Int) > 300 → CutOk k (mx m0 0) key low lA lB) :
    Calls Try.prog 6 #[.agg #[.int .i64 m0, .int .i64 m1], .slice A1 l1.length c1, .slice A2 l2.length c2, .string at_] w fun en w' => en = .returned (.bool true) ∧ Below w.heap.size w w' := by
  have hu29 := Try.underlying29
  have hu45 := Try.underlying45
  have hu43 := Try.underlying43
  have hu47 := Try.underlying47
  have mixed : Try.prog.follows Departure.mixedOrders = true := by kernel_rfl
  have HAC := Aside0.mk hC1
  have HACC := Aside0.mk hc1
  have HAL := Aside0.mk hla
  have HBC := Aside0.mk hC2
  have HBCC := Aside0.mk hc2
  have HBL := Aside0.mk hlb
  obtain ⟨mo1, e1⟩ : ∃ mo, mo = mx m0 0 := ⟨_, rfl⟩
  obtain ⟨mo2, e2⟩ : ∃ mo, mo = mx m1 0 := ⟨_, rfl⟩
  have M10 := Aside0.mk (show 0 ≤ mo1 by rw [e1]; unfold mx; split <;> omega)
  have M11 := Aside0.mk (show mo1 < 9223372036854775808 by rw [e1]; unfold mx; split <;> omega)
  have M20 := Aside0.mk (show 0 ≤ mo2 by rw [e2]; unfold mx; split <;> omega)
  have M21 := Aside0.mk (show mo2 < 9223372036854775808 by rw [e2]; unfold mx; split <;> omega)
  have E1 := Aside0.mk e1
  have E2 := Aside0.mk e2
  rw [← e1] at h1 hlA hcut
  rw [← e2] at h2 hlB
  have HEA := Aside0.mk hlA
  have HEB := Aside0.mk hlB
  have HLW := Aside0.mk hlow
  clear hlA hlB hlow
  clear hC1 hc1 hla hC2 hc2 hlb hm0 hm1 e1 e2
  cases la with
  | false =>
    clear h1 h2 hcut
    go_enter Try.func6, Try.ntmps6
    go_wp2_with (first
          | ((with_reducible refine gate_dst (N := 4) rfl ?_); refine box_event ?hg (N := 4) ?hd (cs := #[.int .i64 m0, .int .i64 m1]) (t := 47) ?hr ?_; (case hd => rfl); (case hg => rfl); (case hr => first | (go_simp; done) | (go_simp; rfl)); intro g4 hg_ w0_ hbox_ hb_; have B4 := Aside0.mk hbox_; have HB0 := Aside0.mk hb_; clear hb_ hbox_ hg_)
          | ((with_reducible refine gate_callee (f := 7) rfl ?_); (try (refine gate_guard (by rfl) ?_; dsimp only)); refine goesL_ (some 23) rfl rfl Try.func7 (by kernel_rfl) rfl #[] rfl (by (try simp only [List.map_toArray, List.map_cons, List.map_nil]); first | done | rfl) ?_; (refine (awake_v w0_).mono ?_); rintro en w1 ⟨rfl, hb_⟩; refine ⟨_, rfl, ?_⟩; have HB1 := Aside0.mk (below_step HB0.out hb_); have B41 := Aside0.mk (blk_below B4.out hb_); clear hb_)
          | ((with_reducible refine gate_callee (f := 19) rfl ?_); (try (refine gate_guard (by rfl) ?_; dsimp only)); refine goesL_ (some 26) rfl rfl Try.func19 (by kernel_rfl) rfl #[.slice A1 l1.length c1] rfl (by (try simp only [List.map_toArray, List.map_cons, List.map_nil]); first | done | rfl) ?_; (refine (shelfmarklaw18_light.calls k A1 c1 l1 false w1 (Kd.C_below HAC.out HB1.out) HACC.out HAL.out).mono ?_); rintro en w2 ⟨rfl, hd_⟩; refine ⟨_, rfl, ?_⟩; have HB2 := Aside0.mk (below_step HB1.out (drawn_below hd_)); have B42 := Aside0.mk (blk_below B41.out (drawn_below hd_)); clear hd_))
    go_ret
    exact ⟨rfl, HB2.out⟩
  | true =>
    cases lb with
    | false =>
      clear h1 h2 hcut
      go_enter Try.func6, Try.ntmps6
      go_wp2_with (first
            | ((with_reducible refine gate_dst (N := 4) rfl ?_); refine box_event ?hg (N := 4) ?hd (cs := #[.int .i64 m0, .int .i64 m1]) (t := 47) ?hr ?_; (case hd => rfl); (case hg => rfl); (case hr => first | (go_simp; done) | (go_simp; rfl)); intro g4 hg_ w0_ hbox_ hb_; have B4 := Aside0.mk hbox_; have HB0 := Aside0.mk hb_; clear hb_ hbox_ hg_)
            | ((with_reducible refine gate_callee (f := 7) rfl ?_); (try (refine gate_guard (by rfl) ?_; dsimp only)); refine goesL_ (some 23) rfl rfl Try.func7 (by kernel_rfl) rfl #[] rfl (by (try simp only [List.map_toArray, List.map_cons, List.map_nil]); first | done | rfl) ?_; (refine (awake_v w0_).mono ?_); rintro en w1 ⟨rfl, hb_⟩; refine ⟨_, rfl, ?_⟩; have HB1 := Aside0.mk (below_step HB0.out hb_); have B41 := Aside0.mk (blk_below B4.out hb_); clear hb_)
            | ((with_reducible refine gate_callee (f := 19) rfl ?_); (try (refine gate_guard (by rfl) ?_; dsimp only)); refine goesL_ (some 26) rfl rfl Try.func19 (by kernel_rfl) rfl #[.slice A1 l1.length c1] rfl (by (try simp only [List.map_toArray, List.map_cons, List.map_nil]); first | done | rfl) ?_; (refine (shelfmarklaw18_light.calls k A1 c1 l1 true w1 (Kd.C_below HAC.out HB1.out) HACC.out HAL.out).mono ?_); rintro en w2 ⟨rfl, hd_⟩; refine ⟨_, rfl, ?_⟩; have HB2 := Aside0.mk (below_step HB1.out (drawn_below hd_)); have B42 := Aside0.mk (blk_below B41.out (drawn_below hd_)); clear hd_)
            | ((with_reducible refine gate_callee (f := 19) rfl ?_); (try (refine gate_guard (by rfl) ?_; dsimp only)); refine goesL_ (some 30) rfl rfl Try.func19 (by kernel_rfl) rfl #[.slice A2 l2.length c2] rfl (by (try simp only [List.map_toArray, List.map_cons, List.map_nil]); first | done | rfl) ?_; (refine (shelfmarklaw18_light.calls k A2 c2 l2 false w2 (Kd.C_below HBC.out HB2.out) HBCC.out HBL.out).mono ?_); rintro en w3 ⟨rfl, hd_⟩; refine ⟨_, rfl, ?_⟩; have HB3 := Aside0.mk (below_step HB2.out (drawn_below hd_)); have B43 := Aside0.mk (blk_below B42.out (drawn_below hd_)); clear hd_))
      go_ret
      exact ⟨rfl, HB3.out⟩
    | true =>
      have H1 := Aside0.mk (h1 rfl)
      have H2 := Aside0.mk (h2 rfl)
      clear h1 h2
      by_cases hs : (at_.size : Int) > 300
      · have q1 : decide ((at_.size : Int) > 300) = true := decide_eq_true hs
        clear hs hcut
        go_enter Try.func6, Try.ntmps6
        go_wp2_with (first
              | ((with_reducible refine gate_dst (N := 4) rfl ?_); refine box_event ?hg (N := 4) ?hd (cs := #[.int .i64 m0, .int .i64 m1]) (t := 47) ?hr ?_; (case hd => rfl); (case hg => rfl); (case hr => first | (go_simp; done) | (go_simp; rfl)); intro g4 hg_ w0_ hbox_ hb_; have B4 := Aside0.mk hbox_; have HB0 := Aside0.mk hb_; clear hb_ hbox_ hg_)
              | ((with_reducible refine gate_callee (f := 7) rfl ?_); (try (refine gate_guard (by rfl) ?_; dsimp only)); refine goesL_ (some 23) rfl rfl Try.func7 (by kernel_rfl) rfl #[] rfl (by (try simp only [List.map_toArray, List.map_cons, List.map_nil]); first | done | rfl) ?_; (refine (awake_v w0_).mono ?_); rintro en w1 ⟨rfl, hb_⟩; refine ⟨_, rfl, ?_⟩; have HB1 := Aside0.mk (below_step HB0.out hb_); have B41 := Aside0.mk (blk_below B4.out hb_); clear hb_)
              | ((with_reducible refine gate_callee (f := 19) rfl ?_); (try (refine gate_guard (by rfl) ?_; dsimp only)); refine goesL_ (some 26) rfl rfl Try.func19 (by kernel_rfl) rfl #[.slice A1 l1.length c1] rfl (by (try simp only [List.map_toArray, List.map_cons, List.map_nil]); first | done | rfl) ?_; (refine (shelfmarklaw18_light.calls k A1 c1 l1 true w1 (Kd.C_below HAC.out HB1.out) HACC.out HAL.out).mono ?_); rintro en w2 ⟨rfl, hd_⟩; refine ⟨_, rfl, ?_⟩; have HB2 := Aside0.mk (below_step HB1.out (drawn_below hd_)); have B42 := Aside0.mk (blk_below B41.out (drawn_below hd_)); clear hd_)
              | ((with_reducible refine gate_callee (f := 19) rfl ?_); (try (refine gate_guard (by rfl) ?_; dsimp only)); refine goesL_ (some 30) rfl rfl Try.func19 (by kernel_rfl) rfl #[.slice A2 l2.length c2] rfl (by (try simp only [List.map_toArray, List.map_cons, List.map_nil]); first | done | rfl) ?_; (refine (shelfmarklaw18_light.calls k A2 c2 l2 true w2 (Kd.C_below HBC.out HB2.out) HBCC.out HBL.out).mono ?_); rintro en w3 ⟨rfl, hd_⟩; refine ⟨_, rfl, ?_⟩; have HB3 := Aside0.mk (below_step HB2.out (drawn_below hd_)); have B43 := Aside0.mk (blk_below B42.out (drawn_below hd_)); clear hd_))
        go_ret
        exact ⟨rfl, HB3.out⟩
      · have q1 : decide ((at_.size : Int) > 300) = false := decide_eq_false hs
        have OKC := Aside0.mk (hcut rfl rfl hs)
        clear hs hcut
        go_enter Try.func6, Try.ntmps6
        go_upto_region 5 with (first
          | ((with_reducible refine gate_dst (N := 4) rfl ?_); refine box_event ?hg (N := 4) ?hd (cs := #[.int .i64 m0, .int .i64 m1]) (t := 47) ?hr ?_; (case hd => rfl); (case hg => rfl); (case hr => first | (go_simp; done) | (go_simp; rfl)); intro g4 hg_ w0_ hbox_ hb_; have B4 := Aside0.mk hbox_; have HB0 := Aside0.mk hb_; clear hb_ hbox_ hg_)
          | ((with_reducible refine gate_callee (f := 7) rfl ?_); (try (refine gate_guard (by rfl) ?_; dsimp only)); refine goesL_ (some 23) rfl rfl Try.func7 (by kernel_rfl) rfl #[] rfl (by (try simp only [List.map_toArray, List.map_cons, List.map_nil]); first | done | rfl) ?_; (refine (awake_v w0_).mono ?_); rintro en w1 ⟨rfl, hb_⟩; refine ⟨_, rfl, ?_⟩; have HB1 := Aside0.mk (below_step HB0.out hb_); have B41 := Aside0.mk (blk_below B4.out hb_); clear hb_)
          | ((with_reducible refine gate_callee (f := 19) rfl ?_); (try (refine gate_guard (by rfl) ?_; dsimp only)); refine goesL_ (some 26) rfl rfl Try.func19 (by kernel_rfl) rfl #[.slice A1 l1.length c1] rfl (by (try simp only [List.map_toArray, List.map_cons, List.map_nil]); first | done | rfl) ?_; (refine (shelfmarklaw18_light.calls k A1 c1 l1 true w1 (Kd.C_below HAC.out HB1.out) HACC.out HAL.out).mono ?_); rintro en w2 ⟨rfl, hd_⟩; refine ⟨_, rfl, ?_⟩; have HB2 := Aside0.mk (below_step HB1.out (drawn_below hd_)); have B42 := Aside0.mk (blk_below B41.out (drawn_below hd_)); clear hd_)
          | ((with_reducible refine gate_callee (f := 19) rfl ?_); (try (refine gate_guard (by rfl) ?_; dsimp only)); refine goesL_ (some 30) rfl rfl Try.func19 (by kernel_rfl) rfl #[.slice A2 l2.length c2] rfl (by (try simp only [List.map_toArray, List.map_cons, List.map_nil]); first | done | rfl) ?_; (refine (shelfmarklaw18_light.calls k A2 c2 l2 true w2 (Kd.C_below HBC.out HB2.out) HBCC.out HBL.out).mono ?_); rintro en w3 ⟨rfl, hd_⟩; refine ⟨_, rfl, ?_⟩; have HB3 := Aside0.mk (below_step HB2.out (drawn_below hd_)); have B43 := Aside0.mk (blk_below B42.out (drawn_below hd_)); clear hd_))
        clear q1
        go_cut [9, 10] from 23 to 43 (fun v9 v10 wc => ∃ (gb gm : Nat) (S0 : Nat → Prop), v9 = .pointer (some ⟨gb, 0, none⟩) ∧ v10 = .pointer (some ⟨gm, 0, none⟩) ∧ Aside0 (Pair wc w3.heap.size S0 gb gm (mx m0 0) [] ∧ Below w3.heap.size w3 wc))
        case first =>
          go_region_held3 (fun W : World => W.cell? ⟨g4, 0, none⟩ = some (.int .i64 m0)) (exact (blk_cell (by with_reducible repeat (first | exact B43.out | refine blk_drewN ?_ _ | refine blk_drew ?_ | refine blk_below ?_ B13.out | refine blk_below ?_ B14.out)) 0).trans rfl) (first
            | (go_at_call 13; (refine (new_v _ m0).mono ?_); rintro en wv ⟨gb, rfl, hx_, hg_, hb_⟩; have X13 := Aside0.mk hx_; have G13 := Aside0.mk hg_; have B13 := Aside0.mk hb_; clear hx_ hg_ hb_)
            | (go_at_call 14; (refine (newr_v _ m0).mono ?_); rintro en wu ⟨gr, rfl, hx_, hg_, hb_⟩; have X14 := Aside0.mk hx_; have G14 := Aside0.mk hg_; have B14 := Aside0.mk hb_; clear hx_ hg_ hb_))
          all_goals (try go_wp2)
          all_goals go_meet
          all_goals (case rel => first
              | exact ⟨_, _, _, rfl, rfl, ⟨pair_two (w := w3) (by with_reducible repeat (first | exact Below.refl _ _ | refine below_drew ?_ | refine pw_below_drewN ?_ _)) X13.out G13.out B13.out (by with_reducible repeat (first | exact Below.refl _ _ | refine below_drew ?_ | refine pw_below_drewN ?_ _)) X14.out G14.out B14.out⟩⟩
              | exact ⟨_, _, _, rfl, rfl, ⟨pair_two' (w := w3) (by with_reducible repeat (first | exact Below.refl _ _ | refine below_drew ?_ | refine pw_below_drewN ?_ _)) X14.out G14.out B14.out (by with_reducible repeat (first | exact Below.refl _ _ | refine below_drew ?_ | refine pw_below_drewN ?_ _)) X13.out G13.out B13.out⟩⟩)
        case rest =>
          obtain ⟨gb, gm, S0, rfl, rfl, HQ⟩ := hcut
          rw [← E1.out] at HQ
          have B44 := Aside0.mk (blk_below B43.out HQ.out.2)
          go_upto_region 6 with (fail)
          obtain ⟨w4, hw4⟩ : ∃ w4, w4 = wc := ⟨_, rfl⟩
          subst hw4
          go_cut [11, 12] from 44 to 49 (fun v11 v12 wc => ∃ (gc gn : Nat) (T0 : Nat → Prop), v11 = .pointer (some ⟨gc, 0, none⟩) ∧ v12 = .pointer (some ⟨gn, 0, none⟩) ∧ Aside0 (Pair wc w4.heap.size T0 gc gn (mx m1 0) [] ∧ Below w4.heap.size w4 wc))
          case first =>
            go_region_held3 (fun W : World => W.cell? ⟨g4, 1, none⟩ = some (.int .i64 m1)) (exact (blk_cell (by with_reducible repeat (first | exact B44.out | refine blk_drewN ?_ _ | refine blk_drew ?_ | refine blk_below ?_ B13.out | refine blk_below ?_ B14.out)) 1).trans rfl) (first
              | (go_at_call 13; (refine (new_v _ m1).mono ?_); rintro en wv ⟨gb, rfl, hx_, hg_, hb_⟩; have X13 := Aside0.mk hx_; have G13 := Aside0.mk hg_; have B13 := Aside0.mk hb_; clear hx_ hg_ hb_)
              | (go_at_call 14; (refine (newr_v _ m1).mono ?_); rintro en wu ⟨gr, rfl, hx_, hg_, hb_⟩; have X14 := Aside0.mk hx_; have G14 := Aside0.mk hg_; have B14 := Aside0.mk hb_; clear hx_ hg_ hb_))
            all_goals (try go_wp2)
            all_goals go_meet
            all_goals (case rel => first
                | exact ⟨_, _, _, rfl, rfl, ⟨pair_two (w := w4) (by with_reducible repeat (first | exact Below.refl _ _ | refine below_drew ?_ | refine pw_below_drewN ?_ _)) X13.out G13.out B13.out (by with_reducible repeat (first | exact Below.refl _ _ | refine below_drew ?_ | refine pw_below_drewN ?_ _)) X14.out G14.out B14.out⟩⟩
                | exact ⟨_, _, _, rfl, rfl, ⟨pair_two' (w := w4) (by with_reducible repeat (first | exact Below.refl _ _ | refine below_drew ?_ | refine pw_below_drewN ?_ _)) X14.out G14.out B14.out (by with_reducible repeat (first | exact Below.refl _ _ | refine below_drew ?_ | refine pw_below_drewN ?_ _)) X13.out G13.out B13.out⟩⟩)
          case rest =>
            obtain ⟨gc, gn, T0, rfl, rfl, HR⟩ := hcut
            rw [← E2.out] at HR
            have HB4 := Aside0.mk (below_step HB3.out HQ.out.2)
            have HB6 := Aside0.mk (below_step HB4.out HR.out.2)
            have HT6 := Aside0.mk (two_start HB3.out.size HQ.out.1 HB4.out.size HR.out.1 HR.out.2)
            clear HB0 HB1 HB2 HB3 HB4 B4 B41 B42 B43 B44 HQ HR
            go_wp2
            go_loopg [13] l1.length (fun kq v_ wr => ∃ (j : Nat) (Sj : Nat → Prop), v_ = .int .i64 (j : Int) ∧ Aside0 (j ≤ l1.length ∧ l1.length - j ≤ kq) ∧ Aside0 (Below w.heap.size w wr) ∧ Aside0 (Two wr w.heap.size Sj T0 gb gm gc gn mo1 mo2 (runL mo1 (l1.take j) []) []))
            case atStart => exact ⟨0, _, rfl, ⟨Nat.zero_le _, Nat.le_refl _⟩, HB6, HT6⟩
            case round =>
              obtain ⟨j, Sj, rfl, HI, HBr, HPr⟩ := hrel
              by_cases hlt : j < l1.length
              · obtain ⟨ad, Ap, cp, hA, hx0, hx1, hx2, hx3, hx4, hm1, hc1⟩ := at_T45 HAC.out (j : Int) (by omega) (by omega)
                rw [rd45_at l1 j hlt, Int.toNat_natCast] at hx0 hx1 hx2 hx3 hx4
                rw [rd45_at l1 j hlt] at hm1 hc1
                obtain ⟨p_, hp_⟩ : ∃ p_, p_ = l1[j] := ⟨_, rfl⟩
                obtain ⟨o, ho⟩ : ∃ o, o = runL mo1 (l1.take j) [] := ⟨_, rfl⟩
                have OK := Aside0.mk (show ActOk k mo1 o p_ by rw [ho, hp_]; exact H1.out.ok j hlt)
                have WO := Aside0.mk (show WfI o by rw [ho]; exact H1.out.wf j hlt)
                have WP := Aside0.mk (show WfI p_.f1 by rw [hp_]; exact H1.out.wf1 j hlt)
                have LS := Aside0.mk (show o.length + p_.f1.length < 1000000000 by rw [ho, hp_]; have := H1.out.size j hlt; omega)
                have HSn := Aside0.mk (show runL mo1 (l1.take (j + 1)) [] = actL mo1 o p_ by rw [List.take_add_one, List.getElem?_eq_getElem hlt, Option.toList_some, runL_snoc, ho, hp_])
                rw [← ho] at HPr
                rw [← hp_] at hx0 hx1 hx2 hx3 hx4 hm1 hc1
                have HM1 := Aside0.mk hc1
                have HMC1 := Aside0.mk hm1
                replace hx0 := pw_cell_below HBr.out hx0
                replace hx1 := pw_cell_below HBr.out hx1
                replace hx2 := pw_cell_below HBr.out hx2
                replace hx3 := pw_cell_below HBr.out hx3
                replace hx4 := pw_cell_below HBr.out hx4
                have q1 : decide ((j : Int) < (l1.length : Int)) = true := decide_eq_true (by omega)
                have q2 : (j : Int) < (l1.length : Int) := by omega
                have HIL := Aside0.mk (show j < l1.length from hlt)
                subst hA
                clear hp_ hlt ho hm1 hc1
                go_wp2_with (first
                      | ((with_reducible refine gate_callee (f := 20) rfl ?_); (try (refine gate_guard (by rfl) ?_; dsimp only)); refine goesL_ (some 62) rfl rfl Try.func20 (by kernel_rfl) rfl #[.pointer (some ⟨gb, 0, none⟩), .pointer (some ⟨gm, 0, none⟩), .agg #[.int .i64 p_.f0, .slice Ap p_.f1.length cp, .int .i64 p_.f2, .string p_.f3.f0, .string p_.f3.f1]] rfl (by (try simp only [List.map_toArray, List.map_cons, List.map_nil]); first | done | rfl) ?_; (refine (do_v w wr HBr.out gb gm Sj mo1 o HPr.out.left p_ Ap cp HM1.out HMC1.out WO.out WP.out LS.out M10.out M11.out k OK.out).mono ?_); rintro en w5 ⟨rfl, S5, hp_, hu_⟩; refine ⟨_, rfl, ?_⟩; have P5 := Aside0.mk (HPr.out.setl hp_ hu_); have HB5 := Aside0.mk (HBr.out.trans hu_.below); clear hp_ hu_ hx0 hx1 hx2 hx3 hx4))
                go_roundg (l1.length - (j + 1))
                case measure => have := HI.out.2; have := HIL.out; omega
                case rel => exact ⟨j + 1, S5, by first | rfl | (congr 1; exact Go.IntWalk.wrap64_in _ (by have h1 := H1.out.len; have h2 := HIL.out; omega)), ⟨HIL.out, Nat.le_refl _⟩, HB5, ⟨by rw [HSn.out]; exact P5.out⟩⟩
              · obtain rfl : j = l1.length := by have := HI.out.1; omega
                have q1 : decide ((l1.length : Int) < (l1.length : Int)) = false := decide_eq_false (by omega)
                clear hlt HI
                rw [List.take_length] at HPr
                obtain ⟨w7, rfl⟩ : ∃ w7, w7 = wr := ⟨_, rfl⟩
                rw [← HEA.out] at HPr
                obtain ⟨SA, rfl⟩ : ∃ SA, SA = Sj := ⟨_, rfl⟩
                have HBx := HBr
                have HTx := HPr
                clear HBr HPr HB6 HT6
                go_wp2
                go_loopg [14] l2.length (fun kq v_ wr => ∃ (j : Nat) (Sj : Nat → Prop), v_ = .int .i64 (j : Int) ∧ Aside0 (j ≤ l2.length ∧ l2.length - j ≤ kq) ∧ Aside0 (Below w.heap.size w wr) ∧ Aside0 (Two wr w.heap.size SA Sj gb gm gc gn mo1 mo2 lA (runL mo2 (l2.take j) [])))
                case atStart => exact ⟨0, _, rfl, ⟨Nat.zero_le _, Nat.le_refl _⟩, HBx, HTx⟩
                case round =>
                  obtain ⟨j, Sj, rfl, HI, HBr, HPr⟩ := hrel
                  by_cases hlt : j < l2.length
                  · obtain ⟨ad, Ap, cp, hA, hx0, hx1, hx2, hx3, hx4, hm1, hc1⟩ := at_T45 HBC.out (j : Int) (by omega) (by omega)
                    rw [rd45_at l2 j hlt, Int.toNat_natCast] at hx0 hx1 hx2 hx3 hx4
                    rw [rd45_at l2 j hlt] at hm1 hc1
                    obtain ⟨p_, hp_⟩ : ∃ p_, p_ = l2[j] := ⟨_, rfl⟩
                    obtain ⟨o, ho⟩ : ∃ o, o = runL mo2 (l2.take j) [] := ⟨_, rfl⟩
                    have OK := Aside0.mk (show ActOk k mo2 o p_ by rw [ho, hp_]; exact H2.out.ok j hlt)
                    have WO := Aside0.mk (show WfI o by rw [ho]; exact H2.out.wf j hlt)
                    have WP := Aside0.mk (show WfI p_.f1 by rw [hp_]; exact H2.out.wf1 j hlt)
                    have LS := Aside0.mk (show o.length + p_.f1.length < 1000000000 by rw [ho, hp_]; have := H2.out.size j hlt; omega)
                    have HSn := Aside0.mk (show runL mo2 (l2.take (j + 1)) [] = actL mo2 o p_ by rw [List.take_add_one, List.getElem?_eq_getElem hlt, Option.toList_some, runL_snoc, ho, hp_])
                    rw [← ho] at HPr
                    rw [← hp_] at hx0 hx1 hx2 hx3 hx4 hm1 hc1
                    have HM1 := Aside0.mk hc1
                    have HMC1 := Aside0.mk hm1
                    replace hx0 := pw_cell_below HBr.out hx0
                    replace hx1 := pw_cell_below HBr.out hx1
                    replace hx2 := pw_cell_below HBr.out hx2
                    replace hx3 := pw_cell_below HBr.out hx3
                    replace hx4 := pw_cell_below HBr.out hx4
                    have q1 : decide ((j : Int) < (l2.length : Int)) = true := decide_eq_true (by omega)
                    have q2 : (j : Int) < (l2.length : Int) := by omega
                    have HIL := Aside0.mk (show j < l2.length from hlt)
                    subst hA
                    clear hp_ hlt ho hm1 hc1
                    go_wp2_with (first
                          | ((with_reducible refine gate_callee (f := 20) rfl ?_); (try (refine gate_guard (by rfl) ?_; dsimp only)); refine goesL_ (some 75) rfl rfl Try.func20 (by kernel_rfl) rfl #[.pointer (some ⟨gc, 0, none⟩), .pointer (some ⟨gn, 0, none⟩), .agg #[.int .i64 p_.f0, .slice Ap p_.f1.length cp, .int .i64 p_.f2, .string p_.f3.f0, .string p_.f3.f1]] rfl (by (try simp only [List.map_toArray, List.map_cons, List.map_nil]); first | done | rfl) ?_; (refine (do_v w wr HBr.out gc gn Sj mo2 o HPr.out.right p_ Ap cp HM1.out HMC1.out WO.out WP.out LS.out M20.out M21.out k OK.out).mono ?_); rintro en w5 ⟨rfl, S5, hp_, hu_⟩; refine ⟨_, rfl, ?_⟩; have P5 := Aside0.mk (HPr.out.setr hp_ hu_); have HB5 := Aside0.mk (HBr.out.trans hu_.below); clear hp_ hu_ hx0 hx1 hx2 hx3 hx4))
                    go_roundg (l2.length - (j + 1))
                    case measure => have := HI.out.2; have := HIL.out; omega
                    case rel => exact ⟨j + 1, S5, by first | rfl | (congr 1; exact Go.IntWalk.wrap64_in _ (by have h1 := H2.out.len; have h2 := HIL.out; omega)), ⟨HIL.out, Nat.le_refl _⟩, HB5, ⟨by rw [HSn.out]; exact P5.out⟩⟩
                  · obtain rfl : j = l2.length := by have := HI.out.1; omega
                    have q1 : decide ((l2.length : Int) < (l2.length : Int)) = false := decide_eq_false (by omega)
                    clear hlt HI
                    rw [List.take_length] at HPr
                    obtain ⟨w8, rfl⟩ : ∃ w8, w8 = wr := ⟨_, rfl⟩
                    rw [← HEB.out] at HPr
                    obtain ⟨Sb, Sm, xb, xm, -, -⟩ := HPr.out.1
                    obtain ⟨Sc, Sn, xc, xn, -, -⟩ := HPr.out.2.1
                    have XB8 := Aside0.mk xb
                    have XM8 := Aside0.mk xm
                    have XC8 := Aside0.mk xc
                    have XN8 := Aside0.mk xn
                    have BB8 := Aside0.mk (Below.refl w8.heap.size w8)
                    have SZ8 := Aside0.mk HBr.out.size
                    have HB8 := HBr
                    clear HBr HPr HBx HTx xb xm xc xn
                    obtain ⟨lo, elo⟩ : ∃ lo, lo = lA.filter low := ⟨_, rfl⟩
                    obtain ⟨hi, ehi⟩ : ∃ hi, hi = lA.filter (fun x => !low x) := ⟨_, rfl⟩
                    obtain ⟨J, eJ⟩ : ∃ J, J = lo ++ hi := ⟨_, rfl⟩
                    obtain ⟨J2, eJ2⟩ : ∃ J2, J2 = onceG lA lB := ⟨_, rfl⟩
                    obtain ⟨k1, k2, k3, k4, k5, k6, k7, k8, k9, k10, k11, k12, k13, k14, k15, k16, k17, k18⟩ := OKC.out
                    have k19 := filter_len low lA
                    rw [← elo, ← ehi] at k8 k9 k11 k17 k19
                    rw [← elo] at k13
                    rw [← ehi] at k14
                    rw [← eJ] at k9 k17
                    rw [← eJ2] at k10 k18
                    have HK1 := Aside0.mk k6
                    have HK2 := Aside0.mk k7
                    have ELO := Aside0.mk elo
                    have EHI := Aside0.mk ehi
                    have LA := Aside0.mk (show lA.length < 1000000000 by omega)
                    have LB := Aside0.mk (show lB.length < 1000000000 by omega)
                    have LAB := Aside0.mk (show lA.length + lB.length < 1000000000 by omega)
                    have LLO := Aside0.mk (show lo.length < 1000000000 by omega)
                    have LHI := Aside0.mk (show hi.length < 1000000000 by omega)
                    have LJ := Aside0.mk (show lo.length + hi.length < 1000000000 by omega)
                    have EJL := Aside0.mk (show J.length = lA.length by rw [eJ, List.length_append]; omega)
                    have LJJ := Aside0.mk (show J.length < 1000000000 by have := EJL.out; omega)
                    have LJ2 := Aside0.mk (show J2.length < 1000000000 by have := onceG_len lA lB; rw [eJ2]; omega)
                    have WLA := Aside0.mk k3
                    have WLB := Aside0.mk k4
                    have WLO := Aside0.mk (show WfI lo from fun x hx => k3 x (by rw [elo] at hx; exact (List.mem_filter.1 hx).1))
                    have WHI := Aside0.mk (show WfI hi from fun x hx => k3 x (by rw [ehi] at hx; exact (List.mem_filter.1 hx).1))
                    have WJ2 := Aside0.mk (show WfI J2 from fun x hx => (onceG_mem x lB lA (by rw [← eJ2]; exact hx)).elim (k3 x) (k4 x))
                    have FJ := Aside0.mk (show false = true ↔ ((newF (namesF lo) hi).length : Int) > wrap64 (mo1 - (lo.length : Int)) from ⟨fun h => by (cases h), fun h => by (rw [k8, room64 M10.out M11.out (by omega)] at h; omega)⟩)
                    have EJ := Aside0.mk (show lo ++ newF (namesF lo) hi = J by rw [k8, eJ])
                    have ER := Aside0.mk k9
                    have FR := Aside0.mk (show false = true ↔ ((onceG lo hi).length : Int) > mo1 from ⟨fun h => by (cases h), fun h => by (rw [k9, EJL.out] at h; omega)⟩)
                    have HN1 := Aside0.mk k11
                    have HN2 := Aside0.mk k12
                    have SLO := Aside0.mk k13
                    have SHI := Aside0.mk k14
                    have SLA := Aside0.mk k15
                    have SLB := Aside0.mk k16
                    have SJ := Aside0.mk k17
                    have SJ2 := Aside0.mk k18
                    have EJ2 := Aside0.mk k10
                    have ER2 := Aside0.mk eJ2
                    obtain ⟨fl, hfl⟩ : ∃ fl, fl = decide ((J2.length : Int) > mo1) := ⟨_, rfl⟩
                    have FR2 := Aside0.mk (show fl = true ↔ ((onceG lA lB).length : Int) > mo1 by rw [hfl, ← eJ2]; exact decide_eq_true_iff)
                    have FJ2 := Aside0.mk (show fl = true ↔ ((newF (namesF lA) lB).length : Int) > wrap64 (mo1 - (lA.length : Int)) by
                      rw [hfl, decide_eq_true_iff, room64 M10.out M11.out (by omega), k10, List.length_append]
                      omega)
                    clear k1 k2 k3 k4 k5 k6 k7 k8 k9 k10 k11 k12 k13 k14 k15 k16 k17 k18 k19 elo ehi eJ eJ2 hfl OKC HAL HBL H1 H2 HAC HBC HACC HBCC HEA HEB
                    cases fl with
                    | true =>
                      go_wp2_with (first
                            | ((with_reducible refine gate_callee (f := 21) rfl ?_); (try (refine gate_guard (by rfl) ?_; dsimp only)); refine goesL_ (some 79) rfl rfl Try.func21 (by kernel_rfl) rfl #[.pointer (some ⟨gb, 0, none⟩), .string at_] rfl (by (try simp only [List.map_toArray, List.map_cons, List.map_nil]); first | done | rfl) ?_; (refine (Cut_v w8 w.heap.size gb Sb mo1 lA XB8.out SZ8.out at_ LA.out k key HK1.out low HLW.out).mono ?_); rintro en w9 ⟨gx, gy, Sx, Sy, rfl, hx_, hy_, _, hb_⟩; refine ⟨_, rfl, ?_⟩; rw [← ELO.out] at hx_; rw [← EHI.out] at hy_; have X9 := Aside0.mk hx_; have Y9 := Aside0.mk hy_; have LX := Aside0.mk (show ∀ k_, Sx k_ → k_ < w9.heap.size from fun k_ h_ => (hx_.2.1 k_ h_).2); have XB9 := Aside0.mk (XB8.out.below hb_); have XM9 := Aside0.mk (XM8.out.below hb_); have XC9 := Aside0.mk (XC8.out.below hb_); have XN9 := Aside0.mk (XN8.out.below hb_); have BB9 := Aside0.mk (below_step BB8.out hb_); have SZ9 := Aside0.mk (Nat.le_trans SZ8.out hb_.size); have S99 := Aside0.mk (Nat.le_refl w9.heap.size); clear hb_ hx_ hy_)
                            | ((with_reducible refine gate_callee (f := 22) rfl ?_); (try (refine gate_guard (by rfl) ?_; dsimp only)); refine goesL_ (some 85) rfl rfl Try.func22 (by kernel_rfl) rfl #[.pointer (some ⟨gm, 0, none⟩), .string at_] rfl (by (try simp only [List.map_toArray, List.map_cons, List.map_nil]); first | done | rfl) ?_; (refine (rCut_v w9 w.heap.size gm Sm mo1 lA XM9.out SZ9.out at_ LA.out k key HK2.out low HLW.out).mono ?_); rintro en w10 ⟨gu, gv, Su, Sv, rfl, hx_, hy_, _, hb_⟩; refine ⟨_, rfl, ?_⟩; rw [← ELO.out] at hx_; rw [← EHI.out] at hy_; have U10 := Aside0.mk (hx_.lower BB9.out.size); have V10 := Aside0.mk (hy_.lower BB9.out.size); have XB10 := Aside0.mk (XB9.out.below hb_); have XM10 := Aside0.mk (XM9.out.below hb_); have XC10 := Aside0.mk (XC9.out.below hb_); have XN10 := Aside0.mk (XN9.out.below hb_); have X10 := Aside0.mk (X9.out.below hb_); have Y10 := Aside0.mk (Y9.out.below hb_); have BB10 := Aside0.mk (below_step BB9.out hb_); have SZ10 := Aside0.mk (Nat.le_trans SZ9.out hb_.size); have S910 := Aside0.mk (Nat.le_trans S99.out hb_.size); clear hb_ hx_ hy_)
                            | ((with_reducible refine gate_callee (f := 18) rfl ?_); (try (refine gate_guard (by rfl) ?_; dsimp only)); refine goesL_ (some 90) rfl rfl Try.func18 (by kernel_rfl) rfl #[.pointer (some ⟨gx, 0, none⟩), .pointer (some ⟨gu, 0, none⟩)] rfl (by (try simp only [List.map_toArray, List.map_cons, List.map_nil]); first | done | rfl) ?_; (refine (same_box w10 _ _ gx gu _ _ mo1 mo1 lo X10.out U10.out LLO.out k SLO.out).mono ?_); rintro en w11 ⟨rfl, hb_⟩; refine ⟨_, rfl, ?_⟩; have XB11 := Aside0.mk (XB10.out.below hb_); have XM11 := Aside0.mk (XM10.out.below hb_); have XC11 := Aside0.mk (XC10.out.below hb_); have XN11 := Aside0.mk (XN10.out.below hb_); have X11 := Aside0.mk (X10.out.below hb_); have Y11 := Aside0.mk (Y10.out.below hb_); have U11 := Aside0.mk (U10.out.below hb_); have V11 := Aside0.mk (V10.out.below hb_); have BB11 := Aside0.mk (below_step BB10.out hb_); have SZ11 := Aside0.mk (Nat.le_trans SZ10.out hb_.size); have S911 := Aside0.mk (Nat.le_trans S910.out hb_.size); clear hb_)
                            | ((with_reducible refine gate_callee (f := 18) rfl ?_); (try (refine gate_guard (by rfl) ?_; dsimp only)); refine goesL_ (some 95) rfl rfl Try.func18 (by kernel_rfl) rfl #[.pointer (some ⟨gy, 0, none⟩), .pointer (some ⟨gv, 0, none⟩)] rfl (by (try simp only [List.map_toArray, List.map_cons, List.map_nil]); first | done | rfl) ?_; (refine (same_box w11 _ _ gy gv _ _ mo1 mo1 hi Y11.out V11.out LHI.out k SHI.out).mono ?_); rintro en w12 ⟨rfl, hb_⟩; refine ⟨_, rfl, ?_⟩; have XB12 := Aside0.mk (XB11.out.below hb_); have XM12 := Aside0.mk (XM11.out.below hb_); have XC12 := Aside0.mk (XC11.out.below hb_); have XN12 := Aside0.mk (XN11.out.below hb_); have X12 := Aside0.mk (X11.out.below hb_); have Y12 := Aside0.mk (Y11.out.below hb_); have U12 := Aside0.mk (U11.out.below hb_); have V12 := Aside0.mk (V11.out.below hb_); have BB12 := Aside0.mk (below_step BB11.out hb_); have SZ12 := Aside0.mk (Nat.le_trans SZ11.out hb_.size); have S912 := Aside0.mk (Nat.le_trans S911.out hb_.size); clear hb_)
                            | ((with_reducible refine gate_callee (f := 18) rfl ?_); (try (refine gate_guard (by rfl) ?_; dsimp only)); refine goesL_ (some 101) rfl rfl Try.func18 (by kernel_rfl) rfl #[.pointer (some ⟨gb, 0, none⟩), .pointer (some ⟨gm, 0, none⟩)] rfl (by (try simp only [List.map_toArray, List.map_cons, List.map_nil]); first | done | rfl) ?_; (refine (same_box w12 _ _ gb gm _ _ mo1 mo1 lA XB12.out XM12.out LA.out k SLA.out).mono ?_); rintro en w13 ⟨rfl, hb_⟩; refine ⟨_, rfl, ?_⟩; have XB13 := Aside0.mk (XB12.out.below hb_); have XM13 := Aside0.mk (XM12.out.below hb_); have XC13 := Aside0.mk (XC12.out.below hb_); have XN13 := Aside0.mk (XN12.out.below hb_); have X13 := Aside0.mk (X12.out.below hb_); have Y13 := Aside0.mk (Y12.out.below hb_); have U13 := Aside0.mk (U12.out.below hb_); have V13 := Aside0.mk (V12.out.below hb_); have BB13 := Aside0.mk (below_step BB12.out hb_); have SZ13 := Aside0.mk (Nat.le_trans SZ12.out hb_.size); have S913 := Aside0.mk (Nat.le_trans S912.out hb_.size); clear hb_)
                            | ((with_reducible refine gate_callee (f := 23) rfl ?_); (try (refine gate_guard (by rfl) ?_; dsimp only)); refine goesL_ (some 107) rfl rfl Try.func23 (by kernel_rfl) rfl #[.pointer (some ⟨gx, 0, none⟩), .pointer (some ⟨gy, 0, none⟩)] rfl (by (try simp only [List.map_toArray, List.map_cons, List.map_nil]); first | done | rfl) ?_; (refine (Join_v w13 w8.heap.size gx Sx mo1 lo X13.out (BB13.out.size) w8.heap.size gy Sy mo1 hi Y13.out WLO.out WHI.out LJ.out false FJ.out).mono ?_); rintro en w14 ⟨gp, Sp, he_, hb_, hx_⟩; replace he_ : en = .returned (.tuple #[.pointer (some ⟨gp, 0, none⟩), .int .i64 0]) := he_; subst he_; refine ⟨_, rfl, ?_⟩; replace hx_ := hx_ rfl; rw [EJ.out] at hx_; have P14 := Aside0.mk (hx_.lower BB13.out.size); have XB14 := Aside0.mk (XB13.out.below hb_); have XM14 := Aside0.mk (XM13.out.below hb_); have XC14 := Aside0.mk (XC13.out.below hb_); have XN14 := Aside0.mk (XN13.out.below hb_); have X14 := Aside0.mk (X13.out.below hb_); have Y14 := Aside0.mk (Y13.out.below hb_); have U14 := Aside0.mk (U13.out.below hb_); have V14 := Aside0.mk (V13.out.below hb_); have BB14 := Aside0.mk (below_step BB13.out hb_); have SZ14 := Aside0.mk (Nat.le_trans SZ13.out hb_.size); have S914 := Aside0.mk (Nat.le_trans S913.out hb_.size); clear hb_ hx_)
                            | ((with_reducible refine gate_callee (f := 24) rfl ?_); (try (refine gate_guard (by rfl) ?_; dsimp only)); refine goesL_ (some 113) rfl rfl Try.func24 (by kernel_rfl) rfl #[.pointer (some ⟨gu, 0, none⟩), .pointer (some ⟨gv, 0, none⟩)] rfl (by (try simp only [List.map_toArray, List.map_cons, List.map_nil]); first | done | rfl) ?_; (refine (rJoin_v w14 w8.heap.size gu Su mo1 lo U14.out (BB14.out.size) w8.heap.size gv Sv mo1 hi V14.out k HN1.out LJ.out false FR.out).mono ?_); rintro en w15 ⟨gq, Sq, he_, hb_, hx_⟩; replace he_ : en = .returned (.tuple #[.pointer (some ⟨gq, 0, none⟩), .int .i64 0]) := he_; subst he_; refine ⟨_, rfl, ?_⟩; replace hx_ := hx_ rfl; rw [ER.out] at hx_; have Q15 := Aside0.mk (hx_.lower BB14.out.size); have XB15 := Aside0.mk (XB14.out.below hb_); have XM15 := Aside0.mk (XM14.out.below hb_); have XC15 := Aside0.mk (XC14.out.below hb_); have XN15 := Aside0.mk (XN14.out.below hb_); have X15 := Aside0.mk (X14.out.below hb_); have Y15 := Aside0.mk (Y14.out.below hb_); have U15 := Aside0.mk (U14.out.below hb_); have V15 := Aside0.mk (V14.out.below hb_); have P15 := Aside0.mk (P14.out.below hb_); have BB15 := Aside0.mk (below_step BB14.out hb_); have SZ15 := Aside0.mk (Nat.le_trans SZ14.out hb_.size); have S915 := Aside0.mk (Nat.le_trans S914.out hb_.size); clear hb_ hx_)
                            | ((with_reducible refine gate_callee (f := 18) rfl ?_); (try (refine gate_guard (by rfl) ?_; dsimp only)); refine goesL_ (some 126) rfl rfl Try.func18 (by kernel_rfl) rfl #[.pointer (some ⟨gp, 0, none⟩), .pointer (some ⟨gq, 0, none⟩)] rfl (by (try simp only [List.map_toArray, List.map_cons, List.map_nil]); first | done | rfl) ?_; (refine (same_box w15 _ _ gp gq _ _ mo1 mo1 J P15.out Q15.out LJJ.out k SJ.out).mono ?_); rintro en w16 ⟨rfl, hb_⟩; refine ⟨_, rfl, ?_⟩; have XB16 := Aside0.mk (XB15.out.below hb_); have XM16 := Aside0.mk (XM15.out.below hb_); have XC16 := Aside0.mk (XC15.out.below hb_); have XN16 := Aside0.mk (XN15.out.below hb_); have X16 := Aside0.mk (X15.out.below hb_); have Y16 := Aside0.mk (Y15.out.below hb_); have U16 := Aside0.mk (U15.out.below hb_); have V16 := Aside0.mk (V15.out.below hb_); have P16 := Aside0.mk (P15.out.below hb_); have Q16 := Aside0.mk (Q15.out.below hb_); have BB16 := Aside0.mk (below_step BB15.out hb_); have SZ16 := Aside0.mk (Nat.le_trans SZ15.out hb_.size); have S916 := Aside0.mk (Nat.le_trans S915.out hb_.size); clear hb_)
                            | ((with_reducible refine gate_callee (f := 25) rfl ?_); (try (refine gate_guard (by rfl) ?_; dsimp only)); refine goesL_ (some 131) rfl rfl Try.func25 (by kernel_rfl) rfl #[.pointer (some ⟨gp, 0, none⟩)] rfl (by (try simp only [List.map_toArray, List.map_cons, List.map_nil]); first | done | rfl) ?_; (refine (box_len w16 _ gp _ _ J P16.out).mono ?_); rintro en w17 ⟨he_, hb_⟩; rw [EJL.out] at he_; subst he_; refine ⟨_, rfl, ?_⟩; have XB17 := Aside0.mk (XB16.out.below hb_); have XM17 := Aside0.mk (XM16.out.below hb_); have XC17 := Aside0.mk (XC16.out.below hb_); have XN17 := Aside0.mk (XN16.out.below hb_); have X17 := Aside0.mk (X16.out.below hb_); have Y17 := Aside0.mk (Y16.out.below hb_); have U17 := Aside0.mk (U16.out.below hb_); have V17 := Aside0.mk (V16.out.below hb_); have P17 := Aside0.mk (P16.out.below hb_); have Q17 := Aside0.mk (Q16.out.below hb_); have BB17 := Aside0.mk (below_step BB16.out hb_); have SZ17 := Aside0.mk (Nat.le_trans SZ16.out hb_.size); have S917 := Aside0.mk (Nat.le_trans S916.out hb_.size); clear hb_)
                            | ((with_reducible refine gate_callee (f := 25) rfl ?_); (try (refine gate_guard (by rfl) ?_; dsimp only)); refine goesL_ (some 133) rfl rfl Try.func25 (by kernel_rfl) rfl #[.pointer (some ⟨gb, 0, none⟩)] rfl (by (try simp only [List.map_toArray, List.map_cons, List.map_nil]); first | done | rfl) ?_; (refine (box_len w17 _ gb _ _ lA XB17.out).mono ?_); rintro en w18 ⟨he_, hb_⟩; subst he_; refine ⟨_, rfl, ?_⟩; have XB18 := Aside0.mk (XB17.out.below hb_); have XM18 := Aside0.mk (XM17.out.below hb_); have XC18 := Aside0.mk (XC17.out.below hb_); have XN18 := Aside0.mk (XN17.out.below hb_); have X18 := Aside0.mk (X17.out.below hb_); have Y18 := Aside0.mk (Y17.out.below hb_); have U18 := Aside0.mk (U17.out.below hb_); have V18 := Aside0.mk (V17.out.below hb_); have P18 := Aside0.mk (P17.out.below hb_); have Q18 := Aside0.mk (Q17.out.below hb_); have BB18 := Aside0.mk (below_step BB17.out hb_); have SZ18 := Aside0.mk (Nat.le_trans SZ17.out hb_.size); have S918 := Aside0.mk (Nat.le_trans S917.out hb_.size); clear hb_)
                            | ((with_reducible refine gate_callee (f := 23) rfl ?_); (try (refine gate_guard (by rfl) ?_; dsimp only)); refine goesL_ (some 139) rfl rfl Try.func23 (by kernel_rfl) rfl #[.pointer (some ⟨gb, 0, none⟩), .pointer (some ⟨gc, 0, none⟩)] rfl (by (try simp only [List.map_toArray, List.map_cons, List.map_nil]); first | done | rfl) ?_; (refine (Join_v w18 w.heap.size gb Sb mo1 lA XB18.out SZ18.out w.heap.size gc Sc mo2 lB XC18.out WLA.out WLB.out LAB.out true FJ2.out).mono ?_); rintro en w19 ⟨gj, Sj, he_, hb_, hx_⟩; replace he_ : en = .returned (.tuple #[.pointer none, .int .i64 6]) := he_; subst he_; refine ⟨_, rfl, ?_⟩; have XB19 := Aside0.mk (XB18.out.below hb_); have XM19 := Aside0.mk (XM18.out.below hb_); have XC19 := Aside0.mk (XC18.out.below hb_); have XN19 := Aside0.mk (XN18.out.below hb_); have X19 := Aside0.mk (X18.out.below hb_); have BB19 := Aside0.mk (below_step BB18.out hb_); have SZ19 := Aside0.mk (Nat.le_trans SZ18.out hb_.size); have S919 := Aside0.mk (Nat.le_trans S918.out hb_.size); clear hb_ hx_)
                            | ((with_reducible refine gate_callee (f := 24) rfl ?_); (try (refine gate_guard (by rfl) ?_; dsimp only)); refine goesL_ (some 145) rfl rfl Try.func24 (by kernel_rfl) rfl #[.pointer (some ⟨gm, 0, none⟩), .pointer (some ⟨gn, 0, none⟩)] rfl (by (try simp only [List.map_toArray, List.map_cons, List.map_nil]); first | done | rfl) ?_; (refine (rJoin_v w19 w.heap.size gm Sm mo1 lA XM19.out SZ19.out w.heap.size gn Sn mo2 lB XN19.out k HN2.out LAB.out true FR2.out).mono ?_); rintro en w20 ⟨gk, Sk, he_, hb_, hx_⟩; replace he_ : en = .returned (.tuple #[.pointer none, .int .i64 6]) := he_; subst he_; refine ⟨_, rfl, ?_⟩; have XB20 := Aside0.mk (XB19.out.below hb_); have XM20 := Aside0.mk (XM19.out.below hb_); have XC20 := Aside0.mk (XC19.out.below hb_); have XN20 := Aside0.mk (XN19.out.below hb_); have X20 := Aside0.mk (X19.out.below hb_); have BB20 := Aside0.mk (below_step BB19.out hb_); have SZ20 := Aside0.mk (Nat.le_trans SZ19.out hb_.size); have S920 := Aside0.mk (Nat.le_trans S919.out hb_.size); clear hb_ hx_)
                            | ((with_reducible refine gate_callee (f := 17) rfl ?_); (try (refine gate_guard (by rfl) ?_; dsimp only)); refine goesL_ (some 176) rfl rfl Try.func17 (by kernel_rfl) rfl #[.pointer (some ⟨gx, 0, none⟩), .int .i64 1099511627776] rfl (by (try simp only [List.map_toArray, List.map_cons, List.map_nil]); first | done | rfl) ?_; (refine (due_box w20 w8.heap.size gx Sx mo1 lo X20.out LLO.out).mono ?_); rintro en w21 ⟨Ax, cx, rfl, hcx_, hR_, hb_⟩; refine ⟨_, rfl, ?_⟩; have HX21 := Aside0.mk hR_; have XB21 := Aside0.mk (XB20.out.below hb_); have XM21 := Aside0.mk (XM20.out.below hb_); have XC21 := Aside0.mk (XC20.out.below hb_); have XN21 := Aside0.mk (XN20.out.below hb_); have X21 := Aside0.mk (X20.out.below hb_); have BB21 := Aside0.mk (below_step BB20.out hb_); have SZ21 := Aside0.mk (Nat.le_trans SZ20.out hb_.size); have S921 := Aside0.mk (Nat.le_trans S920.out hb_.size); clear hcx_ hR_ hb_)
                            | ((with_reducible refine gate_callee (f := 26) rfl ?_); (try (refine gate_guard (by rfl) ?_; dsimp only)); refine goesL_ (some 177) rfl rfl Try.func26 (by kernel_rfl) rfl #[.pointer (some ⟨gx, 0, none⟩), .slice Ax lo.length lo.length] rfl (by (try simp only [List.map_toArray, List.map_cons, List.map_nil]); first | done | rfl) ?_; (refine (done_v w21 w8.heap.size gx Sx mo1 lo X21.out BB21.out.size Ax lo.length lo (Kd.R_reads' HX21.out).2.2 WLO.out WLO.out (by have h1 := LLO.out; omega) _ _ rfl rfl).mono ?_); rintro en w22 ⟨rfl, S9_, hx_, hu_⟩; refine ⟨_, rfl, ?_⟩; have BB22 := Aside0.mk (BB21.out.trans hu_.below); have SZ22 := Aside0.mk (Nat.le_trans SZ21.out hu_.kept.1); have S922 := Aside0.mk (Nat.le_trans S921.out hu_.kept.1); have XB22 := Aside0.mk (XB8.out.below BB22.out); have XM22 := Aside0.mk (XM8.out.below BB22.out); have XC22 := Aside0.mk (XC8.out.below BB22.out); have XN22 := Aside0.mk (XN8.out.below BB22.out); clear hx_ hu_)
                            | ((with_reducible refine gate_callee (f := 18) rfl ?_); (try (refine gate_guard (by rfl) ?_; dsimp only)); refine goesL_ (some 180) rfl rfl Try.func18 (by kernel_rfl) rfl #[.pointer (some ⟨gb, 0, none⟩), .pointer (some ⟨gm, 0, none⟩)] rfl (by (try simp only [List.map_toArray, List.map_cons, List.map_nil]); first | done | rfl) ?_; (refine (same_box w22 _ _ gb gm _ _ mo1 mo1 lA XB22.out XM22.out LA.out k SLA.out).mono ?_); rintro en w23 ⟨rfl, hb_⟩; refine ⟨_, rfl, ?_⟩; have XB23 := Aside0.mk (XB22.out.below hb_); have XM23 := Aside0.mk (XM22.out.below hb_); have XC23 := Aside0.mk (XC22.out.below hb_); have XN23 := Aside0.mk (XN22.out.below hb_); have BB23 := Aside0.mk (below_step BB22.out hb_); have SZ23 := Aside0.mk (Nat.le_trans SZ22.out hb_.size); have S923 := Aside0.mk (Nat.le_trans S922.out hb_.size); clear hb_)
                            | ((with_reducible refine gate_callee (f := 18) rfl ?_); (try (refine gate_guard (by rfl) ?_; dsimp only)); refine goesL_ (some 184) rfl rfl Try.func18 (by kernel_rfl) rfl #[.pointer (some ⟨gc, 0, none⟩), .pointer (some ⟨gn, 0, none⟩)] rfl (by (try simp only [List.map_toArray, List.map_cons, List.map_nil]); first | done | rfl) ?_; (refine (same_box w23 _ _ gc gn _ _ mo2 mo2 lB XC23.out XN23.out LB.out k SLB.out).mono ?_); rintro en w24 ⟨rfl, hb_⟩; refine ⟨_, rfl, ?_⟩; have XB24 := Aside0.mk (XB23.out.below hb_); have XM24 := Aside0.mk (XM23.out.below hb_); have XC24 := Aside0.mk (XC23.out.below hb_); have XN24 := Aside0.mk (XN23.out.below hb_); have BB24 := Aside0.mk (below_step BB23.out hb_); have SZ24 := Aside0.mk (Nat.le_trans SZ23.out hb_.size); have S924 := Aside0.mk (Nat.le_trans S923.out hb_.size); clear hb_))
                      go_ret
                      exact ⟨rfl, below_step HB8.out BB24.out⟩
                    | false =>
                      go_wp2_with (first
                            | ((with_reducible refine gate_callee (f := 21) rfl ?_); (try (refine gate_guard (by rfl) ?_; dsimp only)); refine goesL_ (some 79) rfl rfl Try.func21 (by kernel_rfl) rfl #[.pointer (some ⟨gb, 0, none⟩), .string at_] rfl (by (try simp only [List.map_toArray, List.map_cons, List.map_nil]); first | done | rfl) ?_; (refine (Cut_v w8 w.heap.size gb Sb mo1 lA XB8.out SZ8.out at_ LA.out k key HK1.out low HLW.out).mono ?_); rintro en w9 ⟨gx, gy, Sx, Sy, rfl, hx_, hy_, _, hb_⟩; refine ⟨_, rfl, ?_⟩; rw [← ELO.out] at hx_; rw [← EHI.out] at hy_; have X9 := Aside0.mk hx_; have Y9 := Aside0.mk hy_; have LX := Aside0.mk (show ∀ k_, Sx k_ → k_ < w9.heap.size from fun k_ h_ => (hx_.2.1 k_ h_).2); have XB9 := Aside0.mk (XB8.out.below hb_); have XM9 := Aside0.mk (XM8.out.below hb_); have XC9 := Aside0.mk (XC8.out.below hb_); have XN9 := Aside0.mk (XN8.out.below hb_); have BB9 := Aside0.mk (below_step BB8.out hb_); have SZ9 := Aside0.mk (Nat.le_trans SZ8.out hb_.size); have S99 := Aside0.mk (Nat.le_refl w9.heap.size); clear hb_ hx_ hy_)
                            | ((with_reducible refine gate_callee (f := 22) rfl ?_); (try (refine gate_guard (by rfl) ?_; dsimp only)); refine goesL_ (some 85) rfl rfl Try.func22 (by kernel_rfl) rfl #[.pointer (some ⟨gm, 0, none⟩), .string at_] rfl (by (try simp only [List.map_toArray, List.map_cons, List.map_nil]); first | done | rfl) ?_; (refine (rCut_v w9 w.heap.size gm Sm mo1 lA XM9.out SZ9.out at_ LA.out k key HK2.out low HLW.out).mono ?_); rintro en w10 ⟨gu, gv, Su, Sv, rfl, hx_, hy_, _, hb_⟩; refine ⟨_, rfl, ?_⟩; rw [← ELO.out] at hx_; rw [← EHI.out] at hy_; have U10 := Aside0.mk (hx_.lower BB9.out.size); have V10 := Aside0.mk (hy_.lower BB9.out.size); have XB10 := Aside0.mk (XB9.out.below hb_); have XM10 := Aside0.mk (XM9.out.below hb_); have XC10 := Aside0.mk (XC9.out.below hb_); have XN10 := Aside0.mk (XN9.out.below hb_); have X10 := Aside0.mk (X9.out.below hb_); have Y10 := Aside0.mk (Y9.out.below hb_); have BB10 := Aside0.mk (below_step BB9.out hb_); have SZ10 := Aside0.mk (Nat.le_trans SZ9.out hb_.size); have S910 := Aside0.mk (Nat.le_trans S99.out hb_.size); clear hb_ hx_ hy_)
                            | ((with_reducible refine gate_callee (f := 18) rfl ?_); (try (refine gate_guard (by rfl) ?_; dsimp only)); refine goesL_ (some 90) rfl rfl Try.func18 (by kernel_rfl) rfl #[.pointer (some ⟨gx, 0, none⟩), .pointer (some ⟨gu, 0, none⟩)] rfl (by (try simp only [List.map_toArray, List.map_cons, List.map_nil]); first | done | rfl) ?_; (refine (same_box w10 _ _ gx gu _ _ mo1 mo1 lo X10.out U10.out LLO.out k SLO.out).mono ?_); rintro en w11 ⟨rfl, hb_⟩; refine ⟨_, rfl, ?_⟩; have XB11 := Aside0.mk (XB10.out.below hb_); have XM11 := Aside0.mk (XM10.out.below hb_); have XC11 := Aside0.mk (XC10.out.below hb_); have XN11 := Aside0.mk (XN10.out.below hb_); have X11 := Aside0.mk (X10.out.below hb_); have Y11 := Aside0.mk (Y10.out.below hb_); have U11 := Aside0.mk (U10.out.below hb_); have V11 := Aside0.mk (V10.out.below hb_); have BB11 := Aside0.mk (below_step BB10.out hb_); have SZ11 := Aside0.mk (Nat.le_trans SZ10.out hb_.size); have S911 := Aside0.mk (Nat.le_trans S910.out hb_.size); clear hb_)
                            | ((with_reducible refine gate_callee (f := 18) rfl ?_); (try (refine gate_guard (by rfl) ?_; dsimp only)); refine goesL_ (some 95) rfl rfl Try.func18 (by kernel_rfl) rfl #[.pointer (some ⟨gy, 0, none⟩), .pointer (some ⟨gv, 0, none⟩)] rfl (by (try simp only [List.map_toArray, List.map_cons, List.map_nil]); first | done | rfl) ?_; (refine (same_box w11 _ _ gy gv _ _ mo1 mo1 hi Y11.out V11.out LHI.out k SHI.out).mono ?_); rintro en w12 ⟨rfl, hb_⟩; refine ⟨_, rfl, ?_⟩; have XB12 := Aside0.mk (XB11.out.below hb_); have XM12 := Aside0.mk (XM11.out.below hb_); have XC12 := Aside0.mk (XC11.out.below hb_); have XN12 := Aside0.mk (XN11.out.below hb_); have X12 := Aside0.mk (X11.out.below hb_); have Y12 := Aside0.mk (Y11.out.below hb_); have U12 := Aside0.mk (U11.out.below hb_); have V12 := Aside0.mk (V11.out.below hb_); have BB12 := Aside0.mk (below_step BB11.out hb_); have SZ12 := Aside0.mk (Nat.le_trans SZ11.out hb_.size); have S912 := Aside0.mk (Nat.le_trans S911.out hb_.size); clear hb_)
                            | ((with_reducible refine gate_callee (f := 18) rfl ?_); (try (refine gate_guard (by rfl) ?_; dsimp only)); refine goesL_ (some 101) rfl rfl Try.func18 (by kernel_rfl) rfl #[.pointer (some ⟨gb, 0, none⟩), .pointer (some ⟨gm, 0, none⟩)] rfl (by (try simp only [List.map_toArray, List.map_cons, List.map_nil]); first | done | rfl) ?_; (refine (same_box w12 _ _ gb gm _ _ mo1 mo1 lA XB12.out XM12.out LA.out k SLA.out).mono ?_); rintro en w13 ⟨rfl, hb_⟩; refine ⟨_, rfl, ?_⟩; have XB13 := Aside0.mk (XB12.out.below hb_); have XM13 := Aside0.mk (XM12.out.below hb_); have XC13 := Aside0.mk (XC12.out.below hb_); have XN13 := Aside0.mk (XN12.out.below hb_); have X13 := Aside0.mk (X12.out.below hb_); have Y13 := Aside0.mk (Y12.out.below hb_); have U13 := Aside0.mk (U12.out.below hb_); have V13 := Aside0.mk (V12.out.below hb_); have BB13 := Aside0.mk (below_step BB12.out hb_); have SZ13 := Aside0.mk (Nat.le_trans SZ12.out hb_.size); have S913 := Aside0.mk (Nat.le_trans S912.out hb_.size); clear hb_)
                            | ((with_reducible refine gate_callee (f := 23) rfl ?_); (try (refine gate_guard (by rfl) ?_; dsimp only)); refine goesL_ (some 107) rfl rfl Try.func23 (by kernel_rfl) rfl #[.pointer (some ⟨gx, 0, none⟩), .pointer (some ⟨gy, 0, none⟩)] rfl (by (try simp only [List.map_toArray, List.map_cons, List.map_nil]); first | done | rfl) ?_; (refine (Join_v w13 w8.heap.size gx Sx mo1 lo X13.out (BB13.out.size) w8.heap.size gy Sy mo1 hi Y13.out WLO.out WHI.out LJ.out false FJ.out).mono ?_); rintro en w14 ⟨gp, Sp, he_, hb_, hx_⟩; replace he_ : en = .returned (.tuple #[.pointer (some ⟨gp, 0, none⟩), .int .i64 0]) := he_; subst he_; refine ⟨_, rfl, ?_⟩; replace hx_ := hx_ rfl; rw [EJ.out] at hx_; have P14 := Aside0.mk (hx_.lower BB13.out.size); have XB14 := Aside0.mk (XB13.out.below hb_); have XM14 := Aside0.mk (XM13.out.below hb_); have XC14 := Aside0.mk (XC13.out.below hb_); have XN14 := Aside0.mk (XN13.out.below hb_); have X14 := Aside0.mk (X13.out.below hb_); have Y14 := Aside0.mk (Y13.out.below hb_); have U14 := Aside0.mk (U13.out.below hb_); have V14 := Aside0.mk (V13.out.below hb_); have BB14 := Aside0.mk (below_step BB13.out hb_); have SZ14 := Aside0.mk (Nat.le_trans SZ13.out hb_.size); have S914 := Aside0.mk (Nat.le_trans S913.out hb_.size); clear hb_ hx_)
                            | ((with_reducible refine gate_callee (f := 24) rfl ?_); (try (refine gate_guard (by rfl) ?_; dsimp only)); refine goesL_ (some 113) rfl rfl Try.func24 (by kernel_rfl) rfl #[.pointer (some ⟨gu, 0, none⟩), .pointer (some ⟨gv, 0, none⟩)] rfl (by (try simp only [List.map_toArray, List.map_cons, List.map_nil]); first | done | rfl) ?_; (refine (rJoin_v w14 w8.heap.size gu Su mo1 lo U14.out (BB14.out.size) w8.heap.size gv Sv mo1 hi V14.out k HN1.out LJ.out false FR.out).mono ?_); rintro en w15 ⟨gq, Sq, he_, hb_, hx_⟩; replace he_ : en = .returned (.tuple #[.pointer (some ⟨gq, 0, none⟩), .int .i64 0]) := he_; subst he_; refine ⟨_, rfl, ?_⟩; replace hx_ := hx_ rfl; rw [ER.out] at hx_; have Q15 := Aside0.mk (hx_.lower BB14.out.size); have XB15 := Aside0.mk (XB14.out.below hb_); have XM15 := Aside0.mk (XM14.out.below hb_); have XC15 := Aside0.mk (XC14.out.below hb_); have XN15 := Aside0.mk (XN14.out.below hb_); have X15 := Aside0.mk (X14.out.below hb_); have Y15 := Aside0.mk (Y14.out.below hb_); have U15 := Aside0.mk (U14.out.below hb_); have V15 := Aside0.mk (V14.out.below hb_); have P15 := Aside0.mk (P14.out.below hb_); have BB15 := Aside0.mk (below_step BB14.out hb_); have SZ15 := Aside0.mk (Nat.le_trans SZ14.out hb_.size); have S915 := Aside0.mk (Nat.le_trans S914.out hb_.size); clear hb_ hx_)
                            | ((with_reducible refine gate_callee (f := 18) rfl ?_); (try (refine gate_guard (by rfl) ?_; dsimp only)); refine goesL_ (some 126) rfl rfl Try.func18 (by kernel_rfl) rfl #[.pointer (some ⟨gp, 0, none⟩), .pointer (some ⟨gq, 0, none⟩)] rfl (by (try simp only [List.map_toArray, List.map_cons, List.map_nil]); first | done | rfl) ?_; (refine (same_box w15 _ _ gp gq _ _ mo1 mo1 J P15.out Q15.out LJJ.out k SJ.out).mono ?_); rintro en w16 ⟨rfl, hb_⟩; refine ⟨_, rfl, ?_⟩; have XB16 := Aside0.mk (XB15.out.below hb_); have XM16 := Aside0.mk (XM15.out.below hb_); have XC16 := Aside0.mk (XC15.out.below hb_); have XN16 := Aside0.mk (XN15.out.below hb_); have X16 := Aside0.mk (X15.out.below hb_); have Y16 := Aside0.mk (Y15.out.below hb_); have U16 := Aside0.mk (U15.out.below hb_); have V16 := Aside0.mk (V15.out.below hb_); have P16 := Aside0.mk (P15.out.below hb_); have Q16 := Aside0.mk (Q15.out.below hb_); have BB16 := Aside0.mk (below_step BB15.out hb_); have SZ16 := Aside0.mk (Nat.le_trans SZ15.out hb_.size); have S916 := Aside0.mk (Nat.le_trans S915.out hb_.size); clear hb_)
                            | ((with_reducible refine gate_callee (f := 25) rfl ?_); (try (refine gate_guard (by rfl) ?_; dsimp only)); refine goesL_ (some 131) rfl rfl Try.func25 (by kernel_rfl) rfl #[.pointer (some ⟨gp, 0, none⟩)] rfl (by (try simp only [List.map_toArray, List.map_cons, List.map_nil]); first | done | rfl) ?_; (refine (box_len w16 _ gp _ _ J P16.out).mono ?_); rintro en w17 ⟨he_, hb_⟩; rw [EJL.out] at he_; subst he_; refine ⟨_, rfl, ?_⟩; have XB17 := Aside0.mk (XB16.out.below hb_); have XM17 := Aside0.mk (XM16.out.below hb_); have XC17 := Aside0.mk (XC16.out.below hb_); have XN17 := Aside0.mk (XN16.out.below hb_); have X17 := Aside0.mk (X16.out.below hb_); have Y17 := Aside0.mk (Y16.out.below hb_); have U17 := Aside0.mk (U16.out.below hb_); have V17 := Aside0.mk (V16.out.below hb_); have P17 := Aside0.mk (P16.out.below hb_); have Q17 := Aside0.mk (Q16.out.below hb_); have BB17 := Aside0.mk (below_step BB16.out hb_); have SZ17 := Aside0.mk (Nat.le_trans SZ16.out hb_.size); have S917 := Aside0.mk (Nat.le_trans S916.out hb_.size); clear hb_)
                            | ((with_reducible refine gate_callee (f := 25) rfl ?_); (try (refine gate_guard (by rfl) ?_; dsimp only)); refine goesL_ (some 133) rfl rfl Try.func25 (by kernel_rfl) rfl #[.pointer (some ⟨gb, 0, none⟩)] rfl (by (try simp only [List.map_toArray, List.map_cons, List.map_nil]); first | done | rfl) ?_; (refine (box_len w17 _ gb _ _ lA XB17.out).mono ?_); rintro en w18 ⟨he_, hb_⟩; subst he_; refine ⟨_, rfl, ?_⟩; have XB18 := Aside0.mk (XB17.out.below hb_); have XM18 := Aside0.mk (XM17.out.below hb_); have XC18 := Aside0.mk (XC17.out.below hb_); have XN18 := Aside0.mk (XN17.out.below hb_); have X18 := Aside0.mk (X17.out.below hb_); have Y18 := Aside0.mk (Y17.out.below hb_); have U18 := Aside0.mk (U17.out.below hb_); have V18 := Aside0.mk (V17.out.below hb_); have P18 := Aside0.mk (P17.out.below hb_); have Q18 := Aside0.mk (Q17.out.below hb_); have BB18 := Aside0.mk (below_step BB17.out hb_); have SZ18 := Aside0.mk (Nat.le_trans SZ17.out hb_.size); have S918 := Aside0.mk (Nat.le_trans S917.out hb_.size); clear hb_)
                            | ((with_reducible refine gate_callee (f := 23) rfl ?_); (try (refine gate_guard (by rfl) ?_; dsimp only)); refine goesL_ (some 139) rfl rfl Try.func23 (by kernel_rfl) rfl #[.pointer (some ⟨gb, 0, none⟩), .pointer (some ⟨gc, 0, none⟩)] rfl (by (try simp only [List.map_toArray, List.map_cons, List.map_nil]); first | done | rfl) ?_; (refine (Join_v w18 w.heap.size gb Sb mo1 lA XB18.out SZ18.out w.heap.size gc Sc mo2 lB XC18.out WLA.out WLB.out LAB.out false FJ2.out).mono ?_); rintro en w19 ⟨gj, Sj, he_, hb_, hx_⟩; replace he_ : en = .returned (.tuple #[.pointer (some ⟨gj, 0, none⟩), .int .i64 0]) := he_; subst he_; refine ⟨_, rfl, ?_⟩; replace hx_ := hx_ rfl; rw [← EJ2.out] at hx_; have LP := Aside0.mk (show ∀ k_, Sj k_ → w9.heap.size ≤ k_ from fun k_ h_ => Nat.le_trans S918.out (hx_.2.1 k_ h_).1); have P19 := Aside0.mk (hx_.lower BB18.out.size); have XB19 := Aside0.mk (XB18.out.below hb_); have XM19 := Aside0.mk (XM18.out.below hb_); have XC19 := Aside0.mk (XC18.out.below hb_); have XN19 := Aside0.mk (XN18.out.below hb_); have X19 := Aside0.mk (X18.out.below hb_); have BB19 := Aside0.mk (below_step BB18.out hb_); have SZ19 := Aside0.mk (Nat.le_trans SZ18.out hb_.size); have S919 := Aside0.mk (Nat.le_trans S918.out hb_.size); clear hb_ hx_)
                            | ((with_reducible refine gate_callee (f := 24) rfl ?_); (try (refine gate_guard (by rfl) ?_; dsimp only)); refine goesL_ (some 145) rfl rfl Try.func24 (by kernel_rfl) rfl #[.pointer (some ⟨gm, 0, none⟩), .pointer (some ⟨gn, 0, none⟩)] rfl (by (try simp only [List.map_toArray, List.map_cons, List.map_nil]); first | done | rfl) ?_; (refine (rJoin_v w19 w.heap.size gm Sm mo1 lA XM19.out SZ19.out w.heap.size gn Sn mo2 lB XN19.out k HN2.out LAB.out false FR2.out).mono ?_); rintro en w20 ⟨gk, Sk, he_, hb_, hx_⟩; replace he_ : en = .returned (.tuple #[.pointer (some ⟨gk, 0, none⟩), .int .i64 0]) := he_; subst he_; refine ⟨_, rfl, ?_⟩; replace hx_ := hx_ rfl; rw [← ER2.out] at hx_; have Q20 := Aside0.mk (hx_.lower BB19.out.size); have XB20 := Aside0.mk (XB19.out.below hb_); have XM20 := Aside0.mk (XM19.out.below hb_); have XC20 := Aside0.mk (XC19.out.below hb_); have XN20 := Aside0.mk (XN19.out.below hb_); have X20 := Aside0.mk (X19.out.below hb_); have P20 := Aside0.mk (P19.out.below hb_); have BB20 := Aside0.mk (below_step BB19.out hb_); have SZ20 := Aside0.mk (Nat.le_trans SZ19.out hb_.size); have S920 := Aside0.mk (Nat.le_trans S919.out hb_.size); clear hb_ hx_)
                            | ((with_reducible refine gate_callee (f := 18) rfl ?_); (try (refine gate_guard (by rfl) ?_; dsimp only)); refine goesL_ (some 164) rfl rfl Try.func18 (by kernel_rfl) rfl #[.pointer (some ⟨gj, 0, none⟩), .pointer (some ⟨gk, 0, none⟩)] rfl (by (try simp only [List.map_toArray, List.map_cons, List.map_nil]); first | done | rfl) ?_; (refine (same_box w20 _ _ gj gk _ _ mo1 mo1 J2 P20.out Q20.out LJ2.out k SJ2.out).mono ?_); rintro en w21 ⟨rfl, hb_⟩; refine ⟨_, rfl, ?_⟩; have XB21 := Aside0.mk (XB20.out.below hb_); have XM21 := Aside0.mk (XM20.out.below hb_); have XC21 := Aside0.mk (XC20.out.below hb_); have XN21 := Aside0.mk (XN20.out.below hb_); have X21 := Aside0.mk (X20.out.below hb_); have P21 := Aside0.mk (P20.out.below hb_); have Q21 := Aside0.mk (Q20.out.below hb_); have BB21 := Aside0.mk (below_step BB20.out hb_); have SZ21 := Aside0.mk (Nat.le_trans SZ20.out hb_.size); have S921 := Aside0.mk (Nat.le_trans S920.out hb_.size); clear hb_)
                            | ((with_reducible refine gate_callee (f := 17) rfl ?_); (try (refine gate_guard (by rfl) ?_; dsimp only)); refine goesL_ (some 172) rfl rfl Try.func17 (by kernel_rfl) rfl #[.pointer (some ⟨gj, 0, none⟩), .int .i64 1099511627776] rfl (by (try simp only [List.map_toArray, List.map_cons, List.map_nil]); first | done | rfl) ?_; (refine (due_box w21 w8.heap.size gj Sj mo1 J2 P21.out LJ2.out).mono ?_); rintro en w22 ⟨Ax, cx, rfl, hcx_, hR_, hb_⟩; refine ⟨_, rfl, ?_⟩; have HX22 := Aside0.mk hR_; have XB22 := Aside0.mk (XB21.out.below hb_); have XM22 := Aside0.mk (XM21.out.below hb_); have XC22 := Aside0.mk (XC21.out.below hb_); have XN22 := Aside0.mk (XN21.out.below hb_); have X22 := Aside0.mk (X21.out.below hb_); have P22 := Aside0.mk (P21.out.below hb_); have BB22 := Aside0.mk (below_step BB21.out hb_); have SZ22 := Aside0.mk (Nat.le_trans SZ21.out hb_.size); have S922 := Aside0.mk (Nat.le_trans S921.out hb_.size); clear hcx_ hR_ hb_)
                            | ((with_reducible refine gate_callee (f := 26) rfl ?_); (try (refine gate_guard (by rfl) ?_; dsimp only)); refine goesL_ (some 173) rfl rfl Try.func26 (by kernel_rfl) rfl #[.pointer (some ⟨gj, 0, none⟩), .slice Ax J2.length J2.length] rfl (by (try simp only [List.map_toArray, List.map_cons, List.map_nil]); first | done | rfl) ?_; (refine (done_v w22 w8.heap.size gj Sj mo1 J2 P22.out BB22.out.size Ax J2.length J2 (Kd.R_reads' HX22.out).2.2 WJ2.out WJ2.out (by have h1 := LJ2.out; omega) _ _ rfl rfl).mono ?_); rintro en w23 ⟨rfl, S9_, hx_, hu_⟩; refine ⟨_, rfl, ?_⟩; have BB23 := Aside0.mk (BB22.out.trans hu_.below); have SZ23 := Aside0.mk (Nat.le_trans SZ22.out hu_.kept.1); have S923 := Aside0.mk (Nat.le_trans S922.out hu_.kept.1); have XB23 := Aside0.mk (XB8.out.below BB23.out); have XM23 := Aside0.mk (XM8.out.below BB23.out); have XC23 := Aside0.mk (XC8.out.below BB23.out); have XN23 := Aside0.mk (XN8.out.below BB23.out); have X23 := Aside0.mk (X22.out.frame hu_.kept (fun k_ h1_ h2_ => by have h3_ := LX.out k_ h1_; have h4_ := LP.out k_ h2_; omega)); clear hx_ hu_)
                            | ((with_reducible refine gate_callee (f := 17) rfl ?_); (try (refine gate_guard (by rfl) ?_; dsimp only)); refine goesL_ (some 176) rfl rfl Try.func17 (by kernel_rfl) rfl #[.pointer (some ⟨gx, 0, none⟩), .int .i64 1099511627776] rfl (by (try simp only [List.map_toArray, List.map_cons, List.map_nil]); first | done | rfl) ?_; (refine (due_box w23 w8.heap.size gx Sx mo1 lo X23.out LLO.out).mono ?_); rintro en w24 ⟨Ax, cx, rfl, hcx_, hR_, hb_⟩; refine ⟨_, rfl, ?_⟩; have HX24 := Aside0.mk hR_; have XB24 := Aside0.mk (XB23.out.below hb_); have XM24 := Aside0.mk (XM23.out.below hb_); have XC24 := Aside0.mk (XC23.out.below hb_); have XN24 := Aside0.mk (XN23.out.below hb_); have X24 := Aside0.mk (X23.out.below hb_); have BB24 := Aside0.mk (below_step BB23.out hb_); have SZ24 := Aside0.mk (Nat.le_trans SZ23.out hb_.size); have S924 := Aside0.mk (Nat.le_trans S923.out hb_.size); clear hcx_ hR_ hb_)
                            | ((with_reducible refine gate_callee (f := 26) rfl ?_); (try (refine gate_guard (by rfl) ?_; dsimp only)); refine goesL_ (some 177) rfl rfl Try.func26 (by kernel_rfl) rfl #[.pointer (some ⟨gx, 0, none⟩), .slice Ax lo.length lo.length] rfl (by (try simp only [List.map_toArray, List.map_cons, List.map_nil]); first | done | rfl) ?_; (refine (done_v w24 w8.heap.size gx Sx mo1 lo X24.out BB24.out.size Ax lo.length lo (Kd.R_reads' HX24.out).2.2 WLO.out WLO.out (by have h1 := LLO.out; omega) _ _ rfl rfl).mono ?_); rintro en w25 ⟨rfl, S9_, hx_, hu_⟩; refine ⟨_, rfl, ?_⟩; have BB25 := Aside0.mk (BB24.out.trans hu_.below); have SZ25 := Aside0.mk (Nat.le_trans SZ24.out hu_.kept.1); have S925 := Aside0.mk (Nat.le_trans S924.out hu_.kept.1); have XB25 := Aside0.mk (XB8.out.below BB25.out); have XM25 := Aside0.mk (XM8.out.below BB25.out); have XC25 := Aside0.mk (XC8.out.below BB25.out); have XN25 := Aside0.mk (XN8.out.below BB25.out); clear hx_ hu_)
                            | ((with_reducible refine gate_callee (f := 18) rfl ?_); (try (refine gate_guard (by rfl) ?_; dsimp only)); refine goesL_ (some 180) rfl rfl Try.func18 (by kernel_rfl) rfl #[.pointer (some ⟨gb, 0, none⟩), .pointer (some ⟨gm, 0, none⟩)] rfl (by (try simp only [List.map_toArray, List.map_cons, List.map_nil]); first | done | rfl) ?_; (refine (same_box w25 _ _ gb gm _ _ mo1 mo1 lA XB25.out XM25.out LA.out k SLA.out).mono ?_); rintro en w26 ⟨rfl, hb_⟩; refine ⟨_, rfl, ?_⟩; have XB26 := Aside0.mk (XB25.out.below hb_); have XM26 := Aside0.mk (XM25.out.below hb_); have XC26 := Aside0.mk (XC25.out.below hb_); have XN26 := Aside0.mk (XN25.out.below hb_); have BB26 := Aside0.mk (below_step BB25.out hb_); have SZ26 := Aside0.mk (Nat.le_trans SZ25.out hb_.size); have S926 := Aside0.mk (Nat.le_trans S925.out hb_.size); clear hb_)
                            | ((with_reducible refine gate_callee (f := 18) rfl ?_); (try (refine gate_guard (by rfl) ?_; dsimp only)); refine goesL_ (some 184) rfl rfl Try.func18 (by kernel_rfl) rfl #[.pointer (some ⟨gc, 0, none⟩), .pointer (some ⟨gn, 0, none⟩)] rfl (by (try simp only [List.map_toArray, List.map_cons, List.map_nil]); first | done | rfl) ?_; (refine (same_box w26 _ _ gc gn _ _ mo2 mo2 lB XC26.out XN26.out LB.out k SLB.out).mono ?_); rintro en w27 ⟨rfl, hb_⟩; refine ⟨_, rfl, ?_⟩; have XB27 := Aside0.mk (XB26.out.below hb_); have XM27 := Aside0.mk (XM26.out.below hb_); have XC27 := Aside0.mk (XC26.out.below hb_); have XN27 := Aside0.mk (XN26.out.below hb_); have BB27 := Aside0.mk (below_step BB26.out hb_); have SZ27 := Aside0.mk (Nat.le_trans SZ26.out hb_.size); have S927 := Aside0.mk (Nat.le_trans S926.out hb_.size); clear hb_))
                      go_ret
                      exact ⟨rfl, below_step HB8.out BB27.out⟩
end Go.Proofs.Ytdaikljbljcagaa.Mv
namespace Go.Proofs.Ytdaikljbljcagaa.HaOutboxCuts
open Go.RowKit Go.Proofs.Ytdaikljbljcagaa.Na Go.Proofs.Ytdaikljbljcagaa.Pn Go.Proofs.Ytdaikljbljcagaa.Pq Go.Proofs.Ytdaikljbljcagaa.PAll Go.Proofs.YtdaikljbljcagaaW.PrintWords Go.Proofs.YtdaikljbljcagaaW.PrintLast Go.Proofs.Ytdaikljbljcagaa.Mc Go.Proofs.Ytdaikljbljcagaa.Me Go.Proofs.Ytdaikljbljcagaa.Mk Go.Proofs.Ytdaikljbljcagaa.Ml Go.Proofs.Ytdaikljbljcagaa.Mt Go.Proofs.Ytdaikljbljcagaa.Mv Go.Proofs.Ytdaikljbljcagaa.Pv Go.Proofs.Ytdaikljbljcagaa.Cp Go.Proofs.Ytdaikljbljcagaa.Uj Go.Proofs.Ytdaikljbljcagaa.Rs
set_option linter.unusedSimpArgs false
set_option linter.unusedVariables false
def keyR (x : S29) : ByteArray := (parseR x.f0).2.2.1
/-- No name stands twice. -/
def Uniq (l : List S29) : Prop := l.Pairwise (fun x y => ¬ (y.f0 = x.f0 ∧ y.f1 = x.f1))
theorem not_named {l : List S29} {x : S29} (h : ¬ namedIn l x = true) : ∀ y ∈ l, ¬ (x.f0 = y.f0 ∧ x.f1 = y.f1) := fun y hy e => h ((namedIn_iff2 l x).2 ⟨y, hy, e.1.symm, e.2.symm⟩)
theorem uniq_once (m : List S29) : ∀ l : List S29, Uniq l → Uniq (onceG l m) := by
  induction m with
  | nil => exact fun l h => h
  | cons y m ih =>
    intro l h
    show Uniq (onceG (if namedIn l y = true then l else l ++ [y]) m)
    apply ih
    split
    · exact h
    · rename_i hn
      exact List.pairwise_append.2 ⟨h, List.pairwise_singleton _ _, fun a ha b hb => by rw [List.mem_singleton.1 hb]; exact not_named hn a ha⟩
theorem uniq_act (mo : Int) (l : List S29) (a : S45) (h : Uniq l) : Uniq (actL mo l a) := by
  unfold actL
  split
  · unfold raddL
    split
    · exact uniq_once _ l h
    · exact h
  · split
    · exact List.Pairwise.filter _ h
    · split
      · exact List.Pairwise.filter _ h
      · exact h
theorem fit_act (mo : Int) (l : List S29) (a : S45) (h : (l.length : Int) ≤ mo) : ((actL mo l a).length : Int) ≤ mo := by
  have hf : ∀ p : S29 → Bool, ((l.filter p).length : Int) ≤ mo := fun p => by have := List.length_filter_le p l; omega
  unfold actL
  split
  · unfold raddL
    split
    · rename_i h0
      unfold raddE at h0
      split at h0
      · omega
      · split at h0
        · omega
        · omega
    · exact h
  · split
    · exact hf _
    · split
      · exact hf _
      · exact h
theorem run_all (mo : Int) (h0 : 0 ≤ mo) (l : List S45) (hl : ∀ a ∈ l, a.f1.length ≤ 30) (hw : ∀ a ∈ l, WfI a.f1) (hs : ∀ a ∈ l, ∀ x ∈ a.f1, x.f0.size ≤ 300) : ∀ n, n ≤ l.length → (runL mo (l.take n) []).length ≤ 30 * n ∧ WfI (runL mo (l.take n) []) ∧ Uniq (runL mo (l.take n) []) ∧ ((runL mo (l.take n) []).length : Int) ≤ mo ∧ ∀ x ∈ runL mo (l.take n) [], x.f0.size ≤ 300 := by
  intro n
  induction n with
  | zero => intro _; exact ⟨Nat.le_refl _, fun x hx => (by cases hx), List.Pairwise.nil, h0, fun x hx => (by cases hx)⟩
  | succ n ih =>
    intro hn
    obtain ⟨i1, i2, i3, i4, i5⟩ := ih (by omega)
    have hm : l[n] ∈ l := List.getElem_mem (by omega)
    rw [List.take_add_one, List.getElem?_eq_getElem (by omega), Option.toList_some, runL_snoc]
    refine ⟨?_, fun x hx => ?_, uniq_act _ _ _ i3, fit_act _ _ _ i4, fun x hx => ?_⟩
    · have h1 := actL_len mo (runL mo (l.take n) []) l[n]
      have h2 := hl _ hm
      omega
    · rcases actL_mem mo _ _ x hx with h | h
      · exact i2 x h
      · exact hw _ hm x h
    · rcases actL_mem mo _ _ x hx with h | h
      · exact i5 x h
      · exact hs _ hm x h
theorem once_id (m : List S29) : ∀ o : List S29, (∀ x ∈ m, ∀ y ∈ o, ¬ (x.f0 = y.f0 ∧ x.f1 = y.f1)) → Uniq m → onceG o m = o ++ m := by
  induction m with
  | nil => exact fun o _ _ => (List.append_nil o).symm
  | cons y m ih =>
    intro o h hu
    have hn : ¬ namedIn o y = true := fun hy => by
      obtain ⟨z, hz, e⟩ := (namedIn_iff2 o y).1 hy
      exact h y List.mem_cons_self z hz ⟨e.1.symm, e.2.symm⟩
    show onceG (if namedIn o y = true then o else o ++ [y]) m = o ++ y :: m
    rw [if_neg hn, ih (o ++ [y]) ?_ (List.Pairwise.of_cons hu)]
    · simp
    · intro x hx z hz
      rcases List.mem_append.1 hz with hz | hz
      · exact h x (List.mem_cons_of_mem _ hx) z hz
      · rw [List.mem_singleton.1 hz]
        exact List.rel_of_pairwise_cons hu hx
theorem cut_ok (mo : Int) (at_ : ByteArray) (lA lB : List S29) (hA : lA.length < 1000000) (hB : lB.length < 1000000) (wA : WfI lA) (wB : WfI lB) (uA : Uniq lA) (fit : (lA.length : Int) ≤ mo) (sz : ∀ x ∈ lA, x.f0.size ≤ 300) (low : S29 → Bool) (hlow : low = fun x => Op.bytesLess (keyR x).toList at_.toList) : ∃ N, ∀ k, N ≤ k → CutOk k mo keyR low lA lB := by
  obtain ⟨lo, elo⟩ : ∃ lo, lo = lA.filter low := ⟨_, rfl⟩
  obtain ⟨hi, ehi⟩ : ∃ hi, hi = lA.filter (fun x => !low x) := ⟨_, rfl⟩
  have hlen := filter_len low lA
  rw [← elo, ← ehi] at hlen
  have hd : ∀ x ∈ hi, ∀ y ∈ lo, ¬ (x.f0 = y.f0 ∧ x.f1 = y.f1) := fun x hx y hy e => by
    rw [ehi] at hx
    rw [elo] at hy
    have h1 := (List.mem_filter.1 hx).2
    have h2 := (List.mem_filter.1 hy).2
    have h3 : low x = low y := by rw [hlow]; show Op.bytesLess (keyR x).toList at_.toList = Op.bytesLess (keyR y).toList at_.toList; unfold keyR; rw [e.1]
    rw [h3, h2] at h1
    cases h1
  have ho : onceG lo hi = lo ++ hi := once_id hi lo hd (by rw [ehi]; exact List.Pairwise.filter _ uA)
  have hn : newF (namesF lo) hi = hi := by
    have h := once_new lo hi (by omega)
    rw [ho] at h
    exact (List.append_cancel_left h).symm
  have h2 := once_new lA lB (by omega)
  have h2l := onceG_len lA lB
  obtain ⟨K1, h1⟩ := ev_list (g := fun (x : S29) k => record_Parse.f k x.f0) (r := fun x => parseR x.f0) lA (fun x hx => parse_ev x.f0 (by have := sz x hx; omega))
  obtain ⟨K2, h3⟩ := ev_list (g := fun (x : S29) k => shelfmarkref04_Parse.f k x.f0) (r := fun x => parseR x.f0) lA (fun x hx => refparse_ev x.f0 (by have := sz x hx; omega))
  obtain ⟨K3, h4⟩ := new_ev lo hi (by omega)
  obtain ⟨K4, h5⟩ := new_ev lA lB (by omega)
  obtain ⟨K5, h6⟩ := same_ev lo (by omega)
  obtain ⟨K6, h7⟩ := same_ev hi (by omega)
  obtain ⟨K7, h8⟩ := same_ev lA (by omega)
  obtain ⟨K8, h9⟩ := same_ev lB (by omega)
  obtain ⟨K9, h10⟩ := same_ev (lo ++ hi) (by rw [List.length_append]; omega)
  obtain ⟨K0, h11⟩ := same_ev (onceG lA lB) (by omega)
  rw [elo, ehi] at ho hn h4 h10
  rw [elo] at h6
  rw [ehi] at h7
  refine ⟨K1 + K2 + K3 + K4 + K5 + K6 + K7 + K8 + K9 + K0, fun k hk => ⟨hA, hB, wA, wB, fit, fun x hx => ⟨_, _, _, h1 k (by omega) x hx⟩, fun x hx => ⟨_, _, _, h3 k (by omega) x hx⟩, hn, ho, h2, h4 k (by omega), h5 k (by omega), h6 k (by omega), h7 k (by omega), h8 k (by omega), h9 k (by omega), h10 k (by omega), h11 k (by omega)⟩⟩
theorem law (W : World) (m0 m1 : Int) (A1 : Option Addr) (c1 : Nat) (l1 : List S45) (A2 : Option Addr) (c2 : Nat) (l2 : List S45) (a3 : ByteArray) (hr1 : Kd.C k45 W A1 l1.length l1) (hc1 : l1.length ≤ c1) (hr2 : Kd.C k45 W A2 l2.length l2) (hc2 : l2.length ≤ c2) (w0 : (Lit.int .i64 m0).wf = true ∧ (Lit.int .i64 m1).wf = true) (w1 : l1.length ≤ maxLen ∧ ∀ x ∈ l1, WF45 x) (y1 : l1.length * 72 ≤ 140737488351232) (w2 : l2.length ≤ maxLen ∧ ∀ x ∈ l2, WF45 x) (y2 : l2.length * 72 ≤ 140737488351232) (w3 : a3.size ≤ 140737488351232) :
    Calls Try.prog 6 #[.agg #[.int .i64 m0, .int .i64 m1], .slice A1 l1.length c1, .slice A2 l2.length c2, .string a3] W fun en W' => en = .returned (.bool true) ∧ Below W.heap.size W W' := by
  have hw1 : ∀ a ∈ l1, WfI a.f1 := fun a ha x hx => ⟨((w1.2 a ha).2.1.2 x hx).1, ((w1.2 a ha).2.1.2 x hx).2.1⟩
  have hw2 : ∀ a ∈ l2, WfI a.f1 := fun a ha x hx => ⟨((w2.2 a ha).2.1.2 x hx).1, ((w2.2 a ha).2.1.2 x hx).2.1⟩
  obtain ⟨la, ⟨K1, h1⟩, g1⟩ := HaOutboxPlays.light_l0 l1 (by omega) (fun a ha => (w1.2 a ha).2.1.1) l1.length 0 (by omega) (by omega)
  obtain ⟨lb, ⟨K2, h2⟩, g2⟩ := HaOutboxPlays.light_l0 l2 (by omega) (fun a ha => (w2.2 a ha).2.1.1) l2.length 0 (by omega) (by omega)
  have p0 : ∀ m : Int, 0 ≤ mx m 0 := fun m => by unfold mx; split <;> omega
  have d1 : ∃ N, la = true → ∀ k, N ≤ k → ActsOk k (mx m0 0) l1 := by
    cases la with
    | false => exact ⟨0, fun h => by cases h⟩
    | true =>
      obtain ⟨N, h3⟩ := HaOutboxPlays.acts_ok (mx m0 0) l1 (g1 rfl).1 (fun j h => ⟨((g1 rfl).2 j h (by omega)).1, ((g1 rfl).2 j h (by omega)).2.1⟩) hw1
      exact ⟨N, fun _ => h3⟩
  have d2 : ∃ N, lb = true → ∀ k, N ≤ k → ActsOk k (mx m1 0) l2 := by
    cases lb with
    | false => exact ⟨0, fun h => by cases h⟩
    | true =>
      obtain ⟨N, h3⟩ := HaOutboxPlays.acts_ok (mx m1 0) l2 (g2 rfl).1 (fun j h => ⟨((g2 rfl).2 j h (by omega)).1, ((g2 rfl).2 j h (by omega)).2.1⟩) hw2
      exact ⟨N, fun _ => h3⟩
  have d3 : ∃ N, la = true → lb = true → ∀ k, N ≤ k → CutOk k (mx m0 0) keyR (fun x => Op.bytesLess (keyR x).toList a3.toList) (runL (mx m0 0) l1 []) (runL (mx m1 0) l2 []) := by
    cases la with
    | false => exact ⟨0, fun h => by cases h⟩
    | true =>
      cases lb with
      | false => exact ⟨0, fun _ h => by cases h⟩
      | true =>
        have q : ∀ (l : List S45) (P : S45 → Prop), (∀ j (h : j < l.length), P l[j]) → ∀ a ∈ l, P a := fun l P h a ha => by
          obtain ⟨j, hj, rfl⟩ := List.getElem_of_mem ha
          exact h j hj
        have r1 := run_all (mx m0 0) (p0 m0) l1 (q l1 (fun a => a.f1.length ≤ 30) (fun j h => ((g1 rfl).2 j h (by omega)).1)) hw1 (q l1 (fun a => ∀ x ∈ a.f1, x.f0.size ≤ 300) (fun j h => ((g1 rfl).2 j h (by omega)).2.1)) l1.length (Nat.le_refl _)
        have r2 := run_all (mx m1 0) (p0 m1) l2 (q l2 (fun a => a.f1.length ≤ 30) (fun j h => ((g2 rfl).2 j h (by omega)).1)) hw2 (q l2 (fun a => ∀ x ∈ a.f1, x.f0.size ≤ 300) (fun j h => ((g2 rfl).2 j h (by omega)).2.1)) l2.length (Nat.le_refl _)
        rw [List.take_length] at r1 r2
        have z1 := (g1 rfl).1
        have z2 := (g2 rfl).1
        obtain ⟨N, h3⟩ := cut_ok (mx m0 0) a3 _ _ (by have := r1.1; omega) (by have := r2.1; omega) r1.2.1 r2.2.1 r1.2.2.1 r1.2.2.2.1 r1.2.2.2.2 _ rfl
        exact ⟨N, fun _ _ => h3⟩
  obtain ⟨N1, e1⟩ := d1
  obtain ⟨N2, e2⟩ := d2
  obtain ⟨N3, e3⟩ := d3
  exact cuts_law (K1 + K2 + N1 + N2 + N3) W m0 m1 (HaOutboxPlays.int_lt w0.1) (HaOutboxPlays.int_lt w0.2) A1 c1 l1 hr1 hc1 A2 c2 l2 hr2 hc2 a3 la lb (h1 _ (by omega)) (h2 _ (by omega)) (fun h => e1 h _ (by omega)) (fun h => e2 h _ (by omega)) _ _ rfl rfl keyR _ rfl (fun ha hb _ => e3 ha hb _ (by omega))
end Go.Proofs.Ytdaikljbljcagaa.HaOutboxCuts
