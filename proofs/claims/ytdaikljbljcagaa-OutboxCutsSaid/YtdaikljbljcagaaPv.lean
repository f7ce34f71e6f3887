/- DERIVED. The intents of a list without names that stood before; a list turned round. Conditions: those that each lemma names. DERIVED. What Light, SameIntents and Named come to, from some number of rounds on. Conditions: those that each lemma names. DERIVED. The reference's outbox, in plain words. Conditions: those that each lemma names. -/
import Derived.Test.YtdaikljbljcagaaMj
import Derived.Test.YtdaikljbljcagaaWNEv
import Derived.Test.YtdaikljbljcagaaPAllx18
import Derived.Test.YtdaikljbljcagaaPAllx16
import Derived.Test.YtdaikljbljcagaaPAllx15
namespace Go.Proofs.Ytdaikljbljcagaa.Pn
open Go.RowKit Go.Proofs.Ytdaikljbljcagaa.PAll Go.Proofs.YtdaikljbljcagaaW.PrintWords Go.Proofs.YtdaikljbljcagaaW.PrintLast
set_option linter.unusedSimpArgs false
set_option linter.unusedVariables false
def namedIn (l : List S29) (x : S29) : Bool := l.any (fun y => decide (y.f0.toList = x.f0.toList) && decide (y.f1 = x.f1))
theorem onceF_len_ (l : List S29) : ∀ o : List S29, (l.foldl (fun o x => if namedIn o x = true then o else o ++ [x]) o).length ≤ o.length + l.length := by
  induction l with
  | nil => intro o; exact Nat.le_refl _
  | cons x l ih =>
    intro o
    rw [List.foldl_cons, List.length_cons]
    refine Nat.le_trans (ih _) ?_
    split
    · omega
    · rw [List.length_append, List.length_singleton]; omega
end Go.Proofs.Ytdaikljbljcagaa.Pn
namespace Go.Proofs.Ytdaikljbljcagaa.Pv
open Go.RowKit Go.Proofs.Ytdaikljbljcagaa.Pn Go.Proofs.Ytdaikljbljcagaa.PAll Go.Proofs.YtdaikljbljcagaaW.PrintWords Go.Proofs.YtdaikljbljcagaaW.PrintLast
set_option linter.unusedSimpArgs false
set_option linter.unusedVariables false
theorem w64 {x : Int} (h0 : -9223372036854775808 ≤ x) (h1 : x < 9223372036854775808) : wrap64 x = x := Go.IntWalk.wrap64_in _ (by omega)
theorem rd_get (l : List S29) (i : Nat) (h : i < l.length) : rd_T29 l (i : Int) = l[i] := by
  unfold rd_T29
  rw [Int.toNat_natCast, List.getD_eq_getElem?_getD, List.getElem?_eq_getElem h]; rfl
theorem up1 {i : Nat} (h : i < 9223372036854775807) : wrap64 ((i : Int) + 1) = ((i + 1 : Nat) : Int) := by rw [w64 (by omega) (by omega)]; omega
theorem light_l0 (l : List S29) (n : Nat) (hl : l.length ≤ 9223372036854775807) : ∀ (s i : Nat), l.length - i ≤ s → i ≤ l.length → ∃ b, Ev (fun k => shelfmarkref18_Light.l0 k l (n : Int) (i : Int)) b ∧ (b = true → l.length ≤ n ∧ ∀ j (h : j < l.length), i ≤ j → l[j].f0.size ≤ 300) := by
  have fin : ∀ (s i : Nat) (f : Nat → Option Bool), (∀ k, f (k + 1) = shelfmarkref18_Light.j1 k l (n : Int) (i : Int) false) → Ev f (decide ((l.length : Int) ≤ (n : Int))) := fun s i f hf =>
    Ev.step hf (Ev.step (fun _ => shelfmarkref18_Light.j1.eq_2 ..) (Ev.congr (fun k => if_neg (by decide)) (Ev.now _)))
  intro s
  induction s with
  | zero =>
    intro i hs hi
    refine ⟨_, fin 0 i _ (fun k => (shelfmarkref18_Light.l0.eq_2 ..).trans (if_neg (by omega))), fun h => ⟨by have := of_decide_eq_true h; omega, fun j h1 h2 => by omega⟩⟩
  | succ s ih =>
    intro i hs hi
    by_cases hlt : i < l.length
    · by_cases hn : i ≤ n
      · by_cases hz : ((l[i].f0).size : Int) > 300
        · have hj : Ev (fun k => shelfmarkref18_Light.j1 k l (n : Int) (i : Int) true) false := by
            refine Ev.step (fun _ => shelfmarkref18_Light.j1.eq_2 ..) (Ev.congr (fun k => ?_) (Ev.now _))
            rw [if_pos rfl, if_pos (by omega), if_pos (by omega), rd_get l i hlt, if_pos hz]
          refine ⟨false, Ev.step (fun _ => shelfmarkref18_Light.l0.eq_2 ..) (Ev.congr (fun k => ?_) hj), fun h => by cases h⟩
          rw [if_pos (by omega), decide_eq_true (by omega)]
        · obtain ⟨b, h1, h2⟩ := ih (i + 1) (by omega) (by omega)
          have hj : Ev (fun k => shelfmarkref18_Light.j1 k l (n : Int) (i : Int) true) b := by
            refine Ev.step (fun _ => shelfmarkref18_Light.j1.eq_2 ..) (Ev.congr (fun k => ?_) h1)
            rw [if_pos rfl, if_pos (by omega), if_pos (by omega), rd_get l i hlt, if_neg hz, up1 (by omega)]
          refine ⟨b, Ev.step (fun _ => shelfmarkref18_Light.l0.eq_2 ..) (Ev.congr (fun k => ?_) hj), fun h => ⟨(h2 h).1, fun j hj hij => ?_⟩⟩
          · rw [if_pos (by omega), decide_eq_true (by omega)]
          · by_cases e : i = j
            · subst e
              omega
            · exact (h2 h).2 j hj (by omega)
      · refine ⟨_, fin 0 i _ (fun k => (shelfmarkref18_Light.l0.eq_2 ..).trans ((if_pos (by omega)).trans (by rw [decide_eq_false (by omega)]))), fun h => by have := of_decide_eq_true h; omega⟩
    · refine ⟨_, fin 0 i _ (fun k => (shelfmarkref18_Light.l0.eq_2 ..).trans (if_neg (by omega))), fun h => ⟨by have := of_decide_eq_true h; omega, fun j h1 h2 => by omega⟩⟩
theorem light_ev (l : List S29) (n : Nat) (hl : l.length ≤ 9223372036854775807) : ∃ b, Ev (fun k => shelfmarkref18_Light.f k l (n : Int)) b ∧ (b = true → l.length ≤ n ∧ ∀ x ∈ l, x.f0.size ≤ 300) := by
  obtain ⟨b, h1, h2⟩ := light_l0 l n hl l.length 0 (by omega) (by omega)
  refine ⟨b, h1, fun h => ⟨(h2 h).1, fun x hx => ?_⟩⟩
  obtain ⟨i, hi, rfl⟩ := List.getElem_of_mem hx
  exact (h2 h).2 i hi (by omega)
theorem same_l0 (l : List S29) (hl : l.length < 4611686018427387904) : ∀ (s i : Nat), l.length - i ≤ s → i ≤ l.length → Ev (fun k => shelfmarkref13_SameIntents.l0 k l l (i : Int)) true := by
  intro s
  induction s with
  | zero =>
    intro i hs hi
    exact Ev.step (fun _ => shelfmarkref13_SameIntents.l0.eq_2 ..) (Ev.congr (fun k => if_neg (by omega)) (Ev.now _))
  | succ s ih =>
    intro i hs hi
    by_cases hlt : i < l.length
    · refine Ev.step (fun _ => shelfmarkref13_SameIntents.l0.eq_2 ..) (Ev.congr (fun k => ?_) (ih (i + 1) (by omega) (by omega)))
      rw [if_pos (by omega), if_pos (by omega), if_pos (by omega), if_neg (by simp), up1 (by omega)]
    · exact Ev.step (fun _ => shelfmarkref13_SameIntents.l0.eq_2 ..) (Ev.congr (fun k => if_neg (by omega)) (Ev.now _))
theorem same_ev (l : List S29) (hl : l.length < 4611686018427387904) : Ev (fun k => shelfmarkref13_SameIntents.f k l l) true := by
  unfold shelfmarkref13_SameIntents.f
  refine Ev.congr (fun k => if_pos rfl) ?_
  exact same_l0 l hl l.length 0 (by omega) (by omega)
theorem named_l0 (l : List S29) (hl : l.length < 4611686018427387904) (x : S29) : ∀ (s i : Nat), l.length - i ≤ s → i ≤ l.length → Ev (fun k => shelfmarkref18_Named.l0 k l (i : Int) x.f0 x.f1 x.f2) (namedIn (l.drop i) x) := by
  intro s
  induction s with
  | zero =>
    intro i hs hi
    obtain rfl : i = l.length := by omega
    rw [List.drop_length]
    exact Ev.step (fun _ => shelfmarkref18_Named.l0.eq_2 ..) (Ev.congr (fun k => if_neg (by omega)) (Ev.now _))
  | succ s ih =>
    intro i hs hi
    by_cases hlt : i < l.length
    · have h1 := ih (i + 1) (by omega) (by omega)
      have e : namedIn (l.drop i) x = ((decide (l[i].f0.toList = x.f0.toList) && decide (l[i].f1 = x.f1)) || namedIn (l.drop (i + 1)) x) := by
        unfold namedIn
        rw [List.drop_eq_getElem_cons hlt, List.any_cons]
      rw [e]
      by_cases h2 : l[i].f0.toList = x.f0.toList
      · by_cases h3 : l[i].f1 = x.f1
        · rw [decide_eq_true h2, decide_eq_true h3]
          refine Ev.step (fun _ => shelfmarkref18_Named.l0.eq_2 ..) (Ev.congr (fun k => ?_) (Ev.now _))
          rw [if_pos (by omega), if_pos (by omega), rd_get l i hlt, if_pos h2, if_pos h3]
          rfl
        · rw [decide_eq_false h3, Bool.and_false, Bool.false_or]
          refine Ev.step (fun _ => shelfmarkref18_Named.l0.eq_2 ..) (Ev.congr (fun k => ?_) h1)
          rw [if_pos (by omega), if_pos (by omega), rd_get l i hlt, if_pos h2, if_neg h3, up1 (by omega)]
      · rw [decide_eq_false h2, Bool.false_and, Bool.false_or]
        refine Ev.step (fun _ => shelfmarkref18_Named.l0.eq_2 ..) (Ev.congr (fun k => ?_) h1)
        rw [if_pos (by omega), if_pos (by omega), rd_get l i hlt, if_neg h2, up1 (by omega)]
    · obtain rfl : i = l.length := by omega
      rw [List.drop_length]
      exact Ev.step (fun _ => shelfmarkref18_Named.l0.eq_2 ..) (Ev.congr (fun k => if_neg (by omega)) (Ev.now _))
theorem named_ev (l : List S29) (hl : l.length < 4611686018427387904) (x : S29) : Ev (fun k => shelfmarkref18_Named.f k l x.f0 x.f1 x.f2) (namedIn l x) := by
  have := named_l0 l hl x l.length 0 (by omega) (by omega)
  rwa [List.drop_zero] at this
theorem ev_all {α : Type} {g : Nat → Nat → Option α} {r : Nat → α} : ∀ n, (∀ j, j < n → Ev (g j) (r j)) → ∃ N, ∀ k, N ≤ k → ∀ j, j < n → g j k = some (r j)
  | 0, _ => ⟨0, fun _ _ j hj => by omega⟩
  | n + 1, h => by
    obtain ⟨N, hN⟩ := ev_all n (fun j hj => h j (by omega))
    obtain ⟨M, hM⟩ := h n (by omega)
    refine ⟨max N M, fun k hk j hj => ?_⟩
    by_cases e : j = n
    · subst e
      exact hM k (by omega)
    · exact hN k (by omega) j (by omega)
end Go.Proofs.Ytdaikljbljcagaa.Pv
namespace Go.Proofs.Ytdaikljbljcagaa.Pq
open Go.RowKit Go.Proofs.Ytdaikljbljcagaa.PAll Go.Proofs.YtdaikljbljcagaaW.PrintWords Go.Proofs.YtdaikljbljcagaaW.PrintLast Go.Proofs.Ytdaikljbljcagaa.Pn
set_option linter.unusedSimpArgs false
set_option linter.unusedVariables false
/-- Those of a list that aren't there yet are laid behind. -/
def onceG (o l : List S29) : List S29 := l.foldl (fun o x => if namedIn o x = true then o else o ++ [x]) o
theorem onceG_snoc (o l : List S29) (x : S29) : onceG o (l ++ [x]) = if namedIn (onceG o l) x = true then onceG o l else onceG o l ++ [x] := by unfold onceG; rw [List.foldl_append]; rfl
theorem onceG_len (o l : List S29) : (onceG o l).length ≤ o.length + l.length := onceF_len_ l o
/-- May an intent not be? -/
def badI (pe : S29 → Int) (x : S29) : Bool := !(pe x == 0) || (decide (x.f1 < 1) || decide (x.f1 > 1099511627776))
def raddE (mo : Int) (l m : List S29) (bad : Bool) : Int := if bad = true then 1 else if ((onceG l m).length : Int) > mo then 6 else 0
def raddL (mo : Int) (l m : List S29) (bad : Bool) : List S29 := if raddE mo l m bad = 0 then onceG l m else l
end Go.Proofs.Ytdaikljbljcagaa.Pq
