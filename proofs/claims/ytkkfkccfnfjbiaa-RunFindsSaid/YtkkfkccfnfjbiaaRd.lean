/- DERIVED. Merge of both sides comes to the same. Conditions: those that each lemma names. -/
import Derived.Test.YtkkfkccfnfjbiaaRc
namespace Go.Proofs.Ytkkfkccfnfjbiaa.Rd
open Go.RowKit Go.Proofs.Ytkkfkccfnfjbiaa.PAll Go.Proofs.YtkkfkccfnfjbiaaW.PrintWords Go.Proofs.YtkkfkccfnfjbiaaW.PrintLast Go.Proofs.Ytkkfkccfnfjbiaa.Ht Go.Proofs.Ytkkfkccfnfjbiaa.Hu Go.Proofs.Ytkkfkccfnfjbiaa.Hv Go.Proofs.Ytkkfkccfnfjbiaa.Hw Go.Proofs.Ytkkfkccfnfjbiaa.Ra Go.Proofs.Ytkkfkccfnfjbiaa.Rb Go.Proofs.Ytkkfkccfnfjbiaa.Rc
set_option linter.unusedSimpArgs false
set_option linter.unusedVariables false
theorem mem_putL {c x : S37} : ∀ {l : List S37}, Sorted l → (x ∈ putL l c ↔ x = c ∨ (x ∈ l ∧ K x ≠ K c))
  | [], _ => by simp [putL]
  | y :: t, h => by
    obtain ⟨h1, h2⟩ := List.pairwise_cons.1 h
    have ih := mem_putL (c := c) (x := x) h2
    rw [putL]
    by_cases a : K y < K c
    · rw [if_pos a, List.mem_cons, ih, List.mem_cons]
      constructor
      · rintro (rfl | rfl | ⟨h3, h4⟩)
        · exact .inr ⟨.inl rfl, fun e => by rw [e] at a; exact List.lt_irrefl _ a⟩
        · exact .inl rfl
        · exact .inr ⟨.inr h3, h4⟩
      · rintro (rfl | ⟨rfl | h3, h4⟩)
        · exact .inr (.inl rfl)
        · exact .inl rfl
        · exact .inr (.inr ⟨h3, h4⟩)
    · rw [if_neg a]
      by_cases b : K y = K c
      · rw [if_pos b, List.mem_cons, List.mem_cons]
        constructor
        · rintro (rfl | h3)
          · exact .inl rfl
          · exact .inr ⟨.inr h3, fun e => by have := h1 x h3; rw [b, e] at this; exact List.lt_irrefl _ this⟩
        · rintro (rfl | ⟨rfl | h3, h4⟩)
          · exact .inl rfl
          · exact absurd b h4
          · exact .inr h3
      · rw [if_neg b, List.mem_cons, List.mem_cons]
        have hcy : K c < K y := by
          by_cases e : K c < K y
          · exact e
          · exact absurd (List.le_antisymm e a) b
        constructor
        · rintro (rfl | rfl | h3)
          · exact .inl rfl
          · exact .inr ⟨.inl rfl, b⟩
          · exact .inr ⟨.inr h3, fun e => by have := h1 x h3; rw [e] at this; exact List.lt_irrefl _ (List.lt_trans this hcy)⟩
        · rintro (rfl | ⟨h3, h4⟩)
          · exact .inl rfl
          · exact .inr h3
theorem sorted_putL (c : S37) : ∀ {l : List S37}, Sorted l → Sorted (putL l c)
  | [], _ => List.pairwise_singleton _ _
  | y :: t, h => by
    obtain ⟨h1, h2⟩ := List.pairwise_cons.1 h
    rw [putL]
    by_cases a : K y < K c
    · rw [if_pos a]
      refine List.pairwise_cons.2 ⟨fun d hd => ?_, sorted_putL c h2⟩
      rcases (mem_putL h2).1 hd with rfl | ⟨h3, _⟩
      · exact a
      · exact h1 d h3
    · rw [if_neg a]
      by_cases b : K y = K c
      · rw [if_pos b]
        exact List.pairwise_cons.2 ⟨fun d hd => by rw [← b]; exact h1 d hd, h2⟩
      · rw [if_neg b]
        have hcy : K c < K y := by
          by_cases e : K c < K y
          · exact e
          · exact absurd (List.le_antisymm e a) b
        refine List.pairwise_cons.2 ⟨fun d hd => ?_, h⟩
        rcases List.mem_cons.1 hd with rfl | h3
        · exact hcy
        · exact List.lt_trans hcy (h1 d h3)
theorem sorted_putAll : ∀ (l out : List S37), Sorted out → Sorted (putsL out l)
  | [], out, h => h
  | c :: t, out, h => sorted_putAll t _ (sorted_putL (norm c) h)
theorem mem_putAll {x : S37} : ∀ (l out : List S37), Sorted out → Sorted l → (∀ c ∈ l, tidyB c = true) → (x ∈ putsL out l ↔ x ∈ l ∨ (x ∈ out ∧ ∀ d ∈ l, K d ≠ K x))
  | [], out, _, _, _ => by simp [putsL]
  | c :: t, out, ho, hl, ht => by
    obtain ⟨h1, h2⟩ := List.pairwise_cons.1 hl
    have ih := mem_putAll (x := x) t (putL out (norm c)) (sorted_putL _ ho) h2 (fun d hd => ht d (List.mem_cons_of_mem _ hd))
    show x ∈ putsL (putL out (norm c)) t ↔ _
    rw [norm_tidy (ht c (by simp))] at ih ⊢
    rw [ih, mem_putL ho, List.mem_cons, List.forall_mem_cons]
    constructor
    · rintro (h3 | ⟨rfl | ⟨h3, h4⟩, h5⟩)
      · exact .inl (.inr h3)
      · exact .inl (.inl rfl)
      · exact .inr ⟨h3, fun e => h4 e.symm, h5⟩
    · rintro ((rfl | h3) | ⟨h3, h4, h5⟩)
      · exact .inr ⟨.inl rfl, fun d hd e => by have := h1 d hd; rw [e] at this; exact List.lt_irrefl _ this⟩
      · exact .inl h3
      · exact .inr ⟨.inr ⟨h3, fun e => h4 e.symm⟩, h5⟩
/-- What the first of the lists that know its key has. -/
def FirstC : List (List S37) → S37 → Prop
  | [], _ => False
  | l :: t, c => c ∈ l ∨ ((∀ d ∈ l, K d ≠ K c) ∧ FirstC t c)
def refFold (ls : List (List S37)) (out : List S37) : List S37 := ls.foldr (fun l o => putsL o l) out
theorem sorted_refFold : ∀ (ls : List (List S37)) (out : List S37), Sorted out → Sorted (refFold ls out)
  | [], out, h => h
  | l :: t, out, h => sorted_putAll l _ (sorted_refFold t out h)
theorem mem_refFold {c : S37} : ∀ ls : List (List S37), (∀ l ∈ ls, rightB l = true) → (c ∈ refFold ls [] ↔ FirstC ls c)
  | [], _ => by simp [refFold, FirstC]
  | l :: t, h => by
    have ih := mem_refFold (c := c) t (fun x hx => h x (List.mem_cons_of_mem _ hx))
    have hr := (right_iff l).1 (h l (by simp))
    show c ∈ putsL (refFold t []) l ↔ _
    rw [mem_putAll l _ (sorted_refFold t [] List.Pairwise.nil) hr.1 hr.2, ih, FirstC]
    exact or_congr Iff.rfl and_comm
theorem headsL_which : ∀ (ls : List (List S37)) (i : Nat), ∀ x ∈ headsL ls i, (i : Int) ≤ x.f1
  | [], i, x, h => by simp [headsL] at h
  | l :: t, i, x, h => by
    simp only [headsL] at h
    split at h
    · have := headsL_which t (i + 1) x h; omega
    · rcases List.mem_cons.1 h with rfl | h
      · exact Int.le_refl _
      · have := headsL_which t (i + 1) x h; omega
theorem headsL_nodup : ∀ (ls : List (List S37)) (i : Nat), ((headsL ls i).map (·.f1)).Nodup
  | [], i => List.nodup_nil
  | l :: t, i => by
    simp only [headsL]
    split
    · exact headsL_nodup t (i + 1)
    · rw [List.map_cons, List.nodup_cons]
      refine ⟨fun h => ?_, headsL_nodup t (i + 1)⟩
      obtain ⟨x, hx, e⟩ := List.mem_map.1 h
      have e2 : x.f1 = (i : Int) := e
      have := headsL_which t (i + 1) x hx
      omega
theorem headsL_mem : ∀ (ls : List (List S37)) (i : Nat), ∀ x ∈ headsL ls i, x.f0 ∈ ls
  | [], i, x, h => by simp [headsL] at h
  | l :: t, i, x, h => by
    simp only [headsL] at h
    split at h
    · exact List.mem_cons_of_mem _ (headsL_mem t _ x h)
    · rcases List.mem_cons.1 h with rfl | h
      · simp
      · exact List.mem_cons_of_mem _ (headsL_mem t _ x h)
theorem has_heads {c : S37} : ∀ (ls : List (List S37)) (i : Nat), Has (headsL ls i) c ↔ FirstC ls c
  | [], i => by simp [headsL, FirstC, Has]
  | l :: t, i => by
    have ih := has_heads (c := c) t (i + 1)
    simp only [headsL]
    by_cases hl : l = []
    · rw [if_pos hl, ih, FirstC, hl]; simp
    · rw [if_neg hl, FirstC, ← ih]
      have hw := headsL_which t (i + 1)
      constructor
      · rintro ⟨y, h1, h2, h3⟩
        rcases List.mem_cons.1 h1 with rfl | h1
        · exact .inl h2
        · refine .inr ⟨fun d hd e => ?_, y, h1, h2, fun h' hh => h3 h' (List.mem_cons_of_mem _ hh)⟩
          have h5 : y.f1 ≤ (i : Int) := h3 _ List.mem_cons_self d hd e
          have h6 := hw y h1
          omega
      · rintro (h1 | ⟨h1, y, h2, h3, h4⟩)
        · refine ⟨_, List.mem_cons_self, h1, fun h' hh c' hc' e => ?_⟩
          rcases List.mem_cons.1 hh with rfl | hh
          · exact Int.le_refl _
          · have := hw h' hh; show (i : Int) ≤ _; omega
        · refine ⟨y, List.mem_cons_of_mem _ h2, h3, fun h' hh c' hc' e => ?_⟩
          rcases List.mem_cons.1 hh with rfl | hh
          · exact absurd e (h1 c' hc')
          · exact h4 h' hh c' hc' e
theorem Ev_map {α β : Type} {g : Nat → Option α} {a : α} (f : α → β) (h : Ev g a) : Ev (fun k => (g k).map f) (f a) := by
  obtain ⟨n, hn⟩ := h
  exact ⟨n, fun k hk => by show (g k).map f = _; rw [hn k hk]; rfl⟩
def tot (ls : List (List S37)) : Nat := (ls.map List.length).sum
theorem tot_app (a : List (List S37)) (l : List S37) : tot (a ++ [l]) = tot a + l.length := by simp [tot]
theorem refFold_app (a : List (List S37)) (l out : List S37) : refFold (a ++ [l]) out = refFold a (putsL out l) := by simp [refFold]
theorem le_tot : ∀ (ls : List (List S37)) (l : List S37), l ∈ ls → l.length ≤ tot ls
  | x :: t, l, h => by
    have e : tot (x :: t) = x.length + tot t := by simp [tot]
    rcases List.mem_cons.1 h with rfl | h
    · omega
    · have := le_tot t l h; omega
theorem total_heads : ∀ (ls : List (List S37)) (i : Nat), total (headsL ls i) = tot ls
  | [], i => rfl
  | l :: t, i => by
    have ih := total_heads t (i + 1)
    simp only [headsL, tot, List.map_cons, List.sum_cons] at *
    split
    · rename_i h; rw [ih, h]; simp
    · simp only [total, List.map_cons, List.sum_cons] at *; rw [ih]
theorem run_merge_ev (ls : List (List S37)) (hl : ls.length ≤ 1000) (ht : tot ls < 1000000) : Ev (fun k => PAll.run_Merge.f k ls) (if ls.all rightB = true then (refFold ls [], 0) else ([], 3)) := by
  have hlen : ∀ l ∈ ls, l.length < 9223372036854775807 := by
    intro l hm
    have := le_tot ls l hm
    omega
  show Ev (fun k => Go.Proofs.Ytkkfkccfnfjbiaa.Hw.run_Merge.f k ls) _
  unfold Go.Proofs.Ytkkfkccfnfjbiaa.Hw.run_Merge.f
  simp only [if_pos hl]
  refine Ev.bind (rightL_ev ls hlen) ?_
  cases hb : ls.all rightB with
  | false => simp only [Bool.false_eq_true, if_false]; exact Ev.now _
  | true =>
    simp only [if_true]
    have hr : ∀ l ∈ ls, rightB l = true := by simpa using hb
    obtain ⟨vs, h1, h2, h3⟩ := init_ok ((headsL ls 0).length / 2) (headsL ls 0) (headsL ls 0).length (Nat.le_refl _) (by omega) (heaped_half _ _)
    have hlv : vs.length = (headsL ls 0).length := h2.length_eq
    rw [h1]
    simp only [Option.bind_some]
    have hinv : Inv vs [] := Inv.perm h2.symm ⟨List.Pairwise.nil, fun x hx => ((right_iff _).1 (hr _ (headsL_mem ls 0 x hx))).1, (fun c hc => by cases hc), headsL_nodup ls 0⟩
    obtain ⟨r, hev, hs, hm⟩ := merge_l (total vs) vs [] (Nat.le_refl _) hinv (fun y hy => headsL_full ls 0 y (h2.mem_iff.1 hy)) (by rw [hlv]; exact h3) (by rw [total_perm h2, total_heads]; simpa using ht)
    have e : r = refFold ls [] := by
      refine hs.ext (sorted_refFold ls [] List.Pairwise.nil) fun c => ?_
      rw [hm, Will.perm h2, mem_refFold ls hr]
      unfold Will
      rw [has_heads]
      simp
    rw [← e]
    exact Ev_map (fun o => (o, (0 : Int))) hev
theorem refFold_len : ∀ (ls : List (List S37)) (out : List S37), (refFold ls out).length ≤ out.length + tot ls
  | [], out => by simp [refFold, tot]
  | l :: t, out => by
    have h1 := refFold_len t out
    have h2 := putAll_len l (refFold t out)
    show (putsL (refFold t out) l).length ≤ _
    have : tot (l :: t) = l.length + tot t := by simp [tot]
    omega
theorem ref_l2 (ls : List (List S37)) (R : List S37 × Int) (i : Nat) (hi : i < ls.length) (hlen : ls[i].length < 3518437208000) : ∀ (m j : Nat) (out : List S37), j + m = ls[i].length → out.length + m < 3518437208000 → Ev (fun k => shelfmarkref09_Merge.l1 k ls (putsL out (ls[i].drop j)) (wrap64 ((i : Int) - 1))) R → Ev (fun k => shelfmarkref09_Merge.l2 k ls out (i : Int) (j : Int)) R
  | 0, j, out, h, hl, hR => by
    refine Ev.step (fun _ => shelfmarkref09_Merge.l2.eq_2 ..) (Ev.congr (fun k => ?_) hR)
    rw [if_pos (show (0 : Int) ≤ (i : Int) by omega), if_pos (show (i : Int) < (ls.length : Int) by omega), rdL_get ls i hi, if_neg (by omega), List.drop_eq_nil_of_le (show ls[i].length ≤ j by omega)]
    rfl
  | m + 1, j, out, h, hl, hR => by
    have hj : j < ls[i].length := by omega
    have hp := put_ev out (ls[i][j]) (by omega)
    have ih := ref_l2 ls R i hi hlen m (j + 1) (putL out (norm ls[i][j])) (by omega) (by have := putL_len (norm ls[i][j]) out; omega) (by
      have e : ls[i].drop j = ls[i][j] :: ls[i].drop (j + 1) := List.drop_eq_getElem_cons hj
      rw [e] at hR
      exact hR)
    refine Ev.step (fun _ => shelfmarkref09_Merge.l2.eq_2 ..) (Ev.congr (fun k => ?_) (Ev.bind (f := fun k o => shelfmarkref09_Merge.l2 k ls o (i : Int) ((j + 1 : Nat) : Int)) hp ih))
    rw [if_pos (show (0 : Int) ≤ (i : Int) by omega), if_pos (show (i : Int) < (ls.length : Int) by omega), rdL_get ls i hi, if_pos (by omega), if_pos (by omega), rd_get _ j hj, up1 (by omega)]
theorem ref_l1 (ls : List (List S37)) (hn : ls.length < 1000000) : ∀ (n : Nat) (out : List S37), n ≤ ls.length → out.length + tot (ls.take n) < 3518437208000 → Ev (fun k => shelfmarkref09_Merge.l1 k ls out ((n : Int) - 1)) (refFold (ls.take n) out, 0)
  | 0, out, h, hl => by
    refine Ev.step (fun _ => shelfmarkref09_Merge.l1.eq_2 ..) (Ev.congr (fun k => ?_) (Ev.now _))
    rw [if_neg (by omega)]
    rfl
  | n + 1, out, h, hl => by
    have hn' : n < ls.length := by omega
    have et : ls.take (n + 1) = ls.take n ++ [ls[n]] := List.take_succ_eq_append_getElem hn'
    rw [et] at hl ⊢
    have e1 := tot_app (ls.take n) ls[n]
    have e2 := refFold_app (ls.take n) ls[n] out
    rw [e1] at hl
    rw [e2]
    have hp := putAll_len ls[n] out
    have ih := ref_l1 ls hn n (putsL out ls[n]) (by omega) (by omega)
    have h2 := ref_l2 ls _ n hn' (by omega) ls[n].length 0 out (by omega) (by omega) (by
      rw [List.drop_zero, show wrap64 ((n : Int) - 1) = (n : Int) - 1 from w64 (by omega) (by omega)]
      exact ih)
    refine Ev.step (fun _ => shelfmarkref09_Merge.l1.eq_2 ..) (Ev.congr (fun k => ?_) h2)
    rw [if_pos (by omega), show (((n + 1 : Nat) : Int) - 1) = (n : Int) by omega]
    rfl
theorem ref_l0 (ls : List (List S37)) (hn : ls.length < 1000000) (ht : tot ls < 1000000) : ∀ (m i : Nat), i + m = ls.length → Ev (fun k => shelfmarkref09_Merge.l0 k ls (i : Int)) (if (ls.drop i).all rightB = true then (refFold ls [], 0) else ([], 3))
  | 0, i, h => by
    have hR := ref_l1 ls hn ls.length [] (Nat.le_refl _) (by rw [List.take_length]; simp only [List.length_nil]; omega)
    rw [List.take_length] at hR
    rw [List.drop_eq_nil_of_le (show ls.length ≤ i by omega)]
    refine Ev.step (fun _ => shelfmarkref09_Merge.l0.eq_2 ..) (Ev.congr (fun k => ?_) hR)
    rw [if_neg (by omega), show wrap64 ((ls.length : Int) - 1) = (ls.length : Int) - 1 from w64 (by omega) (by omega)]
  | m + 1, i, h => by
    have hi : i < ls.length := by omega
    have hlen := le_tot ls ls[i] (List.getElem_mem hi)
    have ih := ref_l0 ls hn ht m (i + 1) (by omega)
    have hr := ref_right_ev ls[i] (by omega)
    have e : ls.drop i = ls[i] :: ls.drop (i + 1) := List.drop_eq_getElem_cons hi
    rw [e, List.all_cons]
    have hq : Ev (fun k => if rightB ls[i] = true then shelfmarkref09_Merge.l0 k ls ((i + 1 : Nat) : Int) else some (([] : List S37), (3 : Int))) (if (rightB ls[i] && (ls.drop (i + 1)).all rightB) = true then (refFold ls [], 0) else ([], 3)) := by
      cases rightB ls[i] with
      | true => simp only [if_true, Bool.true_and]; exact ih
      | false => simp only [Bool.false_eq_true, if_false, Bool.false_and]; exact Ev.now _
    refine Ev.step (fun _ => shelfmarkref09_Merge.l0.eq_2 ..) (Ev.congr (fun k => ?_) (Ev.bind (f := fun k b => if b = true then shelfmarkref09_Merge.l0 k ls ((i + 1 : Nat) : Int) else some (([] : List S37), (3 : Int))) hr hq))
    rw [if_pos (by omega), if_pos (by omega), rdL_get ls i hi, up1 (by omega)]
theorem ref_merge_ev (ls : List (List S37)) (hn : ls.length < 1000000) (ht : tot ls < 1000000) : Ev (fun k => shelfmarkref09_Merge.f k ls) (if ls.all rightB = true then (refFold ls [], 0) else ([], 3)) := by
  unfold shelfmarkref09_Merge.f
  exact ref_l0 ls hn ht ls.length 0 (by omega)
theorem same_l0 (l : List S37) (hl : l.length < 9223372036854775807) : ∀ (m i : Nat), i + m = l.length → Ev (fun k => shelfmarkref09_Same.l0 k l l (i : Int)) true
  | 0, i, h => by
    refine Ev.step (fun _ => shelfmarkref09_Same.l0.eq_2 ..) (Ev.congr (fun k => ?_) (Ev.now _))
    rw [if_neg (by omega)]
  | m + 1, i, h => by
    refine Ev.step (fun _ => shelfmarkref09_Same.l0.eq_2 ..) (Ev.congr (fun k => ?_) (same_l0 l hl m (i + 1) (by omega)))
    rw [if_pos (by omega), if_pos (by omega), if_pos (by omega), if_neg (by simp), up1 (by omega)]
theorem same_ev (l : List S37) (hl : l.length < 9223372036854775807) : Ev (fun k => shelfmarkref09_Same.f k l l) true := by
  unfold shelfmarkref09_Same.f
  simp only [if_true]
  exact same_l0 l hl l.length 0 (by omega)
end Go.Proofs.Ytkkfkccfnfjbiaa.Rd
