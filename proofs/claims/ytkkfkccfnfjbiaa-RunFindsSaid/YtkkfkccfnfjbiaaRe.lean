/- DERIVED. Light lists: few, and their texts short. Conditions: those that each lemma names. -/
import Derived.Test.YtkkfkccfnfjbiaaRd
import Derived.Test.YtkkfkccfnfjbiaaPAllx9
import Derived.Test.YtkkfkccfnfjbiaaPAllx9
namespace Go.Proofs.Ytkkfkccfnfjbiaa.Re
open Go.RowKit Go.Proofs.Ytkkfkccfnfjbiaa.PAll Go.Proofs.YtkkfkccfnfjbiaaW.PrintWords Go.Proofs.YtkkfkccfnfjbiaaW.PrintLast Go.Proofs.Ytkkfkccfnfjbiaa.Ra Go.Proofs.Ytkkfkccfnfjbiaa.Rb Go.Proofs.Ytkkfkccfnfjbiaa.Rc Go.Proofs.Ytkkfkccfnfjbiaa.Rd
set_option linter.unusedSimpArgs false
set_option linter.unusedVariables false
theorem mn_le (n : Nat) : 0 ≤ mn (n : Int) 4001 ∧ mn (n : Int) 4001 ≤ 4001 := by unfold mn; omega
theorem light_l0 (l : List S37) (hl : l.length ≤ 1000) : ∀ (m i : Nat) (x : Int), i + m = l.length → 0 ≤ x → x ≤ 20000 → ∃ b, Ev (fun k => shelfmarkref09_Light.l0 k l x (i : Int)) b
  | 0, i, x, h, h0, h1 => ⟨decide (x ≤ 4000), by
    refine Ev.step (fun _ => shelfmarkref09_Light.l0.eq_2 ..) (Ev.congr (fun k => ?_) (Ev.now _))
    rw [if_neg (by omega)]⟩
  | m + 1, i, x, h, h0, h1 => by
    by_cases hx : x ≤ 4000
    · have ha := mn_le (rd_T37 l (i : Int)).f0.size
      have hb := mn_le (rd_T37 l (i : Int)).f1.size
      obtain ⟨b, ih⟩ := light_l0 l hl m (i + 1) (x + mn ((rd_T37 l (i : Int)).f0.size : Int) 4001 + mn ((rd_T37 l (i : Int)).f1.size : Int) 4001) (by omega) (by omega) (by omega)
      refine ⟨b, Ev.step (fun _ => shelfmarkref09_Light.l0.eq_2 ..) (Ev.congr (fun k => ?_) ih)⟩
      rw [if_pos (by omega), if_pos hx, if_pos (by omega), up1 (by omega), w64 (x := x + _) (by omega) (by omega), w64 (by omega) (by omega)]
    · refine ⟨decide (x ≤ 4000), Ev.step (fun _ => shelfmarkref09_Light.l0.eq_2 ..) (Ev.congr (fun k => ?_) (Ev.now _))⟩
      rw [if_pos (by omega), if_neg hx]
theorem light_ev (l : List S37) : ∃ b, Ev (fun k => shelfmarkref09_Light.f k l 60) b ∧ (b = true → l.length ≤ 60) := by
  unfold shelfmarkref09_Light.f
  by_cases h : (l.length : Int) > 60
  · refine ⟨false, ?_, (fun e => by cases e)⟩
    simp only [if_pos h]
    exact Ev.now _
  · obtain ⟨b, hb⟩ := light_l0 l (by omega) l.length 0 0 (by omega) (by omega) (by omega)
    refine ⟨b, ?_, fun _ => by omega⟩
    simp only [if_neg h]
    exact hb
theorem all_l0 (ls : List (List S37)) (hn : ls.length ≤ 10) : ∀ (m i : Nat), i + m = ls.length → ∃ b, Ev (fun k => shelfmarklaw09_light.l0 k ls (i : Int)) b ∧ (b = true → ∀ l ∈ ls.drop i, l.length ≤ 60)
  | 0, i, h => by
    refine ⟨true, Ev.step (fun _ => shelfmarklaw09_light.l0.eq_2 ..) (Ev.congr (fun k => ?_) (Ev.now _)), fun _ l hl => ?_⟩
    · rw [if_neg (by omega)]
    · rw [List.drop_eq_nil_of_le (by omega)] at hl; cases hl
  | m + 1, i, h => by
    have hi : i < ls.length := by omega
    obtain ⟨b, ih, hb⟩ := all_l0 ls hn m (i + 1) (by omega)
    obtain ⟨a, ha, hab⟩ := light_ev ls[i]
    have e : ls.drop i = ls[i] :: ls.drop (i + 1) := List.drop_eq_getElem_cons hi
    cases a with
    | true =>
      refine ⟨b, Ev.step (fun _ => shelfmarklaw09_light.l0.eq_2 ..) (Ev.congr (fun k => ?_) (Ev.bind (f := fun k t => if t = true then shelfmarklaw09_light.l0 k ls ((i + 1 : Nat) : Int) else some false) ha (Ev.congr (fun k => if_pos rfl) ih))), fun h1 l hl => ?_⟩
      · rw [if_pos (by omega), if_pos (by omega), rdL_get ls i hi, up1 (by omega)]
      · rw [e] at hl
        rcases List.mem_cons.1 hl with rfl | hl
        · exact hab rfl
        · exact hb h1 l hl
    | false =>
      refine ⟨false, Ev.step (fun _ => shelfmarklaw09_light.l0.eq_2 ..) (Ev.congr (fun k => ?_) (Ev.bind (f := fun k t => if t = true then shelfmarklaw09_light.l0 k ls ((i + 1 : Nat) : Int) else some false) ha (Ev.congr (fun k => if_neg (by decide)) (Ev.now _)))), (fun h1 => by cases h1)⟩
      rw [if_pos (by omega), if_pos (by omega), rdL_get ls i hi, up1 (by omega)]
theorem all_ev (ls : List (List S37)) : ∃ b, Ev (fun k => shelfmarklaw09_light.f k ls) b ∧ (b = true → ls.length ≤ 10 ∧ ∀ l ∈ ls, l.length ≤ 60) := by
  unfold shelfmarklaw09_light.f
  by_cases h : (ls.length : Int) > 10
  · refine ⟨false, ?_, (fun e => by cases e)⟩
    simp only [if_pos h]
    exact Ev.now _
  · obtain ⟨b, hb, h1⟩ := all_l0 ls (by omega) ls.length 0 (by omega)
    refine ⟨b, ?_, fun e => ⟨by omega, h1 e⟩⟩
    simp only [if_neg h]
    exact hb
theorem tot_le : ∀ (ls : List (List S37)) (n : Nat), (∀ l ∈ ls, l.length ≤ n) → tot ls ≤ ls.length * n
  | [], n, _ => by simp [tot]
  | l :: t, n, h => by
    have h1 := h l (by simp)
    have h2 := tot_le t n (fun x hx => h x (List.mem_cons_of_mem _ hx))
    have e : tot (l :: t) = l.length + tot t := by simp [tot]
    rw [e, List.length_cons, Nat.add_mul]
    omega
end Go.Proofs.Ytkkfkccfnfjbiaa.Re
