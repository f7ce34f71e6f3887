/- DERIVED. What is handed in stays; what is answered is new memory. Conditions: none but those of the statement. -/
import Derived.Test.YtmgjccpolkhhhaaAk
import Derived.Test.YtmgjccpolkhhhaaAqp
import Derived.Test.YtmgjccpolkhhhaaRs
namespace Go.Proofs.Ytmgjccpolkhhhaa.Pure
open Go.RowKit Go.Proofs.Ytmgjccpolkhhhaa.PAll Go.Proofs.YtmgjccpolkhhhaaW.PrintWords Go.Proofs.YtmgjccpolkhhhaaW.PrintLast Go.Proofs.Ytmgjccpolkhhhaa.Ap Go.Proofs.Ytmgjccpolkhhhaa.Aq Go.Proofs.Ytmgjccpolkhhhaa.Rs Go.Proofs.Ytmgjccpolkhhhaa.Ig Go.Proofs.Ytmgjccpolkhhhaa.Ak
set_option linter.unusedSimpArgs false
set_option linter.unusedVariables false
theorem awake_AtlasKeeps : Ev (fun k => shelfmarklaw12_awake.f k) true := Ev.of shelfmarklaw12_awake.mono (k := 40) (by decide +kernel)
theorem max_lt {n : Nat} (h : n ≤ maxLen) : n < 9223372036854775808 := by unfold maxLen at h; omega
theorem split_few (ep : Int) (l : List S46) (a : ByteArray) (hl : l.length < 50) : (splitS ep l a).2.1.length ≤ 1000 := by
  unfold splitS
  repeat' split
  all_goals (simp; try omega)
theorem merge_few (ep : Int) (l : List S46) (a : ByteArray) (hl : l.length < 50) : (mergeS ep l a).2.1.length ≤ 1000 := by
  unfold mergeS
  repeat' split
  all_goals (simp; try omega)
theorem move_few (ep : Int) (l : List S46) (a : ByteArray) (n : Int) (hl : l.length < 50) : (moveS ep l a n).2.1.length ≤ 1000 := by
  unfold moveS
  repeat' split
  all_goals (simp; try omega)
theorem AtlasKeeps (x0 : S24) (w0 : WF24 x0) (x1 : S40) (A : Option Addr) (c : Nat) (w : World) (hC : Kd.C k46 w A x0.f1.length x0.f1) (hc : x0.f1.length ≤ c) :
    Calls Try.prog 6 #[.agg #[.int .i64 x0.f0, .slice A x0.f1.length c], .agg #[.int .i64 x1.f0, .string x1.f1, .int .i64 x1.f2]] w fun e w' => e = .returned (.bool true) ∧ Below w.heap.size w w' := by
  have hl := max_lt w0.2.1
  obtain ⟨ep, l⟩ := x0
  obtain ⟨kind, a, n⟩ := x1
  simp only at hl hC hc ⊢
  obtain ⟨k0, haw⟩ := awake_AtlasKeeps.rounds
  obtain ⟨b, hb, hlt⟩ := Light_ev ep l hl
  obtain ⟨kL, hL⟩ := hb.rounds
  cases b with
  | false => exact keeps_dark k0 kL ep A c l kind a n w hC hc haw hL
  | true =>
    have h50 := hlt rfl
    by_cases ha : 300 < a.size
    · exact keeps_long k0 kL ep A c l kind a n w hC hc haw hL ha
    · obtain ⟨kS, hS⟩ := (Same_refl ep l hl).rounds
      by_cases hk : 1 ≤ kind ∧ kind ≤ 3
      · obtain h | h | h : kind = 1 ∨ kind = 2 ∨ kind = 3 := by omega
        · subst h
          obtain ⟨k, hk⟩ := (Split_ev ep l a hl).rounds
          exact keeps_new k0 kL kS ep A c l 1 a n w hC hc haw hL (by omega) (by omega) (by omega) (by omega) hS _ _ _ (split_few ep l a h50) (fun w1 A1 c1 h1 h2 => act_split k ep A1 c1 l a n _ _ _ w1 h1 h2 hk)
        · subst h
          obtain ⟨k, hk⟩ := (Merge_ev ep l a hl).rounds
          exact keeps_new k0 kL kS ep A c l 2 a n w hC hc haw hL (by omega) (by omega) (by omega) (by omega) hS _ _ _ (merge_few ep l a h50) (fun w1 A1 c1 h1 h2 => act_merge k ep A1 c1 l a n _ _ _ w1 h1 h2 hk)
        · subst h
          obtain ⟨k, hk⟩ := (Move_ev ep l a n hl).rounds
          exact keeps_new k0 kL kS ep A c l 3 a n w hC hc haw hL (by omega) (by omega) (by omega) (by omega) hS _ _ _ (move_few ep l a n h50) (fun w1 A1 c1 h1 h2 => act_move k ep A1 c1 l a n _ _ _ w1 h1 h2 hk)
      · exact keeps_old k0 kL kS ep A c l kind a n w hC hc haw hL (by omega) (by omega) hk hS
end Go.Proofs.Ytmgjccpolkhhhaa.Pure
