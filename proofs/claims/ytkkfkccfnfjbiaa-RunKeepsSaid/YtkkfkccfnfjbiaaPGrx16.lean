-- Written by a program of this session for this claim (mp.py, over the kit's print); Lean checks it.
import Derived.Test.YtkkfkccfnfjbiaaPGrx0
import Derived.Test.YtkkfkccfnfjbiaaHy
namespace Go.Proofs.Ytkkfkccfnfjbiaa.PGr
open Go.RowKit Go.Proofs.YtkkfkccfnfjbiaaW.PrintWords Go.Proofs.YtkkfkccfnfjbiaaW.PrintLast Go.Proofs.YtkkfkccfnfjbiaaW.PrintMore Go.Proofs.Ytkkfkccfnfjbiaa.Fv Go.Proofs.Ytkkfkccfnfjbiaa.Hl
attribute [local go_sem] max2_int min2_int max_two min_two max_three min_three max_four min_four str_gtr str_leq str_geq cell_set2   -- for this text's walks alone
set_option linter.unusedVariables false
set_option linter.unusedSimpArgs false

/-! ### run_Merge: function 12 -/
--@extern Hy
def run_Merge.f (k : Nat) (l0 : List (List S37)) : Option ((List (S37)) × Int) := Go.Proofs.Ytkkfkccfnfjbiaa.Hw.run_Merge.f k l0
theorem run_Merge.mono : ∀ a0 k, LeO (run_Merge.f k a0) (run_Merge.f (k + 1) a0) := Go.Proofs.Ytkkfkccfnfjbiaa.Hw.run_Merge.mono
theorem run_Merge.calls (k : Nat) (A0 : Option Addr) (c0 : Nat) (l0 : List (List S37)) (r1 : List (S37)) (r2 : Int) (w : World) (hr0 : Kd.C (Kd.slice 37 k37) w A0 l0.length l0) (hc0 : l0.length ≤ c0) (h : run_Merge.f k l0 = some (r1, r2)) :
    Calls Try.prog 12 #[.slice A0 l0.length c0] w fun e w' => ∃ v0_ : Value, e = .returned (.tuple #[v0_, .int .i64 r2]) ∧ Kd.R k37 37 w' w.heap.size (fun _ => True) v0_ r1 ∧ Below w.heap.size w w' :=
  Go.Proofs.Ytkkfkccfnfjbiaa.Hy.run_Merge.calls k A0 c0 l0 r1 r2 w hr0 hc0 h

end Go.Proofs.Ytkkfkccfnfjbiaa.PGr
