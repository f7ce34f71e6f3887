-- Written by a program of this session for this claim (mp.py, over the kit's print); Lean checks it.
import Derived.Test.YtkkfkccfnfjbiaaPGrx0
import Derived.Test.YtkkfkccfnfjbiaaKc
namespace Go.Proofs.Ytkkfkccfnfjbiaa.PGr
open Go.RowKit Go.Proofs.YtkkfkccfnfjbiaaW.PrintWords Go.Proofs.YtkkfkccfnfjbiaaW.PrintLast Go.Proofs.YtkkfkccfnfjbiaaW.PrintMore Go.Proofs.Ytkkfkccfnfjbiaa.Fv Go.Proofs.Ytkkfkccfnfjbiaa.Hl
attribute [local go_sem] max2_int min2_int max_two min_two max_three min_three max_four min_four str_gtr str_leq str_geq cell_set2   -- for this text's walks alone
set_option linter.unusedVariables false
set_option linter.unusedSimpArgs false

/-! ### run_Make: function 27 -/
--@extern Kc
def run_Make.f (k : Nat) (l0 : List (S37)) : Option (List (S37)) := Go.Proofs.Ytkkfkccfnfjbiaa.Kc.run_Make.f k l0
theorem run_Make.mono : ∀ a0 k, LeO (run_Make.f k a0) (run_Make.f (k + 1) a0) := Go.Proofs.Ytkkfkccfnfjbiaa.Kc.run_Make.mono
theorem run_Make.calls (k : Nat) (A0 : Option Addr) (c0 : Nat) (l0 : List (S37)) (r : List (S37)) (w : World) (hr0 : Kd.C k37 w A0 l0.length l0) (hc0 : l0.length ≤ c0) (h : run_Make.f k l0 = some r) :
    Calls Try.prog 27 #[.slice A0 l0.length c0] w fun e w' => ∃ v0_ : Value, e = .returned v0_ ∧ Kd.R k37 37 w' w.heap.size (fun _ => True) v0_ r ∧ Below w.heap.size w w' :=
  Go.Proofs.Ytkkfkccfnfjbiaa.Kc.run_Make.calls k A0 c0 l0 r w hr0 hc0 h

end Go.Proofs.Ytkkfkccfnfjbiaa.PGr
