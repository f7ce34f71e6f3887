-- Written by a program of this session for this claim (mp.py, over the kit's print); Lean checks it.
import Derived.Test.YtmgjccpolkhhhaaPAllx0
import Derived.Test.YtmgjccpolkhhhaaIj
namespace Go.Proofs.Ytmgjccpolkhhhaa.PAll
open Go.RowKit Go.Proofs.YtmgjccpolkhhhaaW.PrintWords Go.Proofs.YtmgjccpolkhhhaaW.PrintLast Go.Proofs.YtmgjccpolkhhhaaW.PrintMore Go.Proofs.Ytmgjccpolkhhhaa.Fv Go.Proofs.Ytmgjccpolkhhhaa.Hl
attribute [local go_sem] max2_int min2_int max_two min_two max_three min_three max_four min_four str_gtr str_leq str_geq cell_set2   -- for this text's walks alone
set_option linter.unusedVariables false
set_option linter.unusedSimpArgs false

/-! ### atlas_Merge: function 23 -/
--@extern Ij
def atlas_Merge.f (k : Nat) (a0_0 : Int) (l0_1 : List (S46)) (a1 : ByteArray) : Option (Int × (List (S46)) × Int) := Go.Proofs.Ytmgjccpolkhhhaa.Ij.mergeF k a0_0 l0_1 a1
theorem atlas_Merge.mono : ∀ a0 a1 a2 k, LeO (atlas_Merge.f k a0 a1 a2) (atlas_Merge.f (k + 1) a0 a1 a2) := Go.Proofs.Ytmgjccpolkhhhaa.Ij.mergeF_mono
theorem atlas_Merge.calls (k : Nat) (a0_0 : Int) (A0_1 : Option Addr) (c0_1 : Nat) (l0_1 : List (S46)) (a1 : ByteArray) (r1 : Int) (r2 : List (S46)) (r3 : Int) (w : World) (hr0_1 : Kd.C k46 w A0_1 l0_1.length l0_1) (hc0_1 : l0_1.length ≤ c0_1) (h : atlas_Merge.f k a0_0 l0_1 a1 = some (r1, r2, r3)) :
    Calls Try.prog 23 #[.agg #[.int .i64 a0_0, .slice A0_1 l0_1.length c0_1], .string a1] w fun e w' => ∃ v1_ : Value, e = .returned (.tuple #[.agg #[.int .i64 r1, v1_], .int .i64 r3]) ∧ Kd.R k46 46 w' w.heap.size (fun _ => True) v1_ r2 ∧ Below w.heap.size w w' :=
  Go.Proofs.Ytmgjccpolkhhhaa.Ij.merge_calls k a0_0 A0_1 c0_1 l0_1 a1 r1 r2 r3 w hr0_1 hc0_1 h

end Go.Proofs.Ytmgjccpolkhhhaa.PAll
