-- Written by a program of this session for this claim (mp.py, over the kit's print); Lean checks it.
import Derived.Test.YthghacojbhjeaaaPKpx0
import Derived.Test.YthghacojbhjeaaaLj
namespace Go.Proofs.Ythghacojbhjeaaa.PKp
open Go.RowKit Go.Proofs.YthghacojbhjeaaaW.PrintWords Go.Proofs.YthghacojbhjeaaaW.PrintLast Go.Proofs.YthghacojbhjeaaaW.PrintMore Go.Proofs.Ythghacojbhjeaaa.Fv Go.Proofs.Ythghacojbhjeaaa.Hl
attribute [local go_sem] max2_int min2_int max_two min_two max_three min_three max_four min_four str_gtr str_leq str_geq cell_set2   -- for this text's walks alone
set_option linter.unusedVariables false
set_option linter.unusedSimpArgs false

/-! ### letter_Unpack: function 8 -/
--@extern Li
def letter_Unpack.f (k : Nat) (a0 : ByteArray) : Option (Int × Int × Int × Int × Int × Int × Int × ByteArray × ByteArray × (List (S39)) × (List (S41)) × Int × Bool × ByteArray × Int) := Go.Proofs.Ythghacojbhjeaaa.Li.letter_Unpack.f k a0
theorem letter_Unpack.mono : ∀ a0 k, LeO (letter_Unpack.f k a0) (letter_Unpack.f (k + 1) a0) := Go.Proofs.Ythghacojbhjeaaa.Li.letter_Unpack.mono
theorem letter_Unpack.calls (k : Nat) (a0 : ByteArray) (r1 : Int) (r2 : Int) (r3 : Int) (r4 : Int) (r5 : Int) (r6 : Int) (r7 : Int) (r8 : ByteArray) (r9 : ByteArray) (r10 : List (S39)) (r11 : List (S41)) (r12 : Int) (r13 : Bool) (r14 : ByteArray) (r15 : Int) (w : World) (h : letter_Unpack.f k a0 = some (r1, r2, r3, r4, r5, r6, r7, r8, r9, r10, r11, r12, r13, r14, r15)) :
    Calls Try.prog 8 #[.string a0] w fun e w' => ∃ v9_ v10_ : Value, e = .returned (.tuple #[.agg #[.int .i64 r1, .int .i64 r2, .int .i64 r3, .int .i64 r4, .int .i64 r5, .int .i64 r6, .int .i64 r7, .string r8, .string r9, v9_, v10_, .int .i64 r12, .bool r13, .string r14], .int .i64 r15]) ∧ Kd.R k39 39 w' w.heap.size (fun _ => True) v9_ r10 ∧ Kd.R k41 41 w' w.heap.size (fun _ => True) v10_ r11 ∧ Below w.heap.size w w' :=
  Go.Proofs.Ythghacojbhjeaaa.Li.letter_Unpack.calls k a0 r1 r2 r3 r4 r5 r6 r7 r8 r9 r10 r11 r12 r13 r14 r15 w h

end Go.Proofs.Ythghacojbhjeaaa.PKp
