/- DERIVED. OutboxLatest answers true at all inputs. Conditions: none but those of the statement. -/
import Derived.Test.YtdaikljbljcagaaMn
import Derived.Test.YtdaikljbljcagaaUi
import Derived.Test.YtdaikljbljcagaaRs
namespace Go.Proofs.Ytdaikljbljcagaa.HaOutboxLatest
open Go.RowKit Go.Proofs.Ytdaikljbljcagaa.PAll Go.Proofs.YtdaikljbljcagaaW.PrintWords Go.Proofs.Ytdaikljbljcagaa.Rs
theorem law (W : World) (A0 : Option Addr) (c0 : Nat) (l0 : List S29) (a1 : Int) (hr0 : Kd.C k29 W A0 l0.length l0) (hc0 : l0.length ≤ c0) (_w0 : l0.length ≤ maxLen ∧ ∀ x ∈ l0, WF29 x) (y0 : l0.length * 32 ≤ 140737488351232) (_w1 : (Lit.int .i64 a1).wf = true) :
    Calls Try.prog 3 #[.slice A0 l0.length c0, .int .i64 a1] W fun en W' => en = .returned (.bool true) ∧ Below W.heap.size W W' := by
  obtain ⟨k, lb, x, y, x2, t1, t2, h1, h2⟩ := Ui.OutboxLatest l0 a1 (by omega)
  exact Mn.latest_law k W A0 c0 l0 a1 hr0 hc0 lb h1 x y x2 t1 t2 h2
end Go.Proofs.Ytdaikljbljcagaa.HaOutboxLatest
