/- DERIVED. (*shelfmarkref18.Box).Done, Due, Of, Drop: the code walked. Conditions: those that each lemma names. -/
import Derived.Test.YtdaikljbljcagaaMo
import Derived.Deep.RegionHeld3
import Derived.Test.YtdaikljbljcagaaPAllx0
import Derived.Test.YtdaikljbljcagaaPAllx15
namespace Go.Proofs.Ytdaikljbljcagaa.Mp
open Go Go.RowKit Go.Proofs.Ytdaikljbljcagaa.PAll Go.Proofs.YtdaikljbljcagaaW.PrintWords Go.Proofs.YtdaikljbljcagaaW.PrintLast Go.Proofs.Ytdaikljbljcagaa.Hl Go.Proofs.Ytdaikljbljcagaa.Fv Go.Proofs.Ytdaikljbljcagaa.Mc Go.Proofs.Ytdaikljbljcagaa.Me Go.Proofs.Ytdaikljbljcagaa.Mf Go.Proofs.Ytdaikljbljcagaa.Mi Go.Proofs.Ytdaikljbljcagaa.Mj Go.Proofs.Ytdaikljbljcagaa.Mm Go.Proofs.Ytdaikljbljcagaa.Pn Go.Proofs.Ytdaikljbljcagaa.Pq
set_option linter.unusedSimpArgs false
set_option linter.unusedVariables false
/-- Is an intent's entry in a range? -/
def inR (lo hi : ByteArray) (x : S29) : Bool := !(Op.bytesLess x.f0.toList lo.toList) && (decide (hi.toList = []) || Op.bytesLess x.f0.toList hi.toList)
end Go.Proofs.Ytdaikljbljcagaa.Mp
