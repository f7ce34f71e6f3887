/- DERIVED. span.Has, in, (*Box).Of, (*Box).Drop: the code walked. Conditions: those that each lemma names. -/
import Derived.Test.YtdaikljbljcagaaMp
namespace Go.Proofs.Ytdaikljbljcagaa.Mq
open Go Go.RowKit Go.Proofs.Ytdaikljbljcagaa.PAll Go.Proofs.YtdaikljbljcagaaW.PrintWords Go.Proofs.YtdaikljbljcagaaW.PrintLast Go.Proofs.Ytdaikljbljcagaa.Hl Go.Proofs.Ytdaikljbljcagaa.Fv Go.Proofs.Ytdaikljbljcagaa.Mc Go.Proofs.Ytdaikljbljcagaa.Me Go.Proofs.Ytdaikljbljcagaa.Mf Go.Proofs.Ytdaikljbljcagaa.Mi Go.Proofs.Ytdaikljbljcagaa.Mj Go.Proofs.Ytdaikljbljcagaa.Mk Go.Proofs.Ytdaikljbljcagaa.Mm Go.Proofs.Ytdaikljbljcagaa.Pn Go.Proofs.Ytdaikljbljcagaa.Pq Go.Proofs.Ytdaikljbljcagaa.Mp
set_option linter.unusedSimpArgs false
set_option linter.unusedVariables false
attribute [local go_sem] str_geq
end Go.Proofs.Ytdaikljbljcagaa.Mq
