/- DERIVED. A number is read from any bytes just as the document says, or refused by the first error. Conditions: those of the statement. -/
import Derived.Test.YtdbikehjcmhjjaaPAllEv
import Derived.Test.YtdbikehjcmhjjaaPAllx2
import Derived.Test.YtdbikehjcmhjjaaPAllx4
namespace Go.Proofs.Ytdbikehjcmhjjaa.Pure
open Go.RowKit Go.Proofs.Ytdbikehjcmhjjaa.PAll Go.Proofs.YtdbikehjcmhjjaaW.PrintWords Go.Proofs.YtdbikehjcmhjjaaW.PrintLast Go.Proofs.Ytdbikehjcmhjjaa.Pk Go.Proofs.Ytdbikehjcmhjjaa.PAllEv
set_option linter.unusedSimpArgs false
theorem awake_PackNums : Ev (fun k => shelfmarklaw01_awake.f k) true := Ev.of shelfmarklaw01_awake.mono (k := 12) (by decide +kernel)

theorem PackNums : shelfmarklaw01_PackNums.Pure := by
  intro l0 a1 hm hy hw w1
  refine Ev.rounds ?_
  have hb := bytes_of_wf hw
  unfold shelfmarklaw01_PackNums.f
  refine Ev.bind awake_PackNums ?_
  simp only [if_true]
  by_cases h : (l0.length : Int) > 3000
  · simp only [if_pos h]
    exact Ev.now _
  · simp only [if_neg h]
    refine Ev.bind (GetNum_ev l0 a1 hb (by omega)) ?_
    refine Ev.bind (refGetNum_ev l0 a1 hb (by omega)) ?_
    simpa using Ev.now true

end Go.Proofs.Ytdbikehjcmhjjaa.Pure
