/- DERIVED. A text and a list are read from any bytes just as the document says, or refused by the first error. Conditions: those of the statement. -/
import Derived.Test.YtdbikehjcmhjjaaPAllEv
import Derived.Test.YtdbikehjcmhjjaaPAllx2
import Derived.Test.YtdbikehjcmhjjaaPAllx8
namespace Go.Proofs.Ytdbikehjcmhjjaa.Pure
open Go.RowKit Go.Proofs.Ytdbikehjcmhjjaa.PAll Go.Proofs.YtdbikehjcmhjjaaW.PrintWords Go.Proofs.YtdbikehjcmhjjaaW.PrintLast Go.Proofs.Ytdbikehjcmhjjaa.Pk Go.Proofs.Ytdbikehjcmhjjaa.PAllEv
set_option linter.unusedSimpArgs false
theorem awake_PackReads : Ev (fun k => shelfmarklaw01_awake.f k) true := Ev.of shelfmarklaw01_awake.mono (k := 12) (by decide +kernel)

theorem PackReads : shelfmarklaw01_PackReads.Pure := by
  intro l0 a1 a2 a3 hm hy hw w1 w2 w3
  refine Ev.rounds ?_
  have hb := bytes_of_wf hw
  unfold shelfmarklaw01_PackReads.f
  refine Ev.bind awake_PackReads ?_
  simp only [if_true]
  by_cases h : (l0.length : Int) > 3000
  · simp only [if_pos h]
    exact Ev.now _
  · simp only [if_neg h]
    refine Ev.bind (GetText_ev l0 a1 a3 hb (by omega)) ?_
    refine Ev.bind (refGetText_ev l0 a1 a3 hb (by omega)) ?_
    simp only [if_true, bne_self_eq_false]
    refine Ev.step (fun _ => shelfmarklaw01_PackReads.j0.eq_2 ..) ?_
    simp only [Bool.false_eq_true, if_false]
    refine Ev.bind (GetTexts_ev l0 a1 a2 a3 hb (by omega)) ?_
    refine Ev.bind (refGetTexts_ev l0 a1 a2 a3 hb (by omega)) ?_
    have hlen : (texts (getL l0 a1 a2 a3).1).length < 9223372036854775807 := by
      by_cases h0 : (getL l0 a1 a2 a3).2.2 = 0
      · obtain ⟨hp, hq, hql, _, _, _, _⟩ := getL_inv (b := l0) (p := a1) (count := a2) (most := a3) (l := (getL l0 a1 a2 a3).1) (q := (getL l0 a1 a2 a3).2.1) hb (by rw [← h0])
        have h1 := encAll_len (getL l0 a1 a2 a3).1
        have h2 : (encL (getL l0 a1 a2 a3).1).length = (encN (getL l0 a1 a2 a3).1.length).length + (encAll (getL l0 a1 a2 a3).1).length := by unfold encL; rw [List.length_append]
        have h3 : (texts (getL l0 a1 a2 a3).1).length = (getL l0 a1 a2 a3).1.length := by simp [texts]
        omega
      · have he := getL_err (b := l0) (p := a1) (count := a2) (most := a3) (l := (getL l0 a1 a2 a3).1) (q := (getL l0 a1 a2 a3).2.1) (e := (getL l0 a1 a2 a3).2.2) rfl h0
        rw [he.1]
        simp [texts]
    refine Ev.bind (SameTexts_ev _ hlen) ?_
    simpa using Ev.now true

end Go.Proofs.Ytdbikehjcmhjjaa.Pure
