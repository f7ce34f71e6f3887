/- DERIVED. Split, Merge and Move: what they come to, and that they do. Conditions: those that each theorem names. -/
import Derived.Test.YtmgjccpolkhhhaaIh
namespace Go.Proofs.Ytmgjccpolkhhhaa.Ij
open Go.Shelf Go.RowKit Go.Lib Go.Proofs.Ytmgjccpolkhhhaa.PAll Go.Proofs.YtmgjccpolkhhhaaW.PrintWords Go.Proofs.YtmgjccpolkhhhaaW.PrintLast Go.Proofs.Ytmgjccpolkhhhaa.Hl Go.Proofs.Ytmgjccpolkhhhaa.Ic Go.Proofs.Ytmgjccpolkhhhaa.In Go.Proofs.Ytmgjccpolkhhhaa.Is Go.Proofs.Ytmgjccpolkhhhaa.Id Go.Proofs.Ytmgjccpolkhhhaa.Ie Go.Proofs.Ytmgjccpolkhhhaa.If Go.Proofs.Ytmgjccpolkhhhaa.Ig Go.Proofs.Ytmgjccpolkhhhaa.Ih
set_option linter.unusedSimpArgs false
set_option linter.unusedVariables false
def splitF (k : Nat) (ep : Int) (l : List S46) (a : ByteArray) : Option (Int × List S46 × Int) :=
  (atlas_Check.f k ep l).bind fun e => if e = 0 then (if l.length ≤ 8 then (atlas_seek.f k ep l a).bind fun s => if mayS a s.2 l.length = true then (if ep = 1099511627776 then some (0, [], 4) else if 1 ≤ ep ∧ ep ≤ 1099511627775 ∧ 1 ≤ s.1 ∧ s.1 ≤ l.length then some (ep + 1, l.take s.1.toNat ++ (⟨a, (rd_T46 l (s.1 - 1)).f1⟩ : S46) :: l.drop s.1.toNat, 0) else none) else some (0, [], 14) else none) else some (0, [], e)
theorem splitF_mono (a0 : Int) (a1 : List S46) (a2 : ByteArray) (k : Nat) : LeO (splitF k a0 a1 a2) (splitF (k + 1) a0 a1 a2) := by
  unfold splitF
  refine LeO.bind (atlas_Check.mono _ _ _) fun _ => LeO.ite (LeO.ite (LeO.bind (atlas_seek.mono _ _ _ _) fun _ => LeO.refl _) (LeO.refl _)) (LeO.refl _)
theorem split_calls (k : Nat) (ep : Int) (A : Option Addr) (c : Nat) (l : List S46) (a : ByteArray) (r1 : Int) (r2 : List S46) (r3 : Int) (w : World) (hC : Kd.C k46 w A l.length l) (hc : l.length ≤ c) (h : splitF k ep l a = some (r1, r2, r3)) :
    Calls Try.prog 22 #[.agg #[.int .i64 ep, .slice A l.length c], .string a] w fun e w' => ∃ v1_ : Value, e = .returned (.tuple #[.agg #[.int .i64 r1, v1_], .int .i64 r3]) ∧ Kd.R k46 46 w' w.heap.size (fun _ => True) v1_ r2 ∧ Below w.heap.size w w' := by
  unfold splitF at h
  obtain ⟨e, he, h⟩ := Option.bind_eq_some_iff.mp h
  refine split_walk w ep A c l a r1 r2 r3 (fun w4 ga gi hb ha hi hg => ?_)
  have hgl := blk_lt hi
  by_cases e0 : e = 0
  · rw [if_pos e0] at h
    subst e0
    by_cases hl : l.length ≤ 8
    · rw [if_pos hl] at h
      obtain ⟨⟨i, is⟩, hs, h⟩ := Option.bind_eq_some_iff.mp h
      have hm : ∀ b, mayS a is l.length = b → ∀ w', Below w4.heap.size w4 w' → Calls Try.prog 35 (#[.agg #[.int .i64 ep, .slice A l.length c]] ++ #[.pointer (some ⟨ga, 0, none⟩), .pointer (some ⟨gi, 0, none⟩)]) w' fun e w'' => e = .returned (.bool b) ∧ Turned gi w' w'' ∧ (w''.heap[gi]? = some (.cells #[.int .i64 i] 3 (0, 0)) ∧ w''.heap[ga]? = some (.cells #[.string a] 9 (0, 0))) := by
        intro b hbm w' hw'
        have hne : ga ≠ gi := blk_ne ha hi (by decide)
        refine (may_split w' ep A c l (Kd.C_below hC (below_step hb hw')) hc k a i is hs ga gi (blk_below ha hw') (blk_below hi hw')).mono ?_
        rintro e w'' ⟨rfl, hT, hJ⟩
        exact ⟨by rw [← hbm], hT, hJ, hT.blk (blk_below ha hw') hne⟩
      cases hb' : mayS a is l.length with
      | false =>
        rw [show mayS a (i, is).2 l.length = false from hb', if_neg (by decide)] at h
        cases h
        exact next_b w w4 hb ep A c l hC hc k 0 he rfl 35 36 _ Try.func35 rfl rfl _ _ gi hg hgl _ (hm _ hb')
      | true =>
        rw [show mayS a (i, is).2 l.length = true from hb', if_pos rfl] at h
        by_cases h4 : ep = 1099511627776
        · rw [if_pos h4] at h
          cases h
          exact next_m w w4 hb ep A c l hC hc k 0 he rfl h4 35 36 _ Try.func35 rfl rfl _ _ gi hg hgl _ (hm _ hb')
        · rw [if_neg h4] at h
          by_cases h5 : 1 ≤ ep ∧ ep ≤ 1099511627775 ∧ 1 ≤ i ∧ i ≤ l.length
          · rw [if_pos h5] at h
            cases h
            obtain ⟨i, rfl⟩ : ∃ n : Nat, i = n := ⟨i.toNat, by omega⟩
            refine next_any w w4 hb ep A c l hC hc k hl he h5.1 h5.2.1 35 36 _ _ Try.func35 rfl rfl Try.func36 rfl rfl _ _ gi hg hgl _ (hm _ hb') (fun u u' hj hu => ⟨blk_below hj.1 hu, blk_below hj.2 hu⟩) _ ?_
            intro u base v hj hu hbase hbu hR
            exact split2 u base v l _ l.length _ (Kd.R_slice hR).choose_spec.choose_spec rfl hR gi ga i a ((blk_cell hj.1 0).trans rfl) ((blk_cell hj.2 0).trans rfl) (by omega) (by omega) (by omega) hbu
          · rw [if_neg h5] at h; cases h
    · rw [if_neg hl] at h; cases h
  · rw [if_neg e0] at h
    cases h
    exact next_e w w4 hb ep A c l hC hc k _ he e0 35 36 _ Try.func35 rfl rfl _ _ gi hg hgl (fun _ => True)
def mergeF (k : Nat) (ep : Int) (l : List S46) (a : ByteArray) : Option (Int × List S46 × Int) :=
  (atlas_Check.f k ep l).bind fun e => if e = 0 then (if l.length ≤ 8 then (atlas_seek.f k ep l a).bind fun s => if s.2 = true → 0 < s.1 → s.1 < l.length then (if mayM l s.2 s.1 = true then (if ep = 1099511627776 then some (0, [], 4) else if 1 ≤ ep ∧ ep ≤ 1099511627775 ∧ 1 ≤ s.1 ∧ s.1 < l.length then some (ep + 1, l.take s.1.toNat ++ l.drop (s.1.toNat + 1), 0) else none) else some (0, [], 14)) else none else none) else some (0, [], e)
theorem mergeF_mono (a0 : Int) (a1 : List S46) (a2 : ByteArray) (k : Nat) : LeO (mergeF k a0 a1 a2) (mergeF (k + 1) a0 a1 a2) := by
  unfold mergeF
  refine LeO.bind (atlas_Check.mono _ _ _) fun _ => LeO.ite (LeO.ite (LeO.bind (atlas_seek.mono _ _ _ _) fun _ => LeO.refl _) (LeO.refl _)) (LeO.refl _)
theorem merge_calls (k : Nat) (ep : Int) (A : Option Addr) (c : Nat) (l : List S46) (a : ByteArray) (r1 : Int) (r2 : List S46) (r3 : Int) (w : World) (hC : Kd.C k46 w A l.length l) (hc : l.length ≤ c) (h : mergeF k ep l a = some (r1, r2, r3)) :
    Calls Try.prog 23 #[.agg #[.int .i64 ep, .slice A l.length c], .string a] w fun e w' => ∃ v1_ : Value, e = .returned (.tuple #[.agg #[.int .i64 r1, v1_], .int .i64 r3]) ∧ Kd.R k46 46 w' w.heap.size (fun _ => True) v1_ r2 ∧ Below w.heap.size w w' := by
  unfold mergeF at h
  obtain ⟨e, he, h⟩ := Option.bind_eq_some_iff.mp h
  refine merge_walk w ep A c l a r1 r2 r3 (fun w4 ga gi hb ha hi hg => ?_)
  have hgl := blk_lt hi
  by_cases e0 : e = 0
  · rw [if_pos e0] at h
    subst e0
    by_cases hl : l.length ≤ 8
    · rw [if_pos hl] at h
      obtain ⟨⟨i, is⟩, hs, h⟩ := Option.bind_eq_some_iff.mp h
      by_cases hin : is = true → 0 < i → i < l.length
      case neg => rw [if_neg (by simpa using hin)] at h; cases h
      rw [if_pos hin] at h
      have hm : ∀ b, mayM l is i = b → ∀ w', Below w4.heap.size w4 w' → Calls Try.prog 38 (#[.agg #[.int .i64 ep, .slice A l.length c]] ++ #[.pointer (some ⟨ga, 0, none⟩), .pointer (some ⟨gi, 0, none⟩)]) w' fun e w'' => e = .returned (.bool b) ∧ Turned gi w' w'' ∧ (w''.heap[gi]? = some (.cells #[.int .i64 i] 3 (0, 0)) ∧ w''.heap[ga]? = some (.cells #[.string a] 9 (0, 0))) := by
        intro b hbm w' hw'
        have hne : ga ≠ gi := blk_ne ha hi (by decide)
        refine (may_merge w w' (below_step hb hw') ep A c l hC hc k a i is hs ga gi (blk_below ha hw') (blk_below hi hw') hg hin hl).mono ?_
        rintro e w'' ⟨rfl, hT, hJ⟩
        exact ⟨by rw [← hbm], hT, hJ, hT.blk (blk_below ha hw') hne⟩
      cases hb' : mayM l is i with
      | false =>
        rw [show mayM l (i, is).2 (i, is).1 = false from hb', if_neg (by decide)] at h
        cases h
        exact next_b w w4 hb ep A c l hC hc k 0 he rfl 38 39 _ Try.func38 rfl rfl _ _ gi hg hgl _ (hm _ hb')
      | true =>
        rw [show mayM l (i, is).2 (i, is).1 = true from hb', if_pos rfl] at h
        by_cases h4 : ep = 1099511627776
        · rw [if_pos h4] at h
          cases h
          exact next_m w w4 hb ep A c l hC hc k 0 he rfl h4 38 39 _ Try.func38 rfl rfl _ _ gi hg hgl _ (hm _ hb')
        · rw [if_neg h4] at h
          by_cases h5 : 1 ≤ ep ∧ ep ≤ 1099511627775 ∧ 1 ≤ i ∧ i < l.length
          · rw [if_pos h5] at h
            cases h
            obtain ⟨i, rfl⟩ : ∃ n : Nat, i = n := ⟨i.toNat, by omega⟩
            refine next_any w w4 hb ep A c l hC hc k hl he h5.1 h5.2.1 38 39 _ _ Try.func38 rfl rfl Try.func39 rfl rfl _ _ gi hg hgl _ (hm _ hb') (fun u u' hj hu => ⟨blk_below hj.1 hu, blk_below hj.2 hu⟩) _ ?_
            intro u base v hj hu hbase hbu hR
            exact merge2 u base v l hR gi i hj.1 (by omega) hl
          · rw [if_neg h5] at h; cases h
    · rw [if_neg hl] at h; cases h
  · rw [if_neg e0] at h
    cases h
    exact next_e w w4 hb ep A c l hC hc k _ he e0 38 39 _ Try.func38 rfl rfl _ _ gi hg hgl (fun _ => True)
def moveF (k : Nat) (ep : Int) (l : List S46) (a : ByteArray) (n : Int) : Option (Int × List S46 × Int) :=
  (atlas_Check.f k ep l).bind fun e => if e = 0 then (if l.length ≤ 8 then (atlas_Find.f k ep l a).bind fun s => if s.2 = true ∧ 0 ≤ s.1 ∧ s.1 < l.length then (if mayV l n s.1 = true then (if ep = 1099511627776 then some (0, [], 4) else if 1 ≤ ep ∧ ep ≤ 1099511627775 then some (ep + 1, l.set s.1.toNat (⟨(rd_T46 l s.1).f0, n⟩ : S46), 0) else none) else some (0, [], 14)) else none else none) else some (0, [], e)
theorem moveF_mono (a0 : Int) (a1 : List S46) (a2 : ByteArray) (a3 : Int) (k : Nat) : LeO (moveF k a0 a1 a2 a3) (moveF (k + 1) a0 a1 a2 a3) := by
  unfold moveF
  refine LeO.bind (atlas_Check.mono _ _ _) fun _ => LeO.ite (LeO.ite (LeO.bind (atlas_Find.mono _ _ _ _) fun _ => LeO.refl _) (LeO.refl _)) (LeO.refl _)
theorem move_calls (k : Nat) (ep : Int) (A : Option Addr) (c : Nat) (l : List S46) (a : ByteArray) (n : Int) (r1 : Int) (r2 : List S46) (r3 : Int) (w : World) (hC : Kd.C k46 w A l.length l) (hc : l.length ≤ c) (h : moveF k ep l a n = some (r1, r2, r3)) :
    Calls Try.prog 24 #[.agg #[.int .i64 ep, .slice A l.length c], .string a, .int .i64 n] w fun e w' => ∃ v1_ : Value, e = .returned (.tuple #[.agg #[.int .i64 r1, v1_], .int .i64 r3]) ∧ Kd.R k46 46 w' w.heap.size (fun _ => True) v1_ r2 ∧ Below w.heap.size w w' := by
  unfold moveF at h
  obtain ⟨e, he, h⟩ := Option.bind_eq_some_iff.mp h
  refine move_walk w ep A c l a n r1 r2 r3 (fun w4 ga gi gn hb ha hn hni hi hg => ?_)
  have hgl := blk_lt hi
  by_cases e0 : e = 0
  · rw [if_pos e0] at h
    subst e0
    by_cases hl : l.length ≤ 8
    · rw [if_pos hl] at h
      obtain ⟨⟨i, is⟩, hs, h⟩ := Option.bind_eq_some_iff.mp h
      by_cases hin : is = true ∧ 0 ≤ i ∧ i < l.length
      case neg => rw [if_neg (by simpa using hin)] at h; cases h
      rw [if_pos hin] at h
      obtain ⟨rfl, hi0, hi1⟩ := hin
      have hm : ∀ b, mayV l n i = b → ∀ w', Below w4.heap.size w4 w' → Calls Try.prog 41 (#[.agg #[.int .i64 ep, .slice A l.length c]] ++ #[.pointer (some ⟨ga, 0, none⟩), .pointer (some ⟨gi, 0, none⟩), .pointer (some ⟨gn, 0, none⟩)]) w' fun e w'' => e = .returned (.bool b) ∧ Turned gi w' w'' ∧ (w''.heap[gi]? = some (.cells #[.int .i64 i] 3 (0, 0)) ∧ w''.heap[gn]? = some (.cells #[.int .i64 n] 3 (0, 0))) := by
        intro b hbm w' hw'
        have hne : ga ≠ gi := blk_ne ha hi (by decide)
        refine (may_move w w' (below_step hb hw') ep A c l hC hc k a n i hs ga gi gn (blk_below ha hw') (blk_below hi hw') (blk_below hn hw') hni hg hi0 hi1 hl).mono ?_
        rintro e w'' ⟨rfl, hT, hJ⟩
        exact ⟨by rw [← hbm], hT, hJ, hT.blk (blk_below hn hw') hni⟩
      cases hb' : mayV l n i with
      | false =>
        rw [show mayV l n (i, true).1 = false from hb', if_neg (by decide)] at h
        cases h
        exact next_b w w4 hb ep A c l hC hc k 0 he rfl 41 42 _ Try.func41 rfl rfl _ _ gi hg hgl _ (hm _ hb')
      | true =>
        rw [show mayV l n (i, true).1 = true from hb', if_pos rfl] at h
        by_cases h4 : ep = 1099511627776
        · rw [if_pos h4] at h
          cases h
          exact next_m w w4 hb ep A c l hC hc k 0 he rfl h4 41 42 _ Try.func41 rfl rfl _ _ gi hg hgl _ (hm _ hb')
        · rw [if_neg h4] at h
          by_cases h5 : 1 ≤ ep ∧ ep ≤ 1099511627775
          · rw [if_pos h5] at h
            cases h
            obtain ⟨i, rfl⟩ : ∃ n : Nat, i = n := ⟨i.toNat, by omega⟩
            refine next_any w w4 hb ep A c l hC hc k hl he h5.1 h5.2 41 42 _ _ Try.func41 rfl rfl Try.func42 rfl rfl _ _ gi hg hgl _ (hm _ hb') (fun u u' hj hu => ⟨blk_below hj.1 hu, blk_below hj.2 hu⟩) _ ?_
            intro u base v hj hu hbase hbu hR
            exact move2 u base v l hR gn gi i n hj.2 hj.1 (by omega) hl hbu
          · rw [if_neg h5] at h; cases h
    · rw [if_neg hl] at h; cases h
  · rw [if_neg e0] at h
    cases h
    exact next_e w w4 hb ep A c l hC hc k _ he e0 41 42 _ Try.func41 rfl rfl _ _ gi hg hgl (fun _ => True)
end Go.Proofs.Ytmgjccpolkhhhaa.Ij
