/- DERIVED. A map as a text: what Pack and Unpack and the reference's come to, that a map is unpacked as it was, and that what is unpacked was packed. Conditions: those that each lemma names. -/
import Derived.Test.YtmgjccpolkhhhaaAp
import Derived.Test.YtmgjccpolkhhhaaPk
import Derived.Test.YtmgjccpolkhhhaaPEv
import Derived.Test.YtmgjccpolkhhhaaPAllx9
import Derived.Test.YtmgjccpolkhhhaaPAllx27
import Derived.Test.YtmgjccpolkhhhaaPAllx23
import Derived.Test.YtmgjccpolkhhhaaPAllx30
namespace Go.Proofs.Ytmgjccpolkhhhaa.As
open Go.RowKit Go.Proofs.Ytmgjccpolkhhhaa.PAll Go.Proofs.YtmgjccpolkhhhaaW.PrintWords Go.Proofs.YtmgjccpolkhhhaaW.PrintLast Go.Proofs.Ytmgjccpolkhhhaa.Pk
set_option linter.unusedSimpArgs false
set_option linter.unusedVariables false
open Go.Proofs.Ytmgjccpolkhhhaa.Ap (chk chk_zero partOk Check_ev RCheck_ev rd_get drop_get w64)
open Go.Proofs.Ytmgjccpolkhhhaa.PAllEv (Num_ev Text_ev Join_ev GetNum_ev GetText_ev refNum_ev refText_ev refGetNum_ev refGetText_ev bytesOf_bytes strOfNums_bytesOf bytesOf_strOfNums bytesOf_size)
theorem partOk_iff (p : S46) : partOk p = true ↔ (p.f0.size : Int) ≤ 100 ∧ 1 ≤ p.f1 ∧ p.f1 ≤ 4 := by
  simp [partOk]
def encP (p : S46) : List Int := encT (bytesOf p.f0) ++ encN p.f1.toNat
def encM (ep : Int) (l : List S46) : List Int := encN ep.toNat ++ (encN l.length ++ (l.map encP).flatten)
theorem encP_bytes (p : S46) : Bytes (encP p) := (encT_bytes (bytesOf_bytes _)).append (encN_bytes _)
theorem encPs_bytes : ∀ l : List S46, Bytes (l.map encP).flatten
  | [] => Bytes.nil
  | p :: t => by rw [List.map_cons, List.flatten_cons]; exact (encP_bytes p).append (encPs_bytes t)
theorem encM_bytes (ep : Int) (l : List S46) : Bytes (encM ep l) := (encN_bytes _).append ((encN_bytes _).append (encPs_bytes l))
theorem encT_len {p : S46} (h : partOk p = true) : (encT (bytesOf p.f0)).length ≤ 109 := by
  have h1 := ((partOk_iff p).1 h).1
  unfold encT
  rw [List.length_append]
  have h2 : (bytesOf p.f0).length ≤ 100 := by rw [bytesOf_size]; omega
  have := encN_le (n := (bytesOf p.f0).length) (by omega)
  omega
theorem encP_len {p : S46} (h : partOk p = true) : (encP p).length ≤ 118 := by
  have h1 := ((partOk_iff p).1 h).2
  unfold encP
  rw [List.length_append]
  have := encN_le (n := p.f1.toNat) (by omega)
  have := encT_len h
  omega
theorem encPs_len : ∀ l : List S46, (∀ p ∈ l, partOk p = true) → (l.map encP).flatten.length ≤ 118 * l.length
  | [], _ => by simp
  | p :: t, h => by
    rw [List.map_cons, List.flatten_cons, List.length_append, List.length_cons]
    have := encP_len (h p List.mem_cons_self)
    have := encPs_len t (fun q hq => h q (List.mem_cons_of_mem _ hq))
    omega
theorem pack_l0 (l : List S46) (ho : ∀ p ∈ l, partOk p = true) (hl : l.length ≤ 8) : ∀ (m i : Nat) (acc : List Int), i + m = l.length → acc.length ≤ 20 + 118 * i → Ev (fun k => atlas_Pack.l0 k acc l (l.length : Int) (i : Int)) (strOfNums (acc ++ ((l.drop i).map encP).flatten), 0)
  | 0, i, acc, h, ha => by
    refine Ev.step (fun _ => atlas_Pack.l0.eq_2 ..) ?_
    rw [List.drop_eq_nil_of_le (by omega), List.map_nil, List.flatten_nil, List.append_nil]
    simp only [if_neg (show ¬ (i : Int) < (l.length : Int) by omega)]
    exact Ev.now _
  | m + 1, i, acc, h, ha => by
    have hi : i < l.length := by omega
    have hok := ho _ (List.getElem_mem hi)
    have hb := (partOk_iff _).1 hok
    have hpl := encP_len hok
    have hw : wrap64 ((i : Int) + 1) = ((i + 1 : Nat) : Int) := by rw [w64 (by omega) (by omega)]; omega
    refine Ev.step (fun _ => atlas_Pack.l0.eq_2 ..) ?_
    simp only [if_pos (show (i : Int) < (l.length : Int) by omega), if_pos (show (0 : Int) ≤ (i : Int) by omega), rd_get l i hi, hw]
    refine Ev.bind (Text_ev _ (by omega)) ?_
    have hn : l[i].f1 = ((l[i].f1.toNat : Nat) : Int) := by omega
    rw [hn]
    refine Ev.bind (Num_ev _ (by omega)) ?_
    refine Ev.bind (Join_ev _ (by simp) (by simp only [List.flatten_cons, List.flatten_nil, List.append_nil]; exact Nat.le_trans hpl (by omega))) ?_
    simp only [List.flatten_cons, List.flatten_nil, List.append_nil]
    have hp : encT (bytesOf l[i].f0) ++ encN l[i].f1.toNat = encP l[i] := rfl
    rw [hp]
    simp only [if_pos (show acc.length + (encP l[i]).length < 140737488355328 by omega)]
    have ih := pack_l0 l ho hl m (i + 1) (acc ++ encP l[i]) (by omega) (by rw [List.length_append]; omega)
    rw [drop_get l i hi, List.map_cons, List.flatten_cons]
    rw [List.append_assoc] at ih
    exact ih
def packS (ep : Int) (l : List S46) : ByteArray × Int := if chk ep l = 0 then (strOfNums (encM ep l), 0) else ((⟨#[]⟩ : ByteArray), chk ep l)
theorem Pack_ev (ep : Int) (l : List S46) (hl : l.length < 9223372036854775808) : Ev (fun k => atlas_Pack.f k ep l) (packS ep l) := by
  unfold atlas_Pack.f packS
  refine Ev.bind (Check_ev ep l hl) ?_
  by_cases h : chk ep l = 0
  · obtain ⟨h1, h2, hg⟩ := chk_zero.1 h
    have hle := hg.le
    simp only [if_pos h]
    have he : ep = ((ep.toNat : Nat) : Int) := by omega
    conv => enter [1, k, 1]; rw [he]
    refine Ev.bind (Num_ev _ (by omega)) ?_
    refine Ev.bind (Num_ev _ (by omega)) ?_
    have e1 := encN_le (n := ep.toNat) (by omega)
    have e2 := encN_le (n := l.length) (by omega)
    refine Ev.bind (Join_ev _ (by simp) (by simp only [List.flatten_cons, List.flatten_nil, List.append_nil, List.length_append]; omega)) ?_
    simp only [List.flatten_cons, List.flatten_nil, List.append_nil]
    have := pack_l0 l hg.each hle l.length 0 (encN ep.toNat ++ encN l.length) (by omega) (by rw [List.length_append]; omega)
    rw [List.drop_zero, List.append_assoc] at this
    exact this
  · simp only [if_neg h]; exact Ev.now _
theorem rpack_l0 (ep : Int) (l : List S46) (ho : ∀ p ∈ l, partOk p = true) (hl : l.length ≤ 8) : ∀ (m i : Nat) (acc : List Int), i + m = l.length → acc.length ≤ 20 + 118 * i → Ev (fun k => shelfmarkref12_Pack.l0 k acc (i : Int) ep l) (strOfNums (acc ++ ((l.drop i).map encP).flatten), 0)
  | 0, i, acc, h, ha => by
    refine Ev.step (fun _ => shelfmarkref12_Pack.l0.eq_2 ..) ?_
    rw [List.drop_eq_nil_of_le (by omega), List.map_nil, List.flatten_nil, List.append_nil]
    simp only [if_neg (show ¬ (i : Int) < (l.length : Int) by omega)]
    exact Ev.now _
  | m + 1, i, acc, h, ha => by
    have hi : i < l.length := by omega
    have hok := ho _ (List.getElem_mem hi)
    have hb := (partOk_iff _).1 hok
    have hpl := encP_len hok
    have htl := encT_len hok
    have hpe : (encP l[i]).length = (encT (bytesOf l[i].f0)).length + (encN l[i].f1.toNat).length := by unfold encP; rw [List.length_append]
    have hw : wrap64 ((i : Int) + 1) = ((i + 1 : Nat) : Int) := by rw [w64 (by omega) (by omega)]; omega
    refine Ev.step (fun _ => shelfmarkref12_Pack.l0.eq_2 ..) ?_
    simp only [if_pos (show (i : Int) < (l.length : Int) by omega), if_pos (show (0 : Int) ≤ (i : Int) by omega), rd_get l i hi, hw]
    refine Ev.bind (refText_ev _ (by omega)) ?_
    simp only [if_pos (show acc.length + (encT (bytesOf l[i].f0)).length < 140737488355328 by omega), Option.bind_some]
    have hn : l[i].f1 = ((l[i].f1.toNat : Nat) : Int) := by omega
    rw [hn]
    refine Ev.bind (refNum_ev _ (by omega)) ?_
    simp only [List.length_append, if_pos (show acc.length + (encT (bytesOf l[i].f0)).length + (encN l[i].f1.toNat).length < 140737488355328 by omega)]
    have ih := rpack_l0 ep l ho hl m (i + 1) (acc ++ encP l[i]) (by omega) (by rw [List.length_append]; omega)
    rw [drop_get l i hi, List.map_cons, List.flatten_cons]
    have hp : acc ++ encP l[i] = acc ++ encT (bytesOf l[i].f0) ++ encN l[i].f1.toNat := by unfold encP; rw [List.append_assoc]
    rw [← List.append_assoc, hp]
    rw [hp] at ih
    exact ih
theorem RPack_ev (ep : Int) (l : List S46) (hl : l.length < 9223372036854775808) : Ev (fun k => shelfmarkref12_Pack.f k ep l) (packS ep l) := by
  unfold shelfmarkref12_Pack.f packS
  refine Ev.bind (RCheck_ev ep l hl) ?_
  by_cases h : chk ep l = 0
  · obtain ⟨h1, h2, hg⟩ := chk_zero.1 h
    have hle := hg.le
    simp only [if_pos h]
    have he : ep = ((ep.toNat : Nat) : Int) := by omega
    conv => enter [1, k, 1]; rw [he]
    refine Ev.bind (refNum_ev _ (by omega)) ?_
    refine Ev.bind (refNum_ev _ (by omega)) ?_
    have e1 := encN_le (n := ep.toNat) (by omega)
    have e2 := encN_le (n := l.length) (by omega)
    simp only [if_pos (show (encN ep.toNat).length + (encN l.length).length < 140737488355328 by omega)]
    have := rpack_l0 ep l hg.each hle l.length 0 (encN ep.toNat ++ encN l.length) (by omega) (by rw [List.length_append]; omega)
    rw [List.drop_zero, List.append_assoc] at this
    exact this
  · simp only [if_neg h]; exact Ev.now _
/-! Unpacking. -/
def prs (b : List Int) : Nat → Int → List S46 → List S46 × Int × Int
  | 0, p, acc => (acc, p, 0)
  | m + 1, p, acc => if (getT b p 100).2.2 = 0 then (if (getN b (getT b p 100).2.1).2.2 = 0 then prs b m (getN b (getT b p 100).2.1).2.1 (acc ++ [(⟨strOfNums (getT b p 100).1, (getN b (getT b p 100).2.1).1⟩ : S46)]) else (acc ++ [(⟨strOfNums (getT b p 100).1, (getN b (getT b p 100).2.1).1⟩ : S46)], (getN b (getT b p 100).2.1).2.1, (getN b (getT b p 100).2.1).2.2)) else (acc ++ [(⟨strOfNums (getT b p 100).1, 0⟩ : S46)], (getT b p 100).2.1, (getT b p 100).2.2)
def unpS (s : ByteArray) : Int × List S46 × Int :=
  if (getN (bytesOf s) 0).2.2 = 0 then (if (getN (bytesOf s) (getN (bytesOf s) 0).2.1).2.2 = 0 then (if (getN (bytesOf s) (getN (bytesOf s) 0).2.1).1 > 8 then (0, [], 4) else
    (if (prs (bytesOf s) (getN (bytesOf s) (getN (bytesOf s) 0).2.1).1.toNat (getN (bytesOf s) (getN (bytesOf s) 0).2.1).2.1 []).2.2 = 0 then
      (if (prs (bytesOf s) (getN (bytesOf s) (getN (bytesOf s) 0).2.1).1.toNat (getN (bytesOf s) (getN (bytesOf s) 0).2.1).2.1 []).2.1 = ((bytesOf s).length : Int) then
        (if chk (getN (bytesOf s) 0).1 (prs (bytesOf s) (getN (bytesOf s) (getN (bytesOf s) 0).2.1).1.toNat (getN (bytesOf s) (getN (bytesOf s) 0).2.1).2.1 []).1 = 0 then ((getN (bytesOf s) 0).1, (prs (bytesOf s) (getN (bytesOf s) (getN (bytesOf s) 0).2.1).1.toNat (getN (bytesOf s) (getN (bytesOf s) 0).2.1).2.1 []).1, 0)
        else (0, [], chk (getN (bytesOf s) 0).1 (prs (bytesOf s) (getN (bytesOf s) (getN (bytesOf s) 0).2.1).1.toNat (getN (bytesOf s) (getN (bytesOf s) 0).2.1).2.1 []).1))
      else (0, [], 3))
    else (0, [], (prs (bytesOf s) (getN (bytesOf s) (getN (bytesOf s) 0).2.1).1.toNat (getN (bytesOf s) (getN (bytesOf s) 0).2.1).2.1 []).2.2)))
  else (0, [], (getN (bytesOf s) (getN (bytesOf s) 0).2.1).2.2)) else (0, [], (getN (bytesOf s) 0).2.2)
theorem prs_len (b : List Int) : ∀ (m : Nat) (p : Int) (acc : List S46), (prs b m p acc).1.length ≤ acc.length + m
  | 0, p, acc => by unfold prs; simp
  | m + 1, p, acc => by
    unfold prs
    split
    · split
      · have := prs_len b m (getN b (getT b p 100).2.1).2.1 (acc ++ [(⟨strOfNums (getT b p 100).1, (getN b (getT b p 100).2.1).1⟩ : S46)])
        simp at this ⊢; omega
      · simp
    · simp
theorem read_end (b : List Int) (p e : Int) (m : Int) (ep : Int) (acc : List S46) (he : ¬ e = 0 ∨ ¬ m > 0) : Ev (fun k => atlas_read.l0 k b p e m ep acc) (ep, acc, p, e) := by
  refine Ev.step (fun _ => atlas_read.l0.eq_2 ..) ?_
  by_cases hm : m > 0
  · have he' : (e == 0) = false := beq_eq_false_iff_ne.2 (by rcases he with h | h; exact h; exact absurd hm h)
    simp only [if_pos hm, he']
    refine Ev.step (fun _ => atlas_read.j3.eq_2 ..) ?_
    simp only [Bool.false_eq_true, if_false]; exact Ev.now _
  · simp only [if_neg hm]
    refine Ev.step (fun _ => atlas_read.j3.eq_2 ..) ?_
    simp only [Bool.false_eq_true, if_false]; exact Ev.now _
theorem read_l0 (b : List Int) (hb : Bytes b) (hl : b.length ≤ 140737488351232) (ep : Int) : ∀ (m : Nat) (p : Int) (acc : List S46), m ≤ 8 → acc.length + m ≤ 1000 → Ev (fun k => atlas_read.l0 k b p 0 (m : Int) ep acc) (ep, (prs b m p acc).1, (prs b m p acc).2.1, (prs b m p acc).2.2)
  | 0, p, acc, hm, ha => by
    unfold prs
    exact read_end b p 0 _ ep acc (.inr (by omega))
  | m + 1, p, acc, hm, ha => by
    have hw : wrap64 (((m + 1 : Nat) : Int) - 1) = (m : Int) := by rw [w64 (by omega) (by omega)]; omega
    refine Ev.step (fun _ => atlas_read.l0.eq_2 ..) ?_
    simp only [if_pos (show ((m + 1 : Nat) : Int) > 0 by omega), show ((0 : Int) == 0) = true from rfl]
    refine Ev.step (fun _ => atlas_read.j3.eq_2 ..) ?_
    simp only [if_true, hw, if_pos (show acc.length < 5864062014805 by omega)]
    refine Ev.bind (GetText_ev b p 100 hb hl) ?_
    unfold prs
    by_cases h1 : (getT b p 100).2.2 = 0
    · simp only [if_pos h1]
      refine Ev.bind (GetNum_ev b _ hb hl) ?_
      by_cases h2 : (getN b (getT b p 100).2.1).2.2 = 0
      · simp only [if_pos h2, h2]
        exact read_l0 b hb hl ep m _ _ (by omega) (by simp; omega)
      · simp only [if_neg h2]
        exact read_end b _ _ _ ep _ (.inl h2)
    · simp only [if_neg h1]
      exact read_end b _ _ _ ep _ (.inl h1)
theorem getN_nonneg {b : List Int} (hb : Bytes b) {p : Int} (h : (getN b p).2.2 = 0) : 0 ≤ (getN b p).1 ∧ (getN b p).1 < 9223372036854775808 := by
  obtain ⟨_, n, hv, hn, _⟩ := getN_inv hb (v := (getN b p).1) (q := (getN b p).2.1) (show getN b p = ((getN b p).1, (getN b p).2.1, 0) by rw [← h])
  omega
theorem Unpack_ev (s : ByteArray) (hs : s.size ≤ 140737488351232) : Ev (fun k => atlas_Unpack.f k s) (unpS s) := by
  unfold atlas_Unpack.f atlas_read.f unpS
  have hb := bytesOf_bytes s
  have hl : (bytesOf s).length ≤ 140737488351232 := by rw [bytesOf_size]; exact hs
  have hsz : (s.size : Int) = ((bytesOf s).length : Int) := by rw [bytesOf_size]
  rw [hsz]
  generalize bytesOf s = b at *
  simp only [if_pos hs]
  have hfail : ∀ (e ep : Int) (ps : List S46), ¬ e = 0 → Ev (fun k => atlas_Unpack.j0 k e false ep ps) ((0, [], e) : Int × List S46 × Int) := fun e ep ps he => by
    refine Ev.step (fun _ => atlas_Unpack.j0.eq_2 ..) ?_
    simp only [Bool.false_eq_true, if_false]
    refine Ev.step (fun _ => atlas_Unpack.j1.eq_2 ..) ?_
    simp only [if_neg he]; exact Ev.now _
  refine Ev.bind (f := fun k bt509 => (if bt509.2.2.2 = 0 then (atlas_Unpack.j0 k bt509.2.2.2 (bt509.2.2.1 != ((b.length : Nat) : Int)) bt509.1 bt509.2.1) else (atlas_Unpack.j0 k bt509.2.2.2 false bt509.1 bt509.2.1)))
    (a := if (getN b 0).2.2 = 0 then (if (getN b (getN b 0).2.1).2.2 = 0 then (if (getN b (getN b 0).2.1).1 > 8 then ((getN b 0).1, [], (getN b (getN b 0).2.1).2.1, 4) else ((getN b 0).1, (prs b (getN b (getN b 0).2.1).1.toNat (getN b (getN b 0).2.1).2.1 []).1, (prs b (getN b (getN b 0).2.1).1.toNat (getN b (getN b 0).2.1).2.1 []).2.1, (prs b (getN b (getN b 0).2.1).1.toNat (getN b (getN b 0).2.1).2.1 []).2.2)) else ((getN b 0).1, [], (getN b (getN b 0).2.1).2.1, (getN b (getN b 0).2.1).2.2)) else ((getN b 0).1, [], (getN b 0).2.1, (getN b 0).2.2)) ?_ ?_
  · refine Ev.bind (GetNum_ev b 0 hb hl) ?_
    by_cases h1 : (getN b 0).2.2 = 0
    · simp only [if_pos h1]
      refine Ev.bind (GetNum_ev b _ hb hl) ?_
      by_cases h2 : (getN b (getN b 0).2.1).2.2 = 0
      · have hn := getN_nonneg hb h2
        simp only [if_pos h2]
        refine Ev.step (fun _ => atlas_read.j0.eq_2 ..) ?_
        by_cases h3 : (getN b (getN b 0).2.1).1 > 8
        · simp only [decide_eq_true h3, if_true, if_pos h3]
          refine Ev.step (fun _ => atlas_read.j1.eq_2 ..) ?_
          exact read_end b _ 4 _ _ _ (.inl (by omega))
        · simp only [decide_eq_false h3, Bool.false_eq_true, if_false, if_neg h3, h2]
          refine Ev.step (fun _ => atlas_read.j1.eq_2 ..) ?_
          have := read_l0 b hb hl (getN b 0).1 (getN b (getN b 0).2.1).1.toNat (getN b (getN b 0).2.1).2.1 [] (by omega) (by simp; omega)
          rw [show (((getN b (getN b 0).2.1).1.toNat : Nat) : Int) = (getN b (getN b 0).2.1).1 by omega] at this
          exact this
      · simp only [if_neg h2]
        refine Ev.step (fun _ => atlas_read.j0.eq_2 ..) ?_
        simp only [Bool.false_eq_true, if_false]
        refine Ev.step (fun _ => atlas_read.j1.eq_2 ..) ?_
        exact read_end b _ _ _ _ _ (.inl h2)
    · simp only [if_neg h1]; exact Ev.now _
  · by_cases h1 : (getN b 0).2.2 = 0
    · simp only [if_pos h1]
      by_cases h2 : (getN b (getN b 0).2.1).2.2 = 0
      · simp only [if_pos h2]
        by_cases h3 : (getN b (getN b 0).2.1).1 > 8
        · simp only [if_pos h3, if_neg (show ¬ (4 : Int) = 0 by omega)]
          exact hfail 4 _ _ (by omega)
        · have hn := getN_nonneg hb h2
          simp only [if_neg h3]
          have hpl := prs_len b (getN b (getN b 0).2.1).1.toNat (getN b (getN b 0).2.1).2.1 []
          generalize prs b (getN b (getN b 0).2.1).1.toNat (getN b (getN b 0).2.1).2.1 [] = r at *
          by_cases h4 : r.2.2 = 0
          · simp only [if_pos h4, h4]
            refine Ev.step (fun _ => atlas_Unpack.j0.eq_2 ..) ?_
            by_cases h5 : r.2.1 = (b.length : Int)
            · have h5' : (r.2.1 != (b.length : Int)) = false := by rw [h5]; exact bne_self_eq_false _
              simp only [h5', Bool.false_eq_true, if_false, if_pos h5]
              refine Ev.step (fun _ => atlas_Unpack.j1.eq_2 ..) ?_
              simp only [if_true]
              refine Ev.bind (Check_ev _ _ (by simp at hpl; omega)) ?_
              by_cases h6 : chk (getN b 0).1 r.1 = 0
              · simp only [if_pos h6]; exact Ev.now _
              · simp only [if_neg h6]; exact Ev.now _
            · have h5' : (r.2.1 != (b.length : Int)) = true := bne_iff_ne.2 h5
              simp only [h5', if_true, if_neg h5]
              refine Ev.step (fun _ => atlas_Unpack.j1.eq_2 ..) ?_
              simp only [if_neg (show ¬ (3 : Int) = 0 by omega)]; exact Ev.now _
          · simp only [if_neg h4]
            exact hfail _ _ _ h4
      · simp only [if_neg h2]
        exact hfail _ _ _ h2
    · simp only [if_neg h1]
      exact hfail _ _ _ h1
theorem runp_l0 (b : List Int) (hb : Bytes b) (hl : b.length ≤ 140737488351232) (ep : Int) (n : Nat) (hn : n ≤ 8) (x1 : ByteArray) (x2 : List ByteArray) (x3 x4 : Int) : ∀ (m i : Nat) (p : Int) (acc : List S46), i + m = n → acc.length ≤ i → Ev (fun k => shelfmarkref12_Unpack.l0 k b p (i : Int) (n : Int) x1 x2 x3 x4 ep acc) (if (prs b m p acc).2.2 = 0 then (if (prs b m p acc).2.1 = (b.length : Int) then (if chk ep (prs b m p acc).1 = 0 then (ep, (prs b m p acc).1, 0) else (0, [], chk ep (prs b m p acc).1)) else (0, [], 3)) else (0, [], (prs b m p acc).2.2))
  | 0, i, p, acc, h, ha => by
    refine Ev.step (fun _ => shelfmarkref12_Unpack.l0.eq_2 ..) ?_
    unfold prs
    simp only [if_neg (show ¬ (i : Int) < (n : Int) by omega), if_true]
    by_cases h5 : p = (b.length : Int)
    · simp only [if_pos h5]
      refine Ev.bind (RCheck_ev _ _ (by omega)) ?_
      by_cases h6 : chk ep acc = 0
      · simp only [if_pos h6]; exact Ev.now _
      · simp only [if_neg h6]; exact Ev.now _
    · simp only [if_neg h5]; exact Ev.now _
  | m + 1, i, p, acc, h, ha => by
    have hw : wrap64 ((i : Int) + 1) = ((i + 1 : Nat) : Int) := by rw [w64 (by omega) (by omega)]; omega
    refine Ev.step (fun _ => shelfmarkref12_Unpack.l0.eq_2 ..) ?_
    simp only [if_pos (show (i : Int) < (n : Int) by omega), hw, if_pos (show acc.length < 5864062014805 by omega)]
    refine Ev.bind (refGetText_ev b p 100 hb hl) ?_
    unfold prs
    by_cases h1 : (getT b p 100).2.2 = 0
    · simp only [if_pos h1]
      refine Ev.bind (refGetNum_ev b _ hb hl) ?_
      by_cases h2 : (getN b (getT b p 100).2.1).2.2 = 0
      · simp only [if_pos h2]
        exact runp_l0 b hb hl ep n hn x1 x2 x3 x4 m (i + 1) _ _ (by omega) (by simp; omega)
      · simp only [if_neg h2]; exact Ev.now _
    · simp only [if_neg h1]; exact Ev.now _
theorem RUnpack_ev (s : ByteArray) (hs : s.size ≤ 140737488351232) : Ev (fun k => shelfmarkref12_Unpack.f k s) (unpS s) := by
  unfold shelfmarkref12_Unpack.f unpS
  have hb := bytesOf_bytes s
  have hl : (bytesOf s).length ≤ 140737488351232 := by rw [bytesOf_size]; exact hs
  generalize bytesOf s = b at *
  simp only [if_pos hs, Option.bind_some]
  refine Ev.bind (refGetNum_ev b 0 hb hl) ?_
  by_cases h1 : (getN b 0).2.2 = 0
  · simp only [if_pos h1]
    refine Ev.bind (refGetNum_ev b _ hb hl) ?_
    by_cases h2 : (getN b (getN b 0).2.1).2.2 = 0
    · have hn := getN_nonneg hb h2
      simp only [if_pos h2]
      by_cases h3 : (getN b (getN b 0).2.1).1 > 8
      · simp only [if_pos h3]; exact Ev.now _
      · simp only [if_neg h3]
        have := runp_l0 b hb hl (getN b 0).1 (getN b (getN b 0).2.1).1.toNat (by omega) (⟨#[]⟩ : ByteArray) [] (getN b (getN b 0).2.1).2.1 (getN b (getN b 0).2.1).2.2 (getN b (getN b 0).2.1).1.toNat 0 (getN b (getN b 0).2.1).2.1 [] (by omega) (by simp)
        rw [show (((getN b (getN b 0).2.1).1.toNat : Nat) : Int) = (getN b (getN b 0).2.1).1 by omega] at this
        exact this
    · simp only [if_neg h2]; exact Ev.now _
  · simp only [if_neg h1]; exact Ev.now _
/-! There and back. -/
theorem eta3 {α β : Type} (x : α × β × Int) (h : x.2.2 = 0) : x = (x.1, x.2.1, 0) := by
  obtain ⟨a, b, c⟩ := x
  exact congrArg (fun z => (a, b, z)) h
theorem drop_app {b x rest : List Int} {p : Nat} (h : b.drop p = x ++ rest) : b.drop (p + x.length) = rest := by
  rw [← List.drop_drop, h, List.drop_left]
theorem prs_enc (b : List Int) : ∀ (l : List S46) (p : Int) (acc : List S46) (rest : List Int), 0 ≤ p → p ≤ b.length → (∀ q ∈ l, partOk q = true) → b.drop p.toNat = (l.map encP).flatten ++ rest → prs b l.length p acc = (acc ++ l, p + ((l.map encP).flatten.length : Int), 0)
  | [], p, acc, rest, h0, h1, ho, hd => by simp [prs]
  | q :: t, p, acc, rest, h0, h1, ho, hd => by
    have hq := (partOk_iff q).1 (ho q List.mem_cons_self)
    rw [List.map_cons, List.flatten_cons] at hd ⊢
    have hpe : encP q = encT (bytesOf q.f0) ++ encN q.f1.toNat := rfl
    rw [hpe] at hd
    have hsz : (bytesOf q.f0).length ≤ 100 := by rw [bytesOf_size]; omega
    have hlen := congrArg List.length hd
    simp only [List.length_drop, List.length_append] at hlen
    have hT := getT_enc (b := b) (p := p) (most := 100) (s := bytesOf q.f0) (rest := encN q.f1.toNat ++ ((t.map encP).flatten ++ rest)) h0 h1 (by omega) (by omega) (by rw [hd]; simp only [List.append_assoc])
    have hd2 : b.drop (p + ((encT (bytesOf q.f0)).length : Int)).toNat = encN q.f1.toNat ++ ((t.map encP).flatten ++ rest) := by
      rw [show (p + ((encT (bytesOf q.f0)).length : Int)).toNat = p.toNat + (encT (bytesOf q.f0)).length by omega]
      exact drop_app (by rw [hd]; simp only [List.append_assoc])
    have hN := getN_enc (b := b) (p := p + ((encT (bytesOf q.f0)).length : Int)) (n := q.f1.toNat) (rest := (t.map encP).flatten ++ rest) (by omega) (by omega) (by omega) hd2
    have hd3 : b.drop (p + ((encT (bytesOf q.f0)).length : Int) + ((encN q.f1.toNat).length : Int)).toNat = (t.map encP).flatten ++ rest := by
      rw [show (p + ((encT (bytesOf q.f0)).length : Int) + ((encN q.f1.toNat).length : Int)).toNat = (p + ((encT (bytesOf q.f0)).length : Int)).toNat + (encN q.f1.toNat).length by omega]
      exact drop_app hd2
    have ih := prs_enc b t (p + ((encT (bytesOf q.f0)).length : Int) + ((encN q.f1.toNat).length : Int)) (acc ++ [q]) rest (by omega) (by omega) (fun x hx => ho x (List.mem_cons_of_mem _ hx)) hd3
    rw [List.length_cons]
    unfold prs
    simp only [hT, hN, if_true, strOfNums_bytesOf, show ((q.f1.toNat : Nat) : Int) = q.f1 by omega]
    rw [show (⟨q.f0, q.f1⟩ : S46) = q from rfl, ih]
    refine Prod.ext (by simp) (Prod.ext ?_ rfl)
    dsimp only
    rw [List.length_append, show (encP q).length = (encT (bytesOf q.f0)).length + (encN q.f1.toNat).length by unfold encP; rw [List.length_append]]
    omega
theorem unp_pack {ep : Int} {l : List S46} (h : chk ep l = 0) : unpS (strOfNums (encM ep l)) = (ep, l, 0) := by
  obtain ⟨h1, h2, hg⟩ := chk_zero.1 h
  have hle := hg.le
  unfold unpS
  rw [bytesOf_strOfNums (encM_bytes ep l)]
  have e0 : getN (encM ep l) 0 = ((ep.toNat : Int), 0 + ((encN ep.toNat).length : Int), 0) := getN_enc (rest := encN l.length ++ (l.map encP).flatten) (by omega) (by omega) (by omega) rfl
  have hlen : (encM ep l).length = (encN ep.toNat).length + ((encN l.length).length + (l.map encP).flatten.length) := by unfold encM; simp only [List.length_append]
  have d1 : (encM ep l).drop (0 + ((encN ep.toNat).length : Int)).toNat = encN l.length ++ (l.map encP).flatten := by
    rw [show (0 + ((encN ep.toNat).length : Int)).toNat = (encN ep.toNat).length by omega]
    exact List.drop_left
  have e1 : getN (encM ep l) (0 + ((encN ep.toNat).length : Int)) = ((l.length : Int), 0 + ((encN ep.toNat).length : Int) + ((encN l.length).length : Int), 0) := getN_enc (by omega) (by omega) (by omega) d1
  have d2 : (encM ep l).drop (0 + ((encN ep.toNat).length : Int) + ((encN l.length).length : Int)).toNat = (l.map encP).flatten ++ [] := by
    rw [show (0 + ((encN ep.toNat).length : Int) + ((encN l.length).length : Int)).toNat = (0 + ((encN ep.toNat).length : Int)).toNat + (encN l.length).length by omega, List.append_nil]
    exact drop_app d1
  have e2 := prs_enc (encM ep l) l (0 + ((encN ep.toNat).length : Int) + ((encN l.length).length : Int)) [] [] (by omega) (by omega) hg.each d2
  simp only [e0, e1, if_true, if_neg (show ¬ ((l.length : Int) > 8) by omega), Int.toNat_natCast, e2, List.nil_append]
  rw [if_pos (by rw [hlen]; omega), show ((ep.toNat : Nat) : Int) = ep by omega, if_pos h]
theorem prs_inv (b : List Int) (hb : Bytes b) : ∀ (m : Nat) (p : Int) (acc ps : List S46) (q : Int), 0 ≤ p → p ≤ b.length → prs b m p acc = (ps, q, 0) → ∃ new : List S46, ps = acc ++ new ∧ new.length = m ∧ p ≤ q ∧ q ≤ b.length ∧ b.drop p.toNat = (new.map encP).flatten ++ b.drop q.toNat
  | 0, p, acc, ps, q, h0, h1, h => by
    unfold prs at h
    simp only [Prod.mk.injEq] at h
    obtain ⟨rfl, rfl, _⟩ := h
    exact ⟨[], by simp, rfl, Int.le_refl _, h1, by simp⟩
  | m + 1, p, acc, ps, q, h0, h1, h => by
    unfold prs at h
    by_cases c1 : (getT b p 100).2.2 = 0
    · rw [if_pos c1] at h
      obtain ⟨_, t1, t2, t3, _, t5, t6, rest, t7⟩ := getT_inv hb (s := (getT b p 100).1) (q := (getT b p 100).2.1) (eta3 _ c1)
      by_cases c2 : (getN b (getT b p 100).2.1).2.2 = 0
      · rw [if_pos c2] at h
        obtain ⟨_, n, n1, n2, n3, n4, _, rest2, n5⟩ := getN_inv hb (v := (getN b (getT b p 100).2.1).1) (q := (getN b (getT b p 100).2.1).2.1) (eta3 _ c2)
        obtain ⟨new, i1, i2, i3, i4, i5⟩ := prs_inv b hb m _ _ ps q (by omega) n4 h
        refine ⟨(⟨strOfNums (getT b p 100).1, (getN b (getT b p 100).2.1).1⟩ : S46) :: new, by rw [i1]; simp, by rw [List.length_cons, i2], by omega, i4, ?_⟩
        rw [List.map_cons, List.flatten_cons]
        unfold encP
        dsimp only
        rw [bytesOf_strOfNums t5, n1, Int.toNat_natCast]
        have a1 : b.drop (getT b p 100).2.1.toNat = rest := by
          rw [show (getT b p 100).2.1.toNat = p.toNat + (encT (getT b p 100).1).length by omega]
          exact drop_app t7
        have a2 : b.drop (getN b (getT b p 100).2.1).2.1.toNat = rest2 := by
          rw [show (getN b (getT b p 100).2.1).2.1.toNat = (getT b p 100).2.1.toNat + (encN n).length by omega]
          exact drop_app n5
        rw [t7, ← a1, n5, ← a2, i5]
        simp only [List.append_assoc]
        rfl
      · rw [if_neg c2] at h
        simp only [Prod.mk.injEq] at h
        exact absurd h.2.2 c2
    · rw [if_neg c1] at h
      simp only [Prod.mk.injEq] at h
      exact absurd h.2.2 c1
theorem pack_unp {s : ByteArray} {ep : Int} {l : List S46} (h : unpS s = (ep, l, 0)) : chk ep l = 0 ∧ strOfNums (encM ep l) = s := by
  unfold unpS at h
  have hb := bytesOf_bytes s
  have hback := strOfNums_bytesOf s
  generalize bytesOf s = b at *
  by_cases c1 : (getN b 0).2.2 = 0
  · rw [if_pos c1] at h
    by_cases c2 : (getN b (getN b 0).2.1).2.2 = 0
    · rw [if_pos c2] at h
      by_cases c3 : (getN b (getN b 0).2.1).1 > 8
      · rw [if_pos c3] at h; simp at h
      · rw [if_neg c3] at h
        by_cases c4 : (prs b (getN b (getN b 0).2.1).1.toNat (getN b (getN b 0).2.1).2.1 []).2.2 = 0
        · rw [if_pos c4] at h
          by_cases c5 : (prs b (getN b (getN b 0).2.1).1.toNat (getN b (getN b 0).2.1).2.1 []).2.1 = (b.length : Int)
          · rw [if_pos c5] at h
            by_cases c6 : chk (getN b 0).1 (prs b (getN b (getN b 0).2.1).1.toNat (getN b (getN b 0).2.1).2.1 []).1 = 0
            · rw [if_pos c6] at h
              obtain ⟨_, m, m1, m2, m3, m4, _, rest, m5⟩ := getN_inv hb (v := (getN b 0).1) (q := (getN b 0).2.1) (eta3 _ c1)
              obtain ⟨_, n, n1, n2, n3, n4, _, rest2, n5⟩ := getN_inv hb (v := (getN b (getN b 0).2.1).1) (q := (getN b (getN b 0).2.1).2.1) (eta3 _ c2)
              obtain ⟨new, i1, i2, i3, i4, i5⟩ := prs_inv b hb _ _ [] (prs b (getN b (getN b 0).2.1).1.toNat (getN b (getN b 0).2.1).2.1 []).1 (prs b (getN b (getN b 0).2.1).1.toNat (getN b (getN b 0).2.1).2.1 []).2.1 (by omega) n4 (eta3 _ c4)
              simp only [Prod.mk.injEq] at h
              obtain ⟨h1, h2, _⟩ := h
              rw [List.nil_append] at i1
              have hl : new = l := by rw [← i1]; exact h2
              subst hl
              refine ⟨by rw [← h1, ← h2]; exact c6, ?_⟩
              have a1 : b.drop (getN b 0).2.1.toNat = rest := by
                rw [show (getN b 0).2.1.toNat = 0 + (encN m).length by omega]
                exact drop_app m5
              have a2 : b.drop (getN b (getN b 0).2.1).2.1.toNat = rest2 := by
                rw [show (getN b (getN b 0).2.1).2.1.toNat = (getN b 0).2.1.toNat + (encN n).length by omega]
                exact drop_app n5
              have hdone : b.drop (prs b (getN b (getN b 0).2.1).1.toNat (getN b (getN b 0).2.1).2.1 []).2.1.toNat = [] := by rw [c5, Int.toNat_natCast]; exact List.drop_length
              have hball : b = encM ep new := by
                have m6 : b = encN m ++ rest := by rw [← m5]; rfl
                rw [m6, ← a1, n5, ← a2, i5, hdone, List.append_nil]
                unfold encM
                rw [← h1, m1, Int.toNat_natCast, i2, n1, Int.toNat_natCast]
              rw [← hball]; exact hback
            · rw [if_neg c6] at h
              simp only [Prod.mk.injEq] at h
              exact absurd h.2.2 c6
          · rw [if_neg c5] at h; simp at h
        · rw [if_neg c4] at h
          simp only [Prod.mk.injEq] at h
          exact absurd h.2.2 c4
    · rw [if_neg c2] at h
      simp only [Prod.mk.injEq] at h
      exact absurd h.2.2 c2
  · rw [if_neg c1] at h
    simp only [Prod.mk.injEq] at h
    exact absurd h.2.2 c1
end Go.Proofs.Ytmgjccpolkhhhaa.As
