/- DERIVED. What the functions that are proved by hand stand on: a text's bytes in new memory that may be stored into; the plain laws of the next text, of a text's end, of bytes that are replaced. Conditions: those that each lemma names. -/
import Derived.Test.YtdaikljbljcagaaWLast
import Derived.Test.YtdaikljbljcagaaWMore
import Derived.Lib.SliceRun
import Derived.Lib.SplitLaws
import Derived.Lib.Bytealg
namespace Go.Proofs.Ytdaikljbljcagaa.Hl
open Go.RowKit Go.Proofs.YtdaikljbljcagaaW.PrintWords Go.Proofs.YtdaikljbljcagaaW.PrintLast
section
variable {P : Program} {ops : Array Oper} {o : Oper} {a : Act} {Q : Exit → Act → World → Prop} {W : World} {rest : List Oper}
/-- '[]byte(s)', with the place of the new memory, which may be stored into. -/
theorem bytes_event2 {N : Tmp} (hgd : o.guard = none) (_hd : o.dst = some N) (src dst e : TypeId) (x : Operand) (ho : o.op = .convert src dst x) (s : ByteArray) (hx : a.eval x = .string s) {u : TypeDesc}
    (hs : P.underlying src = some u) (hdst : P.underlying dst = some (.slice e)) (he : P.underlying e = some (.int .u8)) (hsz : s.size ≤ 140737488351232)
    (h : ∀ w1 c, Below W.heap.size W w1 → W.heap.size < w1.heap.size → (Kd.int .u8).C w1 (some ⟨W.heap.size, 0, none⟩) (bytesOf s).length (bytesOf s) → (bytesOf s).length ≤ c → (∀ j, j < (bytesOf s).length → w1.frozen? ⟨W.heap.size, j, none⟩ = false) → wpList P ops Q rest (a.put o.dst (.slice (some ⟨W.heap.size, 0, none⟩) (bytesOf s).length c)) w1) : wpList P ops Q (o :: rest) a W := by
  have hr := print_bytes (P := P) src dst e hs hdst he s W
  have hrun : (execOp a.eval o).run P W = .ok (.value (.slice (some ⟨W.heap.size, 0, none⟩) (bytesOf s).length (grownCap W s.size 0 e))) (Lib.bytesWorld W e s) := by
    unfold execOp
    simp [ho, hx, hr, bytesOf_length]
  refine Kd.event_run hgd hrun (h _ _ (bytes_below (Below.refl _ _) (Nat.le_refl _) e s) (by rw [Lib.bytesWorld_size]; omega) ?_ ?_ ?_)
  · have := bytes_reads W e s (by omega)
    exact Kd.C_of_reads (d := (0 : Int)) (h1 := fun _ => rfl) (by rw [bytesOf_length]; exact this)
  · rw [bytesOf_length]
    exact grownCap_ge _ _ _ _
  · intro j hj
    rw [bytesOf_length] at hj
    have : s.size ≤ (Lib.bytesCells W e s).size := by simp [Lib.bytesCells]
    simp only [World.frozen?, Lib.bytesWorld_at_new]
    simp
    omega
end
theorem frozen_below {w w1 : World} {b : Nat} {a : Addr} (h : Below b w w1) (ha : a.block < b) : w1.frozen? a = w.frozen? a := by
  simp only [World.frozen?, h.block _ ha]
/-- A store into a row that is read. -/
theorem C_setCell {w : World} {g n : Nat} {xs : List Int} (h : (Kd.int .u8).C w (some ⟨g, 0, none⟩) n xs) (j : Nat) (x : Int) (hj : j < n) : (Kd.int .u8).C (w.setCell ⟨g, j, none⟩ (.int .u8 x)) (some ⟨g, 0, none⟩) n (xs.set j x) := by
  have hr := Kd.reads_of_C (enc := Value.int .u8) (d := (0 : Int)) (h1 := fun _ => rfl) h
  obtain ⟨h1, h2, h3⟩ := hr
  refine Kd.C_of_reads (enc := Value.int .u8) (d := (0 : Int)) (h1 := fun _ => rfl) ⟨by simpa using h1, h2, fun hp => ?_⟩
  obtain ⟨ad, e, hc⟩ := h3 hp
  cases e
  refine ⟨_, rfl, fun i hi => ?_⟩
  have hi' := hc i hi
  have hj' := hc j hj
  simp only [add_plain] at hi' hj' ⊢
  by_cases he : i = j
  · subst he
    rw [World.cell?_setCell_same _ _ _ hj']
    simp [List.getD_eq_getElem?_getD, List.getElem?_set_self (show i < xs.length by omega)]
  · rw [World.cell?_setCell_other _ _ _ _ (by intro h; simp only [Addr.mk.injEq] at h; omega), hi']
    simp [List.getD_eq_getElem?_getD, List.getElem?_set_ne (Ne.symm he)]
def strip255 (l : List Int) : List Int := (l.reverse.dropWhile (fun x => x == 255)).reverse
def nextL (l : List Int) : List Int := if strip255 l = [] then [] else (strip255 l).dropLast ++ [((strip255 l).getLast?.getD 0 + 1) % 256]
theorem strip255_concat (l : List Int) (x : Int) : strip255 (l ++ [x]) = if x = 255 then strip255 l else l ++ [x] := by
  unfold strip255
  rw [List.reverse_append]
  by_cases h : x = 255
  · subst h; simp
  · simp [h]
theorem take_last (L : List Int) (m : Nat) (hm : m < L.length) : L.take (m + 1) = L.take m ++ [rd L (m : Int)] := by
  rw [List.take_add_one, List.getElem?_eq_getElem hm]
  simp [rd, List.getD_eq_getElem?_getD, List.getElem?_eq_getElem hm]
theorem next_set (L : List Int) (m : Nat) (hm : m < L.length) (hv : rd L (m : Int) ≠ 255) (hs : strip255 (L.take (m + 1)) = strip255 L) : (L.take (m + 1)).set m ((rd L (m : Int) + 1) % 256) = nextL L := by
  unfold nextL
  rw [← hs, take_last L m hm, strip255_concat, if_neg hv, if_neg (by simp), List.dropLast_concat, List.getLast?_concat]
  have h1 : (L.take m).length = m := by rw [List.length_take]; omega
  conv => lhs; rw [List.set_append_right _ _ (by omega), h1, Nat.sub_self]
  rfl
theorem bytesOf_cut (s : ByteArray) (n : Nat) : bytesOf (s.extract 0 n) = (bytesOf s).take n := by
  simp [bytesOf, ByteArray.data_extract, Array.toList_extract, List.map_take]
theorem rd_bytesOf (s : ByteArray) (m : Nat) (hm : m < s.size) : rd (bytesOf s) (m : Int) = ((s[m]'hm).toNat : Int) := by
  have h' : m < s.data.toList.length := by rw [data_length]; exact hm
  simp [bytesOf, rd, List.getD_eq_getElem?_getD, List.getElem?_eq_getElem h']
  rfl
/-- What (*tuple).text reads. -/
def textS : List UInt8 → List UInt8 → Nat → Int × Int × ByteArray × Int × Int
  | [], _, _ => (0, 0, ByteArray.empty, 0, 2)
  | [_], _, _ => (0, 0, ByteArray.empty, 0, 2)
  | c :: d :: rest, acc, n => if c = 0 then (if d = 0 then (if 32 < acc.length then (0, 0, ByteArray.empty, 0, 4) else (2, 0, ⟨acc.toArray⟩, (n + 2 : Nat), 0)) else if d = 255 then textS rest (acc ++ [0]) (n + 2) else (0, 0, ByteArray.empty, 0, 3)) else textS (d :: rest) (acc ++ [c]) (n + 1)
theorem set3_cells {w : World} {g t : Nat} {x y z a b c : Value} (h : w.heap[g]? = some (.cells #[x, y, z] t (0, 0))) : (((w.setCell ⟨g, 0, none⟩ a).setCell ⟨g, 1, none⟩ b).setCell ⟨g, 2, none⟩ c).heap[g]? = some (.cells #[a, b, c] t (0, 0)) := by
  have hs : ∀ (w : World) (cs : Array Value) (j : Nat) (u : Value), w.heap[g]? = some (.cells cs t (0, 0)) → (w.setCell ⟨g, j, none⟩ u).heap[g]? = some (.cells (cs.setIfInBounds j u) t (0, 0)) := by
    intro w cs j u h
    simp [World.setCell, Array.getElem?_modify, h]
  have h1 := hs _ _ 2 c (hs _ _ 1 b (hs _ _ 0 a h))
  simpa using h1
theorem drop_byte (s : ByteArray) (i : Nat) (h : i < s.size) : s.data.toList.drop i = (s[i]'h) :: s.data.toList.drop (i + 1) := by
  rw [List.drop_eq_getElem_cons (by rw [data_length]; exact h)]
  rfl
/-- Each byte c in s is replaced by l. -/
def bytesTurn (c : UInt8) (l s : List UInt8) : List UInt8 := s.flatMap fun b => if b = c then l else [b]
theorem bytesTurn_hit (c : UInt8) (l : List UInt8) : ∀ (s : List UInt8), 0 < s.count c → ∃ j : Nat, Lib.indexByte s c = (j : Int) ∧ j < s.length ∧ bytesTurn c l s = s.take j ++ l ++ bytesTurn c l (s.drop (j + 1)) ∧ (s.drop (j + 1)).count c + 1 = s.count c
  | [], h => by simp at h
  | b :: s, h => by
    by_cases hb : b = c
    · subst hb
      exact ⟨0, by simp [Lib.indexByte], by simp, by simp [bytesTurn], by simp⟩
    · have hc : 0 < s.count c := by rwa [List.count_cons_of_ne (fun e => hb e)] at h
      obtain ⟨j, h1, h2, h3, h4⟩ := bytesTurn_hit c l s hc
      have hb' : (b == c) = false := by rw [beq_eq_false_iff_ne]; exact hb
      have h1' : ¬ Lib.indexByte s c = -1 := by omega
      refine ⟨j + 1, by simp [Lib.indexByte, hb', h1']; omega, by simp; omega, ?_, ?_⟩
      · simp only [List.drop_succ_cons, List.take_succ_cons]
        conv => lhs; rw [bytesTurn, List.flatMap_cons, if_neg hb]
        show [b] ++ bytesTurn c l s = _
        rw [h3]; simp
      · rw [List.count_cons_of_ne (fun e => hb e)]; simpa using h4
theorem bytesTurn_none (c : UInt8) (l : List UInt8) : ∀ (s : List UInt8), s.count c = 0 → bytesTurn c l s = s
  | [], _ => rfl
  | b :: s, h => by
    by_cases hb : b = c
    · subst hb; simp at h
    · rw [List.count_cons_of_ne (fun e => hb e)] at h
      conv => lhs; rw [bytesTurn, List.flatMap_cons, if_neg hb]
      show [b] ++ bytesTurn c l s = _
      rw [bytesTurn_none c l s h]; rfl
/-- One byte more of a number. -/
def beNext (x c : Int) : Int := Go.bits .or .u64 (IntKind.u64.wrap (x * 256)) (IntKind.u64.wrap c)
def beNum (l : List Int) : Int := l.foldl beNext 0
def beInt (x : Int) : Int := wrap64 (Go.bits .xor .u64 x 9223372036854775808)
def oneS (s : ByteArray) : List UInt8 → Option (Int × Int × ByteArray × Int × Int)
  | [] => none
  | c :: _ => some (if c = 1 then (0, 0, ByteArray.empty, 1, 0) else if c = 2 then (if s.size < 9 then (0, 0, ByteArray.empty, 0, 2) else (1, beInt (beNum (bytesOf (s.extract 1 9))), ByteArray.empty, 9, 0)) else if c = 3 then textS (s.data.toList.drop 1) [] 1 else (0, 0, ByteArray.empty, 0, 3))

end Go.Proofs.Ytdaikljbljcagaa.Hl
