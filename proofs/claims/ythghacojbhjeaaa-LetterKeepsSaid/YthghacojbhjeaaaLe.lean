/- DERIVED. letter.Unpack: what it computes, and its code walked. Conditions: those that each lemma names. -/
import Derived.Test.YthghacojbhjeaaaLd
namespace Go.Proofs.Ythghacojbhjeaaa.Le
open Go Go.RowKit Go.Proofs.Ythghacojbhjeaaa.PKp Go.Proofs.YthghacojbhjeaaaW.PrintWords Go.Proofs.YthghacojbhjeaaaW.PrintLast Go.Proofs.Ythghacojbhjeaaa.Hl Go.Proofs.Ythghacojbhjeaaa.Fv Go.Proofs.Ythghacojbhjeaaa.La Go.Proofs.Ythghacojbhjeaaa.Lb Go.Proofs.Ythghacojbhjeaaa.Lc Go.Proofs.Ythghacojbhjeaaa.Ld
set_option linter.unusedSimpArgs false
set_option linter.unusedVariables false
/-- So many numbers, one by one. -/
def numsG (G : List Int → Int → Option (Int × Int × Int)) (bs : List Int) : Nat → Int → Int → Option (List Int × Int × Int)
  | 0, a, e => some ([], a, e)
  | n + 1, a, e => (numG G bs a e 1099511627776 3).bind fun x => (numsG G bs n x.2.1 x.2.2).bind fun r => some (x.1 :: r.1, r.2.1, r.2.2)
def textsG (T : List Int → Int → Option (ByteArray × Int × Int)) (bs : List Int) : Nat → Int → Int → Option (List ByteArray × Int × Int)
  | 0, a, e => some ([], a, e)
  | n + 1, a, e => (textG T bs a e).bind fun x => (textsG T bs n x.2.1 x.2.2).bind fun r => some (x.1 :: r.1, r.2.1, r.2.2)
/-- The error, when all has been read. -/
def endE (len a e : Int) : Int := if e = 0 ∧ a ≠ len then 3 else e
def mkL (kd : Int) (ns : List Int) (co ye : Int) (ts : List ByteArray) (ps : List S39) (is_ : List S41) : S27 := ⟨kd, ns.getD 0 0, ns.getD 1 0, ns.getD 2 0, ns.getD 3 0, ns.getD 4 0, ns.getD 5 0, ts.getD 0 ⟨#[]⟩, ts.getD 1 ⟨#[]⟩, ps, is_, co, ye == 1, ts.getD 2 ⟨#[]⟩⟩
def unpackG (G : List Int → Int → Option (Int × Int × Int)) (T : List Int → Int → Option (ByteArray × Int × Int)) (bs : List Int) (len : Int) : Option (S27 × Int) :=
  (numG G bs 0 0 255 3).bind fun kd => (numsG G bs 6 kd.2.1 kd.2.2).bind fun ns => (numG G bs ns.2.1 ns.2.2 1099511627776 3).bind fun co => (numG G bs co.2.1 co.2.2 1 3).bind fun ye => (textsG T bs 3 ye.2.1 ye.2.2).bind fun ts =>
  (numG G bs ts.2.1 ts.2.2 256 4).bind fun pn => (pairsG T bs pn.1.toNat pn.2.1 pn.2.2 []).bind fun ps => (numG G bs ps.2.1 ps.2.2 256 4).bind fun qn => (intentsG G T bs qn.1.toNat qn.2.1 qn.2.2 []).bind fun is_ =>
  some (if endE len is_.2.1 is_.2.2 = 0 then (mkL kd.1 ns.1 co.1 ye.1 ts.1 ps.1 is_.1, 0) else (z27, endE len is_.2.1 is_.2.2))
def unpackF (G : List Int → Int → Option (Int × Int × Int)) (T : List Int → Int → Option (ByteArray × Int × Int)) (s : ByteArray) : Option (S27 × Int) := if (s.size : Int) > 65536 then some (z27, 4) else unpackG G T (bytesOf s) (s.size : Int)
/-- A letter's cells. -/
def LC (k n1 n2 n3 n4 n5 n6 : Int) (s t : ByteArray) (P I : Value) (co : Int) (y : Bool) (b : ByteArray) : Array Value := #[.int .i64 k, .int .i64 n1, .int .i64 n2, .int .i64 n3, .int .i64 n4, .int .i64 n5, .int .i64 n6, .string s, .string t, P, I, .int .i64 co, .bool y, .string b]
def LN (k : Int) (ns : List Int) : Array Value := LC k (ns.getD 0 0) (ns.getD 1 0) (ns.getD 2 0) (ns.getD 3 0) (ns.getD 4 0) (ns.getD 5 0) ⟨#[]⟩ ⟨#[]⟩ (.slice none 0 0) (.slice none 0 0) 0 false ⟨#[]⟩
def LT (k : Int) (ns : List Int) (co : Int) (y : Bool) (ts : List ByteArray) : Array Value := LC k (ns.getD 0 0) (ns.getD 1 0) (ns.getD 2 0) (ns.getD 3 0) (ns.getD 4 0) (ns.getD 5 0) (ts.getD 0 ⟨#[]⟩) (ts.getD 1 ⟨#[]⟩) (.slice none 0 0) (.slice none 0 0) co y (ts.getD 2 ⟨#[]⟩)
theorem LN_put (k v : Int) : ∀ ns : List Int, ns.length < 6 → (LN k ns).setIfInBounds (1 + ns.length) (.int .i64 v) = LN k (ns ++ [v])
  | [], _ => rfl
  | [_], _ => rfl
  | [_, _], _ => rfl
  | [_, _, _], _ => rfl
  | [_, _, _, _], _ => rfl
  | [_, _, _, _, _], _ => rfl
  | _ :: _ :: _ :: _ :: _ :: _ :: _, h => by simp only [List.length_cons] at h; omega
def fT (i : Nat) : Nat := if i = 0 then 7 else if i = 1 then 8 else 13
theorem LT_put (k : Int) (ns : List Int) (co : Int) (y : Bool) (v : ByteArray) : ∀ ts : List ByteArray, ts.length < 3 → (LT k ns co y ts).setIfInBounds (fT ts.length) (.string v) = LT k ns co y (ts ++ [v])
  | [], _ => rfl
  | [_], _ => rfl
  | [_, _], _ => rfl
  | _ :: _ :: _ :: _, h => by simp only [List.length_cons] at h; omega
theorem num_field : ∀ i : Nat, i < 6 → [1, 2, 3, 4, 5, 6][i]? = some (1 + i)
  | 0, _ | 1, _ | 2, _ | 3, _ | 4, _ | 5, _ => rfl
  | n + 6, h => by omega
theorem text_field : ∀ i : Nat, i < 3 → [7, 8, 13][i]? = some (fT i)
  | 0, _ | 1, _ | 2, _ => rfl
  | n + 3, h => by omega
theorem LN_at (k : Int) (ns : List Int) : ∀ i : Nat, i < 6 → ∃ u, (LN k ns)[1 + i]? = some u
  | 0, _ | 1, _ | 2, _ | 3, _ | 4, _ | 5, _ => ⟨_, rfl⟩
  | n + 6, h => by omega
theorem LT_at (k : Int) (ns : List Int) (co : Int) (y : Bool) (ts : List ByteArray) : ∀ i : Nat, i < 3 → ∃ u, (LT k ns co y ts)[fT i]? = some u
  | 0, _ | 1, _ | 2, _ => ⟨_, rfl⟩
  | n + 3, h => by omega
/-- The reader, the variable that holds it, the letter. -/
structure St (w0 w : World) (gr g4 g5 : Nat) (A : Option Addr) (c : Nat) (bs : List Int) (a e : Int) (L : Array Value) : Prop where
  rd : Rdr 45 w0 w gr A c bs a e
  b4 : w.heap[g4]? = some (.cells #[.pointer (some ⟨gr, 0, none⟩)] 42 (0, 0))
  b5 : w.heap[g5]? = some (.cells L 27 (0, 0))
  l5 : w0.heap.size ≤ g5
section
variable {w0 w w1 : World} {gr g4 g5 : Nat} {A : Option Addr} {c : Nat} {bs : List Int} {a e a1 e1 : Int} {L L' : Array Value}
theorem St.c4 (h : St w0 w gr g4 g5 A c bs a e L) : w.cell? ⟨g4, 0, none⟩ = some (.pointer (some ⟨gr, 0, none⟩)) := (blk_cell h.b4 0).trans rfl
theorem St.n4 (h : St w0 w gr g4 g5 A c bs a e L) : g4 ≠ gr := blk_ne h.b4 h.rd.box (by decide)
theorem St.n5 (h : St w0 w gr g4 g5 A c bs a e L) : g5 ≠ gr := blk_ne h.b5 h.rd.box (by decide)
theorem St.n54 (h : St w0 w gr g4 g5 A c bs a e L) : g5 ≠ g4 := blk_ne h.b5 h.b4 (by decide)
theorem St.turned (h : St w0 w gr g4 g5 A c bs a e L) (hr : Rdr 45 w0 w1 gr A c bs a1 e1) (ht : Turned gr w w1) : St w0 w1 gr g4 g5 A c bs a1 e1 L := ⟨hr, ht.blk h.b4 h.n4, ht.blk h.b5 h.n5, h.l5⟩
theorem St.put (h : St w0 w gr g4 g5 A c bs a e L) (i : Nat) (v : Value) (hL : L.setIfInBounds i v = L') : St w0 (w.setCell ⟨g5, i, none⟩ v) gr g4 g5 A c bs a e L' :=
  ⟨h.rd.far (p := ⟨g5, i, none⟩) h.l5 (Ne.symm h.n5) _, blk_far (p := ⟨g5, i, none⟩) h.b4 (Ne.symm h.n54) _, blk_put h.b5 i v hL, h.l5⟩
theorem St.later (h : St w0 w gr g4 g5 A c bs a e L) (hb : Below w.heap.size w w1) : St w0 w1 gr g4 g5 A c bs a e L := ⟨h.rd.later hb, blk_below h.b4 hb, blk_below h.b5 hb, h.l5⟩
theorem St.err (h : St w0 w gr g4 g5 A c bs a e L) (v : Int) : St w0 (w.setCell ⟨gr, 2, none⟩ (.int .i64 v)) gr g4 g5 A c bs a v L := ⟨h.rd.err v, blk_far (p := ⟨gr, 2, none⟩) h.b4 h.n4 _, blk_far (p := ⟨gr, 2, none⟩) h.b5 h.n5 _, h.l5⟩
end
theorem R_turn {α : Type} {d : Kd α} {ty : Nat} {w w1 : World} {g t base : Nat} {ok : Nat → Prop} {v : Value} {xs : List α} {cells : Array Value} (h : Kd.R d ty w base ok v xs) (hb : w.heap[g]? = some (.cells cells t (0, 0))) (hne : ∀ q, q ∈ ty :: d.E → q ≠ t) (ht : Turned g w w1) : Kd.R d ty w1 base ok v xs :=
  Kd.R_mono (Kd.R_step (Kd.R_types h hb hne) (fun k hk hlt => ht.block k hlt hk.2)) (fun _ hk => hk.1)
theorem one_num {G : List Int → Int → Option (Int × Int × Int)} {bs : List Int} {n : Nat} {a e : Int} {r : List Int × Int × Int} (h : numsG G bs (n + 1) a e = some r) : ∃ v a1 e1 rest, numG G bs a e 1099511627776 3 = some (v, a1, e1) ∧ numsG G bs n a1 e1 = some (rest, r.2.1, r.2.2) ∧ r.1 = v :: rest := by
  rw [numsG] at h
  obtain ⟨⟨v, a1, e1⟩, h1, h⟩ := Option.bind_eq_some_iff.1 h
  obtain ⟨⟨rest, a2, e2⟩, h2, h⟩ := Option.bind_eq_some_iff.1 h
  obtain rfl := Option.some.inj h
  exact ⟨v, a1, e1, rest, h1, h2, rfl⟩
theorem one_text {T : List Int → Int → Option (ByteArray × Int × Int)} {bs : List Int} {n : Nat} {a e : Int} {r : List ByteArray × Int × Int} (h : textsG T bs (n + 1) a e = some r) : ∃ v a1 e1 rest, textG T bs a e = some (v, a1, e1) ∧ textsG T bs n a1 e1 = some (rest, r.2.1, r.2.2) ∧ r.1 = v :: rest := by
  rw [textsG] at h
  obtain ⟨⟨v, a1, e1⟩, h1, h⟩ := Option.bind_eq_some_iff.1 h
  obtain ⟨⟨rest, a2, e2⟩, h2, h⟩ := Option.bind_eq_some_iff.1 h
  obtain rfl := Option.some.inj h
  exact ⟨v, a1, e1, rest, h1, h2, rfl⟩
/-- The whole of it, as the code leaves it. -/
def Out (w : World) (r : S27 × Int) (en : Ending) (w' : World) : Prop :=
  ∃ P I, en = .returned (.tuple #[.agg (LC r.1.f0 r.1.f1 r.1.f2 r.1.f3 r.1.f4 r.1.f5 r.1.f6 r.1.f7 r.1.f8 P I r.1.f11 r.1.f12 r.1.f13), .int .i64 r.2]) ∧ Kd.R k39 39 w' w.heap.size (fun _ => True) P r.1.f9 ∧ Kd.R k41 41 w' w.heap.size (fun _ => True) I r.1.f10 ∧ Below w.heap.size w w'

set_option maxHeartbeats 8000000 in
set_option maxRecDepth 100000 in
theorem unpack_long (s : ByteArray) (w : World) (hs : (s.size : Int) > 65536) : Calls Try.prog 8 #[.string s] w (Out w (z27, 4)) := by
  have hu27 := Try.underlying27
  have mixed : Try.prog.follows Departure.mixedOrders = true := by kernel_rfl
  have q1 : decide ((s.size : Int) > 65536) = true := decide_eq_true hs
  clear hs
  go_enter Try.func8, Try.ntmps8
  go_wp2_with (first
      | ((with_reducible refine gate_dst (N := 2) rfl ?_); refine box_event ?hg (N := 2) ?hd (cs := #[.int .i64 0, .int .i64 0, .int .i64 0, .int .i64 0, .int .i64 0, .int .i64 0, .int .i64 0, .string (⟨#[]⟩ : ByteArray), .string (⟨#[]⟩ : ByteArray), .slice none 0 0, .slice none 0 0, .int .i64 0, .bool false, .string (⟨#[]⟩ : ByteArray)]) (t := 27) ?hr ?_; (case hd => rfl); (case hg => rfl); (case hr => first | (go_simp; done) | (go_simp; rfl)); intro g2 hg_ w1 hbox_ hb_; have L2 := Aside0.mk (show w.heap.size ≤ g2 by omega); have BX2 := Aside0.mk hbox_; have HB1 := Aside0.mk hb_; have yb0 := blk_frozen BX2.out 0; have zb0 : w1.cell? ⟨g2, 0, none⟩ = some (.int .i64 0) := (blk_cell BX2.out 0).trans rfl; have yb1 := blk_frozen BX2.out 1; have zb1 : w1.cell? ⟨g2, 1, none⟩ = some (.int .i64 0) := (blk_cell BX2.out 1).trans rfl; have yb2 := blk_frozen BX2.out 2; have zb2 : w1.cell? ⟨g2, 2, none⟩ = some (.int .i64 0) := (blk_cell BX2.out 2).trans rfl; have yb3 := blk_frozen BX2.out 3; have zb3 : w1.cell? ⟨g2, 3, none⟩ = some (.int .i64 0) := (blk_cell BX2.out 3).trans rfl; have yb4 := blk_frozen BX2.out 4; have zb4 : w1.cell? ⟨g2, 4, none⟩ = some (.int .i64 0) := (blk_cell BX2.out 4).trans rfl; have yb5 := blk_frozen BX2.out 5; have zb5 : w1.cell? ⟨g2, 5, none⟩ = some (.int .i64 0) := (blk_cell BX2.out 5).trans rfl; have yb6 := blk_frozen BX2.out 6; have zb6 : w1.cell? ⟨g2, 6, none⟩ = some (.int .i64 0) := (blk_cell BX2.out 6).trans rfl; have yb7 := blk_frozen BX2.out 7; have zb7 : w1.cell? ⟨g2, 7, none⟩ = some (.string (⟨#[]⟩ : ByteArray)) := (blk_cell BX2.out 7).trans rfl; have yb8 := blk_frozen BX2.out 8; have zb8 : w1.cell? ⟨g2, 8, none⟩ = some (.string (⟨#[]⟩ : ByteArray)) := (blk_cell BX2.out 8).trans rfl; have yb9 := blk_frozen BX2.out 9; have zb9 : w1.cell? ⟨g2, 9, none⟩ = some (.slice none 0 0) := (blk_cell BX2.out 9).trans rfl; have yb10 := blk_frozen BX2.out 10; have zb10 : w1.cell? ⟨g2, 10, none⟩ = some (.slice none 0 0) := (blk_cell BX2.out 10).trans rfl; have yb11 := blk_frozen BX2.out 11; have zb11 : w1.cell? ⟨g2, 11, none⟩ = some (.int .i64 0) := (blk_cell BX2.out 11).trans rfl; have yb12 := blk_frozen BX2.out 12; have zb12 : w1.cell? ⟨g2, 12, none⟩ = some (.bool false) := (blk_cell BX2.out 12).trans rfl; have yb13 := blk_frozen BX2.out 13; have zb13 : w1.cell? ⟨g2, 13, none⟩ = some (.string (⟨#[]⟩ : ByteArray)) := (blk_cell BX2.out 13).trans rfl; clear hb_ hbox_ hg_))
  refine bodyPost_ret (results_ct rfl _ _ g2 27 #[.int .i64 0, .int .i64 0, .int .i64 0, .int .i64 0, .int .i64 0, .int .i64 0, .int .i64 0, .string (⟨#[]⟩ : ByteArray), .string (⟨#[]⟩ : ByteArray), .slice none 0 0, .slice none 0 0, .int .i64 0, .bool false, .string (⟨#[]⟩ : ByteArray)] (0, 0) _ rfl (blk_put (cs' := #[.int .i64 0, .int .i64 0, .int .i64 0, .int .i64 0, .int .i64 0, .int .i64 0, .int .i64 0, .string (⟨#[]⟩ : ByteArray), .string (⟨#[]⟩ : ByteArray), .slice none 0 0, .slice none 0 0, .int .i64 0, .bool false, .string (⟨#[]⟩ : ByteArray)]) (blk_put (cs' := #[.int .i64 0, .int .i64 0, .int .i64 0, .int .i64 0, .int .i64 0, .int .i64 0, .int .i64 0, .string (⟨#[]⟩ : ByteArray), .string (⟨#[]⟩ : ByteArray), .slice none 0 0, .slice none 0 0, .int .i64 0, .bool false, .string (⟨#[]⟩ : ByteArray)]) (blk_put (cs' := #[.int .i64 0, .int .i64 0, .int .i64 0, .int .i64 0, .int .i64 0, .int .i64 0, .int .i64 0, .string (⟨#[]⟩ : ByteArray), .string (⟨#[]⟩ : ByteArray), .slice none 0 0, .slice none 0 0, .int .i64 0, .bool false, .string (⟨#[]⟩ : ByteArray)]) (blk_put (cs' := #[.int .i64 0, .int .i64 0, .int .i64 0, .int .i64 0, .int .i64 0, .int .i64 0, .int .i64 0, .string (⟨#[]⟩ : ByteArray), .string (⟨#[]⟩ : ByteArray), .slice none 0 0, .slice none 0 0, .int .i64 0, .bool false, .string (⟨#[]⟩ : ByteArray)]) (blk_put (cs' := #[.int .i64 0, .int .i64 0, .int .i64 0, .int .i64 0, .int .i64 0, .int .i64 0, .int .i64 0, .string (⟨#[]⟩ : ByteArray), .string (⟨#[]⟩ : ByteArray), .slice none 0 0, .slice none 0 0, .int .i64 0, .bool false, .string (⟨#[]⟩ : ByteArray)]) (blk_put (cs' := #[.int .i64 0, .int .i64 0, .int .i64 0, .int .i64 0, .int .i64 0, .int .i64 0, .int .i64 0, .string (⟨#[]⟩ : ByteArray), .string (⟨#[]⟩ : ByteArray), .slice none 0 0, .slice none 0 0, .int .i64 0, .bool false, .string (⟨#[]⟩ : ByteArray)]) (blk_put (cs' := #[.int .i64 0, .int .i64 0, .int .i64 0, .int .i64 0, .int .i64 0, .int .i64 0, .int .i64 0, .string (⟨#[]⟩ : ByteArray), .string (⟨#[]⟩ : ByteArray), .slice none 0 0, .slice none 0 0, .int .i64 0, .bool false, .string (⟨#[]⟩ : ByteArray)]) (blk_put (cs' := #[.int .i64 0, .int .i64 0, .int .i64 0, .int .i64 0, .int .i64 0, .int .i64 0, .int .i64 0, .string (⟨#[]⟩ : ByteArray), .string (⟨#[]⟩ : ByteArray), .slice none 0 0, .slice none 0 0, .int .i64 0, .bool false, .string (⟨#[]⟩ : ByteArray)]) (blk_put (cs' := #[.int .i64 0, .int .i64 0, .int .i64 0, .int .i64 0, .int .i64 0, .int .i64 0, .int .i64 0, .string (⟨#[]⟩ : ByteArray), .string (⟨#[]⟩ : ByteArray), .slice none 0 0, .slice none 0 0, .int .i64 0, .bool false, .string (⟨#[]⟩ : ByteArray)]) (blk_put (cs' := #[.int .i64 0, .int .i64 0, .int .i64 0, .int .i64 0, .int .i64 0, .int .i64 0, .int .i64 0, .string (⟨#[]⟩ : ByteArray), .string (⟨#[]⟩ : ByteArray), .slice none 0 0, .slice none 0 0, .int .i64 0, .bool false, .string (⟨#[]⟩ : ByteArray)]) (blk_put (cs' := #[.int .i64 0, .int .i64 0, .int .i64 0, .int .i64 0, .int .i64 0, .int .i64 0, .int .i64 0, .string (⟨#[]⟩ : ByteArray), .string (⟨#[]⟩ : ByteArray), .slice none 0 0, .slice none 0 0, .int .i64 0, .bool false, .string (⟨#[]⟩ : ByteArray)]) (blk_put (cs' := #[.int .i64 0, .int .i64 0, .int .i64 0, .int .i64 0, .int .i64 0, .int .i64 0, .int .i64 0, .string (⟨#[]⟩ : ByteArray), .string (⟨#[]⟩ : ByteArray), .slice none 0 0, .slice none 0 0, .int .i64 0, .bool false, .string (⟨#[]⟩ : ByteArray)]) (blk_put (cs' := #[.int .i64 0, .int .i64 0, .int .i64 0, .int .i64 0, .int .i64 0, .int .i64 0, .int .i64 0, .string (⟨#[]⟩ : ByteArray), .string (⟨#[]⟩ : ByteArray), .slice none 0 0, .slice none 0 0, .int .i64 0, .bool false, .string (⟨#[]⟩ : ByteArray)]) (blk_put (cs' := #[.int .i64 0, .int .i64 0, .int .i64 0, .int .i64 0, .int .i64 0, .int .i64 0, .int .i64 0, .string (⟨#[]⟩ : ByteArray), .string (⟨#[]⟩ : ByteArray), .slice none 0 0, .slice none 0 0, .int .i64 0, .bool false, .string (⟨#[]⟩ : ByteArray)]) BX2.out 0 (.int .i64 0) rfl) 1 (.int .i64 0) rfl) 2 (.int .i64 0) rfl) 3 (.int .i64 0) rfl) 4 (.int .i64 0) rfl) 5 (.int .i64 0) rfl) 6 (.int .i64 0) rfl) 7 (.string (⟨#[]⟩ : ByteArray)) rfl) 8 (.string (⟨#[]⟩ : ByteArray)) rfl) 9 (.slice none 0 0) rfl) 10 (.slice none 0 0) rfl) 11 (.int .i64 0) rfl) 12 (.bool false) rfl) 13 (.string (⟨#[]⟩ : ByteArray)) rfl) Try.underlying27 rfl (by kernel_rfl)) rfl ?_
  refine ⟨_, _, rfl, Kd.R_nil _ _ _ _ _, Kd.R_nil _ _ _ _ _, ?_⟩
  exact ((((((((((((((HB1.out.setCell (p := ⟨g2, 0, none⟩) L2.out _).setCell (p := ⟨g2, 1, none⟩) L2.out _).setCell (p := ⟨g2, 2, none⟩) L2.out _).setCell (p := ⟨g2, 3, none⟩) L2.out _).setCell (p := ⟨g2, 4, none⟩) L2.out _).setCell (p := ⟨g2, 5, none⟩) L2.out _).setCell (p := ⟨g2, 6, none⟩) L2.out _).setCell (p := ⟨g2, 7, none⟩) L2.out _).setCell (p := ⟨g2, 8, none⟩) L2.out _).setCell (p := ⟨g2, 9, none⟩) L2.out _).setCell (p := ⟨g2, 10, none⟩) L2.out _).setCell (p := ⟨g2, 11, none⟩) L2.out _).setCell (p := ⟨g2, 12, none⟩) L2.out _).setCell (p := ⟨g2, 13, none⟩) L2.out _)

set_option maxHeartbeats 8000000 in
set_option maxRecDepth 100000 in
theorem unpack_short (k : Nat) (s : ByteArray) (w : World) (r : S27 × Int) (hs : ¬ (s.size : Int) > 65536) (h : unpackG (codeN k) (codeT k) (bytesOf s) (s.size : Int) = some r) : Calls Try.prog 8 #[.string s] w (Out w r) := by
  have hu27 := Try.underlying27
  have hu45 := Try.underlying45
  have mixed : Try.prog.follows Departure.mixedOrders = true := by kernel_rfl
  have q1 : decide ((s.size : Int) > 65536) = false := decide_eq_false hs
  have HS := Aside0.mk (show s.size ≤ 140737488351232 by omega)
  unfold unpackG at h
  obtain ⟨⟨kd, a1, e1⟩, h1, h⟩ := Option.bind_eq_some_iff.1 h
  obtain ⟨⟨ns, a2, e2⟩, h2, h⟩ := Option.bind_eq_some_iff.1 h
  obtain ⟨⟨co, a3, e3⟩, h3, h⟩ := Option.bind_eq_some_iff.1 h
  obtain ⟨⟨ye, a4, e4⟩, h4, h⟩ := Option.bind_eq_some_iff.1 h
  obtain ⟨⟨ts, a5, e5⟩, h5, h⟩ := Option.bind_eq_some_iff.1 h
  obtain ⟨⟨pn, a6, e6⟩, h6, h⟩ := Option.bind_eq_some_iff.1 h
  obtain ⟨⟨ps, a7, e7⟩, h7, h⟩ := Option.bind_eq_some_iff.1 h
  obtain ⟨⟨qn, a8, e8⟩, h8, h⟩ := Option.bind_eq_some_iff.1 h
  obtain ⟨⟨is_, a9, e9⟩, h9, h⟩ := Option.bind_eq_some_iff.1 h
  have F1 := Aside0.mk h1; have F2 := Aside0.mk h2; have F3 := Aside0.mk h3; have F4 := Aside0.mk h4; have F5 := Aside0.mk h5; have F6 := Aside0.mk h6; have F7 := Aside0.mk h7; have F8 := Aside0.mk h8; have F9 := Aside0.mk h9; have F0 := Aside0.mk h
  clear h h1 h2 h3 h4 h5 h6 h7 h8 h9 hs
  go_enter Try.func8, Try.ntmps8
  go_upto_region 4 with (first
      | ((with_reducible refine gate_dst (N := 2) rfl ?_); refine box_event ?hg (N := 2) ?hd (cs := #[.int .i64 0, .int .i64 0, .int .i64 0, .int .i64 0, .int .i64 0, .int .i64 0, .int .i64 0, .string (⟨#[]⟩ : ByteArray), .string (⟨#[]⟩ : ByteArray), .slice none 0 0, .slice none 0 0, .int .i64 0, .bool false, .string (⟨#[]⟩ : ByteArray)]) (t := 27) ?hr ?_; (case hd => rfl); (case hg => rfl); (case hr => first | (go_simp; done) | (go_simp; rfl)); intro g2 hg_ w1 hbox_ hb_; have L2 := Aside0.mk (show w.heap.size ≤ g2 by omega); have BX2 := Aside0.mk hbox_; have HB1 := Aside0.mk hb_; clear hb_ hbox_ hg_)
      | ((with_reducible refine gate_dst (N := 15) rfl ?_); refine bytes_event ?hg (N := 15) ?hd 9 43 5 (.tmp 14) rfl s rfl Try.underlying9 Try.underlying43 Try.underlying5 HS.out ?_; (case hd => rfl); (case hg => rfl); intro w2 A c hb_ hC_ hc_; have HC2 := Aside0.mk hC_; have HCC := Aside0.mk hc_; have HB2 := Aside0.mk hb_; have BX22 := Aside0.mk (blk_below BX2.out hb_); clear hb_ hC_ hc_)
      | ((with_reducible refine gate_dst (N := 17) rfl ?_); refine box_event ?hg (N := 17) ?hd (cs := #[.slice A (bytesOf s).length c, .int .i64 0, .int .i64 0]) (t := 45) ?hr ?_; (case hd => rfl); (case hg => rfl); (case hr => first | (go_simp; done) | (go_simp; rfl)); intro gr hg_ w3 hbox_ hb_; have HR3 := Aside0.mk (Rdr.mk (t := 45) (w0 := w2) hb_ (by omega) hbox_ HC2.out HCC.out); clear hb_ hbox_ hg_)
      | ((with_reducible refine gate_dst (N := 4) rfl ?_); refine box_event ?hg (N := 4) ?hd (cs := #[.pointer none]) (t := 42) ?hr ?_; (case hd => rfl); (case hg => rfl); (case hr => first | (go_simp; done) | (go_simp; rfl)); intro g4 hg_ w4 hbox_ hb_; have L4 := Aside0.mk (show w3.heap.size ≤ g4 by omega); have BX4 := Aside0.mk hbox_; have HR4 := Aside0.mk (HR3.out.later hb_); have y0 := blk_frozen BX4.out 0; have z0 : w4.cell? ⟨g4, 0, none⟩ = some (.pointer none) := (blk_cell BX4.out 0).trans rfl; clear hb_ hbox_ hg_))
  have HR5 := Aside0.mk (HR4.out.far (p := ⟨g4, 0, none⟩) (by have h1 := L4.out; have h2 := HR3.out.below.size; show w2.heap.size ≤ g4; omega) (by have h1 := L4.out; have h2 := blk_lt HR3.out.box; show gr ≠ g4; omega) (.pointer (some ⟨gr, 0, none⟩)))
  have B45 := Aside0.mk (blk_put BX4.out 0 (.pointer (some ⟨gr, 0, none⟩)) rfl)
  obtain ⟨w5, hw_⟩ : ∃ u, w4.setCell ⟨g4, 0, none⟩ (.pointer (some ⟨gr, 0, none⟩)) = u := ⟨_, rfl⟩
  rw [hw_] at HR5 B45 ⊢
  have N4 := Aside0.mk (blk_ne B45.out HR5.out.box (by decide))
  clear hw_ y0 z0
  have c4 : w5.cell? ⟨g4, 0, none⟩ = some (.pointer (some ⟨gr, 0, none⟩)) := (blk_cell B45.out 0).trans rfl
  go_upto_region 5 with (first
      | ((with_reducible refine gate_callee (f := 17) rfl ?_); refine goesL_ (some 19) rfl rfl Try.func17 (by kernel_rfl) rfl #[.pointer (some ⟨gr, 0, none⟩), .int .i64 255, .int .i64 3] rfl (by (try simp only [List.map_toArray, List.map_cons, List.map_nil]); first | done | rfl) ?_; (refine (num_v HR5.out k 255 3 _ _ _ F1.out).mono ?_); rintro en w6 ⟨rfl, hh_, ht_⟩; refine ⟨_, rfl, ?_⟩; have HR6 := Aside0.mk hh_; have B46 := Aside0.mk (ht_.blk B45.out N4.out); clear hh_ ht_)
      | ((with_reducible refine gate_dst (N := 5) rfl ?_); refine box_event ?hg (N := 5) ?hd (cs := #[.int .i64 0, .int .i64 0, .int .i64 0, .int .i64 0, .int .i64 0, .int .i64 0, .int .i64 0, .string (⟨#[]⟩ : ByteArray), .string (⟨#[]⟩ : ByteArray), .slice none 0 0, .slice none 0 0, .int .i64 0, .bool false, .string (⟨#[]⟩ : ByteArray)]) (t := 27) ?hr ?_; (case hd => rfl); (case hg => rfl); (case hr => first | (go_simp; done) | (go_simp; rfl)); intro g5 hg_ w7 hbox_ hb_; have B47 := Aside0.mk (blk_below B46.out hb_); have S7 := Aside0.mk (St.mk (HR6.out.later hb_) B47.out hbox_ (by have := HR6.out.below.size; omega)); have yb0 := blk_frozen S7.out.b5 0; have zb0 : w7.cell? ⟨g5, 0, none⟩ = some (.int .i64 0) := (blk_cell S7.out.b5 0).trans rfl; have yb1 := blk_frozen S7.out.b5 1; have zb1 : w7.cell? ⟨g5, 1, none⟩ = some (.int .i64 0) := (blk_cell S7.out.b5 1).trans rfl; have yb2 := blk_frozen S7.out.b5 2; have zb2 : w7.cell? ⟨g5, 2, none⟩ = some (.int .i64 0) := (blk_cell S7.out.b5 2).trans rfl; have yb3 := blk_frozen S7.out.b5 3; have zb3 : w7.cell? ⟨g5, 3, none⟩ = some (.int .i64 0) := (blk_cell S7.out.b5 3).trans rfl; have yb4 := blk_frozen S7.out.b5 4; have zb4 : w7.cell? ⟨g5, 4, none⟩ = some (.int .i64 0) := (blk_cell S7.out.b5 4).trans rfl; have yb5 := blk_frozen S7.out.b5 5; have zb5 : w7.cell? ⟨g5, 5, none⟩ = some (.int .i64 0) := (blk_cell S7.out.b5 5).trans rfl; have yb6 := blk_frozen S7.out.b5 6; have zb6 : w7.cell? ⟨g5, 6, none⟩ = some (.int .i64 0) := (blk_cell S7.out.b5 6).trans rfl; have yb7 := blk_frozen S7.out.b5 7; have zb7 : w7.cell? ⟨g5, 7, none⟩ = some (.string (⟨#[]⟩ : ByteArray)) := (blk_cell S7.out.b5 7).trans rfl; have yb8 := blk_frozen S7.out.b5 8; have zb8 : w7.cell? ⟨g5, 8, none⟩ = some (.string (⟨#[]⟩ : ByteArray)) := (blk_cell S7.out.b5 8).trans rfl; have yb9 := blk_frozen S7.out.b5 9; have zb9 : w7.cell? ⟨g5, 9, none⟩ = some (.slice none 0 0) := (blk_cell S7.out.b5 9).trans rfl; have yb10 := blk_frozen S7.out.b5 10; have zb10 : w7.cell? ⟨g5, 10, none⟩ = some (.slice none 0 0) := (blk_cell S7.out.b5 10).trans rfl; have yb11 := blk_frozen S7.out.b5 11; have zb11 : w7.cell? ⟨g5, 11, none⟩ = some (.int .i64 0) := (blk_cell S7.out.b5 11).trans rfl; have yb12 := blk_frozen S7.out.b5 12; have zb12 : w7.cell? ⟨g5, 12, none⟩ = some (.bool false) := (blk_cell S7.out.b5 12).trans rfl; have yb13 := blk_frozen S7.out.b5 13; have zb13 : w7.cell? ⟨g5, 13, none⟩ = some (.string (⟨#[]⟩ : ByteArray)) := (blk_cell S7.out.b5 13).trans rfl; clear hb_ hbox_ hg_))
  have S8 := Aside0.mk ((St.put (L' := LN kd []) (St.put (L' := LN kd []) (St.put (L' := LN kd []) (St.put (L' := LN kd []) (St.put (L' := LN kd []) (St.put (L' := LN kd []) (St.put (L' := LN kd []) (St.put (L' := LN kd []) (St.put (L' := LN kd []) (St.put (L' := LN kd []) (St.put (L' := LN kd []) (St.put (L' := LN kd []) (St.put (L' := LN kd []) (St.put (L' := LN kd []) S7.out 0 (.int .i64 kd) rfl) 1 (.int .i64 0) rfl) 2 (.int .i64 0) rfl) 3 (.int .i64 0) rfl) 4 (.int .i64 0) rfl) 5 (.int .i64 0) rfl) 6 (.int .i64 0) rfl) 7 (.string (⟨#[]⟩ : ByteArray)) rfl) 8 (.string (⟨#[]⟩ : ByteArray)) rfl) 9 (.slice none 0 0) rfl) 10 (.slice none 0 0) rfl) 11 (.int .i64 0) rfl) 12 (.bool false) rfl) 13 (.string (⟨#[]⟩ : ByteArray)) rfl))
  obtain ⟨w8, hw_⟩ : ∃ u, ((((((((((((((w7.setCell ⟨g5, 0, none⟩ (.int .i64 kd)).setCell ⟨g5, 1, none⟩ (.int .i64 0)).setCell ⟨g5, 2, none⟩ (.int .i64 0)).setCell ⟨g5, 3, none⟩ (.int .i64 0)).setCell ⟨g5, 4, none⟩ (.int .i64 0)).setCell ⟨g5, 5, none⟩ (.int .i64 0)).setCell ⟨g5, 6, none⟩ (.int .i64 0)).setCell ⟨g5, 7, none⟩ (.string (⟨#[]⟩ : ByteArray))).setCell ⟨g5, 8, none⟩ (.string (⟨#[]⟩ : ByteArray))).setCell ⟨g5, 9, none⟩ (.slice none 0 0)).setCell ⟨g5, 10, none⟩ (.slice none 0 0)).setCell ⟨g5, 11, none⟩ (.int .i64 0)).setCell ⟨g5, 12, none⟩ (.bool false)).setCell ⟨g5, 13, none⟩ (.string (⟨#[]⟩ : ByteArray))) = u := ⟨_, rfl⟩
  rw [hw_] at S8 ⊢
  clear hw_ c4
  clear yb0 zb0 yb1 zb1 yb2 zb2 yb3 zb3 yb4 zb4 yb5 zb5 yb6 zb6 yb7 zb7 yb8 zb8 yb9 zb9 yb10 zb10 yb11 zb11 yb12 zb12 yb13 zb13
  have c4 := S8.out.c4
  go_wp2_with (first
      | ((with_reducible refine gate_callee (f := 18) rfl ?_); refine goesL_ (some 21) rfl rfl Try.func18 (by kernel_rfl) rfl #[.pointer (some ⟨g5, 0, none⟩)] rfl (by (try simp only [List.map_toArray, List.map_cons, List.map_nil]); first | done | rfl) ?_; (refine (numbers_v S8.out.b5).mono ?_); rintro en w9 ⟨gp, rfl, hge_, hbp_, hb_⟩; refine ⟨_, rfl, ?_⟩; have S9 := Aside0.mk (S8.out.later hb_); have GP9 := Aside0.mk hbp_; clear hge_ hbp_ hb_))
  clear c4
  go_loopg [23] 6 (fun kq v23 wr => ∃ (il : List Int) (a e : Int) (rest : List Int), v23 = .int .i64 (il.length : Int) ∧ Aside0 (il.length ≤ 6 ∧ 6 - il.length ≤ kq) ∧ Aside0 (il ++ rest = ns) ∧ Aside0 (numsG (codeN k) (bytesOf s) (6 - il.length) a e = some (rest, a2, e2)) ∧ Aside0 (St w2 wr gr g4 g5 A c (bytesOf s) a e (LN kd il)) ∧ Aside0 (wr.heap[gp]? = some (.cells (ptrs g5 [1, 2, 3, 4, 5, 6]) 50 (0, 0))))
  case atStart => exact ⟨[], _, _, ns, rfl, ⟨by decide⟩, ⟨rfl⟩, F2, S9, GP9⟩
  case round =>
    obtain ⟨il, a, e, rest, rfl, HLen, HApp, HN, HS1, HP⟩ := hrel
    obtain ⟨hl6, hgk⟩ := HLen.out
    have c4 := HS1.out.c4
    have n45 := HS1.out.n54
    have n54 := Ne.symm n45
    have NPR := Aside0.mk (blk_ne HP.out HS1.out.rd.box (by decide))
    have NP5 := Aside0.mk (blk_ne HP.out HS1.out.b5 (by decide))
    by_cases hlt : il.length < 6
    · obtain ⟨u0, hu0⟩ := LN_at kd il il.length hlt
      have HU0 := Aside0.mk hu0
      have cp : wr.cell? ⟨gp, il.length, none⟩ = some (.pointer (some ⟨g5, 1 + il.length, none⟩)) := ptrs_at HP.out (num_field il.length hlt)
      obtain ⟨m1, hm1⟩ : ∃ m1, 6 - il.length = m1 + 1 := ⟨6 - il.length - 1, by omega⟩
      have hn := HN.out
      rw [hm1] at hn
      obtain ⟨v, b1, f1, rest', hv, hn, hr'⟩ := one_num hn
      have FN := Aside0.mk hv
      have HN2 := Aside0.mk hn
      have HR' := Aside0.mk hr'
      have HM1 := Aside0.mk hm1
      have HL := Aside0.mk hgk
      have t1 : decide ((il.length : Int) < 6) = true := decide_eq_true (by omega)
      clear hu0 hn hr' hv hm1 hgk
      go_wp2_with (first
        | ((with_reducible refine gate_callee (f := 17) rfl ?_); refine goesL_ (some 29) rfl rfl Try.func17 (by kernel_rfl) rfl #[.pointer (some ⟨gr, 0, none⟩), .int .i64 1099511627776, .int .i64 3] rfl (by (try simp only [List.map_toArray, List.map_cons, List.map_nil]); first | done | rfl) ?_; (refine (num_v HS1.out.rd k 1099511627776 3 _ _ _ FN.out).mono ?_); rintro en wq ⟨rfl, hh_, ht_⟩; refine ⟨_, rfl, ?_⟩; have S2 := Aside0.mk (HS1.out.turned hh_ ht_); have GP2 := Aside0.mk (ht_.blk HP.out NPR.out); clear c4; have z0 : wq.cell? ⟨g5, 1 + il.length, none⟩ = some u0 := (blk_cell S2.out.b5 _).trans HU0.out; have y0 := blk_frozen S2.out.b5 (1 + il.length); clear hh_ ht_))
      go_roundg m1
      case measure => have := HM1.out; have := HL.out; omega
      case rel => exact ⟨il ++ [v], b1, f1, rest', by simp only [List.length_append, List.length_cons, List.length_nil]; first | rfl | (congr 1; exact Go.IntWalk.wrap64_in _ (by omega)), ⟨by rw [List.length_append]; simp only [List.length_cons, List.length_nil]; have := HM1.out; omega⟩, ⟨by rw [List.append_assoc, List.singleton_append, ← HR'.out]; exact HApp.out⟩, ⟨by rw [show 6 - (il ++ [v]).length = m1 by rw [List.length_append]; simp only [List.length_cons, List.length_nil]; have := HM1.out; omega]; exact HN2.out⟩, ⟨S2.out.put (1 + il.length) (.int .i64 v) (LN_put kd v il hlt)⟩, ⟨blk_far (p := ⟨g5, 1 + il.length, none⟩) GP2.out NP5.out _⟩⟩
    · have t1 : decide ((il.length : Int) < 6) = false := decide_eq_false (by omega)
      have hn := HN.out
      rw [show 6 - il.length = 0 by omega, numsG] at hn
      simp only [Option.some.injEq, Prod.mk.injEq] at hn
      obtain ⟨rfl, rfl, rfl⟩ := hn
      have happ := HApp.out
      rw [List.append_nil] at happ
      subst happ
      have hl6 : il.length = 6 := by omega
      clear hlt HLen HApp HN hgk
      have S10 := HS1
      clear HS1 HP NPR NP5
      go_upto_region 11 with (first
            | ((with_reducible refine gate_callee (f := 17) rfl ?_); refine goesL_ (some 33) rfl rfl Try.func17 (by kernel_rfl) rfl #[.pointer (some ⟨gr, 0, none⟩), .int .i64 1099511627776, .int .i64 3] rfl (by (try simp only [List.map_toArray, List.map_cons, List.map_nil]); first | done | rfl) ?_; (refine (num_v S10.out.rd k 1099511627776 3 _ _ _ F3.out).mono ?_); rintro en w11 ⟨rfl, hh_, ht_⟩; refine ⟨_, rfl, ?_⟩; have S11 := Aside0.mk (S10.out.turned hh_ ht_); clear c4; have y0 := blk_frozen S11.out.b5 11; have z0 : w11.cell? ⟨g5, 11, none⟩ = some (.int .i64 0) := (blk_cell S11.out.b5 11).trans rfl; clear hh_ ht_))
      have S12 := Aside0.mk (S11.out.put 11 (.int .i64 co) (L' := LT kd il co false []) rfl)
      obtain ⟨w12, hw_⟩ : ∃ u, w11.setCell ⟨g5, 11, none⟩ (.int .i64 co) = u := ⟨_, rfl⟩
      rw [hw_] at S12 ⊢
      clear hw_ z0 y0
      have c4 := S12.out.c4
      go_upto_region 12 with (first
            | ((with_reducible refine gate_callee (f := 17) rfl ?_); refine goesL_ (some 36) rfl rfl Try.func17 (by kernel_rfl) rfl #[.pointer (some ⟨gr, 0, none⟩), .int .i64 1, .int .i64 3] rfl (by (try simp only [List.map_toArray, List.map_cons, List.map_nil]); first | done | rfl) ?_; (refine (num_v S12.out.rd k 1 3 _ _ _ F4.out).mono ?_); rintro en w13 ⟨rfl, hh_, ht_⟩; refine ⟨_, rfl, ?_⟩; have S13 := Aside0.mk (S12.out.turned hh_ ht_); clear c4; have y0 := blk_frozen S13.out.b5 12; have z0 : w13.cell? ⟨g5, 12, none⟩ = some (.bool false) := (blk_cell S13.out.b5 12).trans rfl; clear hh_ ht_))
      have S14 := Aside0.mk (S13.out.put 12 (.bool (ye == 1)) (L' := LT kd il co (ye == 1) []) rfl)
      obtain ⟨w14, hw_⟩ : ∃ u, w13.setCell ⟨g5, 12, none⟩ (.bool (ye == 1)) = u := ⟨_, rfl⟩
      rw [hw_] at S14 ⊢
      clear hw_ z0 y0
      obtain ⟨nn, hnn⟩ : ∃ nn, nn = il := ⟨_, rfl⟩
      rw [← hnn] at S14 S13 S12 S11 S10 F0
      clear S13 S12 S11 S10 hnn
      rename World => wo
      go_wp2_with (first
            | ((with_reducible refine gate_callee (f := 19) rfl ?_); refine goesL_ (some 39) rfl rfl Try.func19 (by kernel_rfl) rfl #[.pointer (some ⟨g5, 0, none⟩)] rfl (by (try simp only [List.map_toArray, List.map_cons, List.map_nil]); first | done | rfl) ?_; (refine (texts_v S14.out.b5).mono ?_); rintro en w15 ⟨gt, rfl, hge_, hbp_, hb_⟩; refine ⟨_, rfl, ?_⟩; have S15 := Aside0.mk (S14.out.later hb_); have GT9 := Aside0.mk hbp_; clear hge_ hbp_ hb_))
      go_loopg [41] 3 (fun kq v41 wr => ∃ (il : List ByteArray) (a e : Int) (rest : List ByteArray), v41 = .int .i64 (il.length : Int) ∧ Aside0 (il.length ≤ 3 ∧ 3 - il.length ≤ kq) ∧ Aside0 (il ++ rest = ts) ∧ Aside0 (textsG (codeT k) (bytesOf s) (3 - il.length) a e = some (rest, a5, e5)) ∧ Aside0 (St w2 wr gr g4 g5 A c (bytesOf s) a e (LT kd nn co (ye == 1) il)) ∧ Aside0 (wr.heap[gt]? = some (.cells (ptrs g5 [7, 8, 13]) 53 (0, 0))))
      case atStart => exact ⟨[], _, _, ts, rfl, ⟨by decide⟩, ⟨rfl⟩, F5, S15, GT9⟩
      case round =>
        obtain ⟨il, a, e, rest, rfl, HLen, HApp, HN, HS1, HP⟩ := hrel
        obtain ⟨hl6, hgk⟩ := HLen.out
        have c4 := HS1.out.c4
        have n45 := HS1.out.n54
        have n54 := Ne.symm n45
        have NPR := Aside0.mk (blk_ne HP.out HS1.out.rd.box (by decide))
        have NP5 := Aside0.mk (blk_ne HP.out HS1.out.b5 (by decide))
        by_cases hlt : il.length < 3
        · obtain ⟨u0, hu0⟩ := LT_at kd nn co (ye == 1) il il.length hlt
          have HU0 := Aside0.mk hu0
          have cp : wr.cell? ⟨gt, il.length, none⟩ = some (.pointer (some ⟨g5, fT il.length, none⟩)) := ptrs_at HP.out (text_field il.length hlt)
          obtain ⟨m1, hm1⟩ : ∃ m1, 3 - il.length = m1 + 1 := ⟨3 - il.length - 1, by omega⟩
          have hn := HN.out
          rw [hm1] at hn
          obtain ⟨v, b1, f1, rest', hv, hn, hr'⟩ := one_text hn
          have FN := Aside0.mk hv
          have HN2 := Aside0.mk hn
          have HR' := Aside0.mk hr'
          have HM1 := Aside0.mk hm1
          have HL := Aside0.mk hgk
          have t1 : decide ((il.length : Int) < 3) = true := decide_eq_true (by omega)
          clear hu0 hn hr' hv hm1 hgk
          go_wp2_with (first
            | ((with_reducible refine gate_callee (f := 20) rfl ?_); refine goesL_ (some 47) rfl rfl Try.func20 (by kernel_rfl) rfl #[.pointer (some ⟨gr, 0, none⟩)] rfl (by (try simp only [List.map_toArray, List.map_cons, List.map_nil]); first | done | rfl) ?_; (refine (text_v HS1.out.rd k _ _ _ FN.out).mono ?_); rintro en wq ⟨rfl, hh_, ht_⟩; refine ⟨_, rfl, ?_⟩; have S2 := Aside0.mk (HS1.out.turned hh_ ht_); have GT2 := Aside0.mk (ht_.blk HP.out NPR.out); clear c4; have z0 : wq.cell? ⟨g5, fT il.length, none⟩ = some u0 := (blk_cell S2.out.b5 _).trans HU0.out; have y0 := blk_frozen S2.out.b5 (fT il.length); clear hh_ ht_))
          go_roundg m1
          case measure => have := HM1.out; have := HL.out; omega
          case rel => exact ⟨il ++ [v], b1, f1, rest', by simp only [List.length_append, List.length_cons, List.length_nil]; first | rfl | (congr 1; exact Go.IntWalk.wrap64_in _ (by omega)), ⟨by rw [List.length_append]; simp only [List.length_cons, List.length_nil]; have := HM1.out; omega⟩, ⟨by rw [List.append_assoc, List.singleton_append, ← HR'.out]; exact HApp.out⟩, ⟨by rw [show 3 - (il ++ [v]).length = m1 by rw [List.length_append]; simp only [List.length_cons, List.length_nil]; have := HM1.out; omega]; exact HN2.out⟩, ⟨S2.out.put (fT il.length) (.string v) (LT_put kd nn co (ye == 1) v il hlt)⟩, ⟨blk_far (p := ⟨g5, fT il.length, none⟩) GT2.out NP5.out _⟩⟩
        · have t1 : decide ((il.length : Int) < 3) = false := decide_eq_false (by omega)
          have hn := HN.out
          rw [show 3 - il.length = 0 by omega, textsG] at hn
          simp only [Option.some.injEq, Prod.mk.injEq] at hn
          obtain ⟨rfl, rfl, rfl⟩ := hn
          have happ := HApp.out
          rw [List.append_nil] at happ
          subst happ
          have hl6 : il.length = 3 := by omega
          clear hlt HLen HApp HN hgk
          have S16 := HS1
          clear HS1 HP NPR NP5
          go_upto_region 18 with (first
                | ((with_reducible refine gate_callee (f := 21) rfl ?_); refine goesL_ (some 52) rfl rfl Try.func21 (by kernel_rfl) rfl #[.pointer (some ⟨gr, 0, none⟩), .func (.func 22) #[] #[.pointer (some ⟨g4, 0, none⟩)]] rfl (by (try simp only [List.map_toArray, List.map_cons, List.map_nil]); first | done | rfl) ?_; (refine (pairs_v S16.out.rd g4 S16.out.b4 k _ _ _ _ _ _ F6.out F7.out).mono ?_); rintro en w17 ⟨vP, rfl, hp_, hh_, ht_⟩; obtain ⟨AP, cP, hv_⟩ := Kd.R_slice hp_; subst hv_; refine ⟨_, rfl, ?_⟩; have S17 := Aside0.mk (S16.out.turned hh_ ht_); have HP17 := Aside0.mk (Kd.R_lower (base' := w.heap.size) hp_ (by have h1 := HB1.out.size; have h2 := HB2.out.size; have h3 := S16.out.rd.below.size; omega)); clear hp_ hh_ ht_ c4; have y0 := blk_frozen S17.out.b5 9; have z0 : w17.cell? ⟨g5, 9, none⟩ = some (.slice none 0 0) := (blk_cell S17.out.b5 9).trans rfl; ))
          have S18 := Aside0.mk (S17.out.put 9 (.slice AP ps.length cP) (L' := LC kd (nn.getD 0 0) (nn.getD 1 0) (nn.getD 2 0) (nn.getD 3 0) (nn.getD 4 0) (nn.getD 5 0) (il.getD 0 ⟨#[]⟩) (il.getD 1 ⟨#[]⟩) (.slice AP ps.length cP) (.slice none 0 0) co (ye == 1) (il.getD 2 ⟨#[]⟩)) rfl)
          have HP18 := Aside0.mk (Kd.R_set HP17.out S17.out.b5 (by decide) 9 (.slice AP ps.length cP))
          obtain ⟨w18, hw_⟩ : ∃ u, w17.setCell ⟨g5, 9, none⟩ (.slice AP ps.length cP) = u := ⟨_, rfl⟩
          rw [hw_] at S18 HP18 ⊢
          clear hw_ z0 y0 S17 HP17
          have c4 := S18.out.c4
          go_upto_region 19 with (first
                | ((with_reducible refine gate_callee (f := 23) rfl ?_); refine goesL_ (some 56) rfl rfl Try.func23 (by kernel_rfl) rfl #[.pointer (some ⟨gr, 0, none⟩), .func (.func 24) #[] #[.pointer (some ⟨g4, 0, none⟩)]] rfl (by (try simp only [List.map_toArray, List.map_cons, List.map_nil]); first | done | rfl) ?_; (refine (intents_v S18.out.rd g4 S18.out.b4 k _ _ _ _ _ _ F8.out F9.out).mono ?_); rintro en w19 ⟨vI, rfl, hp_, hh_, ht_⟩; obtain ⟨AI, cI, hv_⟩ := Kd.R_slice hp_; subst hv_; refine ⟨_, rfl, ?_⟩; have S19 := Aside0.mk (S18.out.turned hh_ ht_); have HP19 := Aside0.mk (R_turn HP18.out S18.out.rd.box (by decide) ht_); have HI19 := Aside0.mk (Kd.R_lower (base' := w.heap.size) hp_ (by have h1 := HB1.out.size; have h2 := HB2.out.size; have h3 := S18.out.rd.below.size; omega)); clear hp_ hh_ ht_ c4; have y0 := blk_frozen S19.out.b5 10; have z0 : w19.cell? ⟨g5, 10, none⟩ = some (.slice none 0 0) := (blk_cell S19.out.b5 10).trans rfl; ))
          have S20 := Aside0.mk (S19.out.put 10 (.slice AI is_.length cI) (L' := LC kd (nn.getD 0 0) (nn.getD 1 0) (nn.getD 2 0) (nn.getD 3 0) (nn.getD 4 0) (nn.getD 5 0) (il.getD 0 ⟨#[]⟩) (il.getD 1 ⟨#[]⟩) (.slice AP ps.length cP) (.slice AI is_.length cI) co (ye == 1) (il.getD 2 ⟨#[]⟩)) rfl)
          have HP20 := Aside0.mk (Kd.R_set HP19.out S19.out.b5 (by decide) 10 (.slice AI is_.length cI))
          have HI20 := Aside0.mk (Kd.R_set HI19.out S19.out.b5 (by decide) 10 (.slice AI is_.length cI))
          obtain ⟨w20, hw_⟩ : ∃ u, w19.setCell ⟨g5, 10, none⟩ (.slice AI is_.length cI) = u := ⟨_, rfl⟩
          rw [hw_] at S20 HP20 HI20 ⊢
          clear hw_ z0 y0 S19 HP19 HI19 S18 HP18 S16 n45 n54 t1
          have c4 := S20.out.c4
          have n4 := S20.out.n4
          have n4s := Ne.symm n4
          have x1 : w20.cell? ⟨gr, 1, none⟩ = some (.int .i64 a9) := (blk_cell S20.out.rd.box 1).trans rfl
          have x2 : w20.cell? ⟨gr, 2, none⟩ = some (.int .i64 e9) := (blk_cell S20.out.rd.box 2).trans rfl
          have xf := blk_frozen S20.out.rd.box 2
          have BX20 := Aside0.mk (blk_below BX22.out S20.out.rd.below)
          have f0 := F0.out
          clear F0
          unfold mkL at f0
          obtain ⟨m0, hm0⟩ : ∃ x, x = nn.getD 0 0 := ⟨_, rfl⟩
          obtain ⟨m1, hm1⟩ : ∃ x, x = nn.getD 1 0 := ⟨_, rfl⟩
          obtain ⟨m2, hm2⟩ : ∃ x, x = nn.getD 2 0 := ⟨_, rfl⟩
          obtain ⟨m3, hm3⟩ : ∃ x, x = nn.getD 3 0 := ⟨_, rfl⟩
          obtain ⟨m4, hm4⟩ : ∃ x, x = nn.getD 4 0 := ⟨_, rfl⟩
          obtain ⟨m5, hm5⟩ : ∃ x, x = nn.getD 5 0 := ⟨_, rfl⟩
          obtain ⟨t0, ht0⟩ : ∃ x, x = il.getD 0 (⟨#[]⟩ : ByteArray) := ⟨_, rfl⟩
          obtain ⟨t1, ht1⟩ : ∃ x, x = il.getD 1 (⟨#[]⟩ : ByteArray) := ⟨_, rfl⟩
          obtain ⟨t2, ht2⟩ : ∃ x, x = il.getD 2 (⟨#[]⟩ : ByteArray) := ⟨_, rfl⟩
          rw [← hm0, ← hm1, ← hm2, ← hm3, ← hm4, ← hm5, ← ht0, ← ht1, ← ht2] at S20 f0
          clear hm0 hm1 hm2 hm3 hm4 hm5 ht0 ht1 ht2
          by_cases he : e9 = 0
          · by_cases ha : a9 = (s.size : Int)
            · have hE : endE (s.size : Int) a9 e9 = 0 := by unfold endE; rw [if_neg (fun h => h.2 ha)]; exact he
              rw [if_pos hE] at f0
              obtain rfl := Option.some.inj f0
              have p1 : (e9 == 0) = true := beq_iff_eq.2 he
              have p2 : (a9 != (s.size : Int)) = false := bne_eq_false_iff_eq.2 ha
              have p3 : (e9 != 0) = false := bne_eq_false_iff_eq.2 he
              clear f0 hE he ha
              go_upto_region 23 with (fail)
              have yb0 := blk_frozen BX20.out 0
              have zb0 : w20.cell? ⟨g2, 0, none⟩ = some (.int .i64 0) := (blk_cell BX20.out 0).trans rfl
              have yb1 := blk_frozen BX20.out 1
              have zb1 : w20.cell? ⟨g2, 1, none⟩ = some (.int .i64 0) := (blk_cell BX20.out 1).trans rfl
              have yb2 := blk_frozen BX20.out 2
              have zb2 : w20.cell? ⟨g2, 2, none⟩ = some (.int .i64 0) := (blk_cell BX20.out 2).trans rfl
              have yb3 := blk_frozen BX20.out 3
              have zb3 : w20.cell? ⟨g2, 3, none⟩ = some (.int .i64 0) := (blk_cell BX20.out 3).trans rfl
              have yb4 := blk_frozen BX20.out 4
              have zb4 : w20.cell? ⟨g2, 4, none⟩ = some (.int .i64 0) := (blk_cell BX20.out 4).trans rfl
              have yb5 := blk_frozen BX20.out 5
              have zb5 : w20.cell? ⟨g2, 5, none⟩ = some (.int .i64 0) := (blk_cell BX20.out 5).trans rfl
              have yb6 := blk_frozen BX20.out 6
              have zb6 : w20.cell? ⟨g2, 6, none⟩ = some (.int .i64 0) := (blk_cell BX20.out 6).trans rfl
              have yb7 := blk_frozen BX20.out 7
              have zb7 : w20.cell? ⟨g2, 7, none⟩ = some (.string (⟨#[]⟩ : ByteArray)) := (blk_cell BX20.out 7).trans rfl
              have yb8 := blk_frozen BX20.out 8
              have zb8 : w20.cell? ⟨g2, 8, none⟩ = some (.string (⟨#[]⟩ : ByteArray)) := (blk_cell BX20.out 8).trans rfl
              have yb9 := blk_frozen BX20.out 9
              have zb9 : w20.cell? ⟨g2, 9, none⟩ = some (.slice none 0 0) := (blk_cell BX20.out 9).trans rfl
              have yb10 := blk_frozen BX20.out 10
              have zb10 : w20.cell? ⟨g2, 10, none⟩ = some (.slice none 0 0) := (blk_cell BX20.out 10).trans rfl
              have yb11 := blk_frozen BX20.out 11
              have zb11 : w20.cell? ⟨g2, 11, none⟩ = some (.int .i64 0) := (blk_cell BX20.out 11).trans rfl
              have yb12 := blk_frozen BX20.out 12
              have zb12 : w20.cell? ⟨g2, 12, none⟩ = some (.bool false) := (blk_cell BX20.out 12).trans rfl
              have yb13 := blk_frozen BX20.out 13
              have zb13 : w20.cell? ⟨g2, 13, none⟩ = some (.string (⟨#[]⟩ : ByteArray)) := (blk_cell BX20.out 13).trans rfl
              have l0 : w20.cell? ⟨g5, 0, none⟩ = some (.int .i64 kd) := (blk_cell S20.out.b5 0).trans rfl
              have l1 : w20.cell? ⟨g5, 1, none⟩ = some (.int .i64 m0) := (blk_cell S20.out.b5 1).trans rfl
              have l2 : w20.cell? ⟨g5, 2, none⟩ = some (.int .i64 m1) := (blk_cell S20.out.b5 2).trans rfl
              have l3 : w20.cell? ⟨g5, 3, none⟩ = some (.int .i64 m2) := (blk_cell S20.out.b5 3).trans rfl
              have l4 : w20.cell? ⟨g5, 4, none⟩ = some (.int .i64 m3) := (blk_cell S20.out.b5 4).trans rfl
              have l5 : w20.cell? ⟨g5, 5, none⟩ = some (.int .i64 m4) := (blk_cell S20.out.b5 5).trans rfl
              have l6 : w20.cell? ⟨g5, 6, none⟩ = some (.int .i64 m5) := (blk_cell S20.out.b5 6).trans rfl
              have l7 : w20.cell? ⟨g5, 7, none⟩ = some (.string t0) := (blk_cell S20.out.b5 7).trans rfl
              have l8 : w20.cell? ⟨g5, 8, none⟩ = some (.string t1) := (blk_cell S20.out.b5 8).trans rfl
              have l9 : w20.cell? ⟨g5, 9, none⟩ = some (.slice AP ps.length cP) := (blk_cell S20.out.b5 9).trans rfl
              have l10 : w20.cell? ⟨g5, 10, none⟩ = some (.slice AI is_.length cI) := (blk_cell S20.out.b5 10).trans rfl
              have l11 : w20.cell? ⟨g5, 11, none⟩ = some (.int .i64 co) := (blk_cell S20.out.b5 11).trans rfl
              have l12 : w20.cell? ⟨g5, 12, none⟩ = some (.bool (ye == 1)) := (blk_cell S20.out.b5 12).trans rfl
              have l13 : w20.cell? ⟨g5, 13, none⟩ = some (.string t2) := (blk_cell S20.out.b5 13).trans rfl
              go_wp2
              have TT := Aside0.mk (Turned.set (Turned.set (Turned.set (Turned.set (Turned.set (Turned.set (Turned.set (Turned.set (Turned.set (Turned.set (Turned.set (Turned.set (Turned.set (Turned.set (Turned.refl g2 w20) (p := ⟨g2, 0, none⟩) (.inr rfl) (.int .i64 kd)) (p := ⟨g2, 1, none⟩) (.inr rfl) (.int .i64 m0)) (p := ⟨g2, 2, none⟩) (.inr rfl) (.int .i64 m1)) (p := ⟨g2, 3, none⟩) (.inr rfl) (.int .i64 m2)) (p := ⟨g2, 4, none⟩) (.inr rfl) (.int .i64 m3)) (p := ⟨g2, 5, none⟩) (.inr rfl) (.int .i64 m4)) (p := ⟨g2, 6, none⟩) (.inr rfl) (.int .i64 m5)) (p := ⟨g2, 7, none⟩) (.inr rfl) (.string t0)) (p := ⟨g2, 8, none⟩) (.inr rfl) (.string t1)) (p := ⟨g2, 9, none⟩) (.inr rfl) (.slice AP ps.length cP)) (p := ⟨g2, 10, none⟩) (.inr rfl) (.slice AI is_.length cI)) (p := ⟨g2, 11, none⟩) (.inr rfl) (.int .i64 co)) (p := ⟨g2, 12, none⟩) (.inr rfl) (.bool (ye == 1))) (p := ⟨g2, 13, none⟩) (.inr rfl) (.string t2))
              refine bodyPost_ret (results_ct rfl _ _ g2 27 #[.int .i64 kd, .int .i64 m0, .int .i64 m1, .int .i64 m2, .int .i64 m3, .int .i64 m4, .int .i64 m5, .string t0, .string t1, .slice AP ps.length cP, .slice AI is_.length cI, .int .i64 co, .bool (ye == 1), .string t2] (0, 0) _ rfl (blk_put (cs' := #[.int .i64 kd, .int .i64 m0, .int .i64 m1, .int .i64 m2, .int .i64 m3, .int .i64 m4, .int .i64 m5, .string t0, .string t1, .slice AP ps.length cP, .slice AI is_.length cI, .int .i64 co, .bool (ye == 1), .string t2]) (blk_put (cs' := #[.int .i64 kd, .int .i64 m0, .int .i64 m1, .int .i64 m2, .int .i64 m3, .int .i64 m4, .int .i64 m5, .string t0, .string t1, .slice AP ps.length cP, .slice AI is_.length cI, .int .i64 co, .bool (ye == 1), .string (⟨#[]⟩ : ByteArray)]) (blk_put (cs' := #[.int .i64 kd, .int .i64 m0, .int .i64 m1, .int .i64 m2, .int .i64 m3, .int .i64 m4, .int .i64 m5, .string t0, .string t1, .slice AP ps.length cP, .slice AI is_.length cI, .int .i64 co, .bool false, .string (⟨#[]⟩ : ByteArray)]) (blk_put (cs' := #[.int .i64 kd, .int .i64 m0, .int .i64 m1, .int .i64 m2, .int .i64 m3, .int .i64 m4, .int .i64 m5, .string t0, .string t1, .slice AP ps.length cP, .slice AI is_.length cI, .int .i64 0, .bool false, .string (⟨#[]⟩ : ByteArray)]) (blk_put (cs' := #[.int .i64 kd, .int .i64 m0, .int .i64 m1, .int .i64 m2, .int .i64 m3, .int .i64 m4, .int .i64 m5, .string t0, .string t1, .slice AP ps.length cP, .slice none 0 0, .int .i64 0, .bool false, .string (⟨#[]⟩ : ByteArray)]) (blk_put (cs' := #[.int .i64 kd, .int .i64 m0, .int .i64 m1, .int .i64 m2, .int .i64 m3, .int .i64 m4, .int .i64 m5, .string t0, .string t1, .slice none 0 0, .slice none 0 0, .int .i64 0, .bool false, .string (⟨#[]⟩ : ByteArray)]) (blk_put (cs' := #[.int .i64 kd, .int .i64 m0, .int .i64 m1, .int .i64 m2, .int .i64 m3, .int .i64 m4, .int .i64 m5, .string t0, .string (⟨#[]⟩ : ByteArray), .slice none 0 0, .slice none 0 0, .int .i64 0, .bool false, .string (⟨#[]⟩ : ByteArray)]) (blk_put (cs' := #[.int .i64 kd, .int .i64 m0, .int .i64 m1, .int .i64 m2, .int .i64 m3, .int .i64 m4, .int .i64 m5, .string (⟨#[]⟩ : ByteArray), .string (⟨#[]⟩ : ByteArray), .slice none 0 0, .slice none 0 0, .int .i64 0, .bool false, .string (⟨#[]⟩ : ByteArray)]) (blk_put (cs' := #[.int .i64 kd, .int .i64 m0, .int .i64 m1, .int .i64 m2, .int .i64 m3, .int .i64 m4, .int .i64 0, .string (⟨#[]⟩ : ByteArray), .string (⟨#[]⟩ : ByteArray), .slice none 0 0, .slice none 0 0, .int .i64 0, .bool false, .string (⟨#[]⟩ : ByteArray)]) (blk_put (cs' := #[.int .i64 kd, .int .i64 m0, .int .i64 m1, .int .i64 m2, .int .i64 m3, .int .i64 0, .int .i64 0, .string (⟨#[]⟩ : ByteArray), .string (⟨#[]⟩ : ByteArray), .slice none 0 0, .slice none 0 0, .int .i64 0, .bool false, .string (⟨#[]⟩ : ByteArray)]) (blk_put (cs' := #[.int .i64 kd, .int .i64 m0, .int .i64 m1, .int .i64 m2, .int .i64 0, .int .i64 0, .int .i64 0, .string (⟨#[]⟩ : ByteArray), .string (⟨#[]⟩ : ByteArray), .slice none 0 0, .slice none 0 0, .int .i64 0, .bool false, .string (⟨#[]⟩ : ByteArray)]) (blk_put (cs' := #[.int .i64 kd, .int .i64 m0, .int .i64 m1, .int .i64 0, .int .i64 0, .int .i64 0, .int .i64 0, .string (⟨#[]⟩ : ByteArray), .string (⟨#[]⟩ : ByteArray), .slice none 0 0, .slice none 0 0, .int .i64 0, .bool false, .string (⟨#[]⟩ : ByteArray)]) (blk_put (cs' := #[.int .i64 kd, .int .i64 m0, .int .i64 0, .int .i64 0, .int .i64 0, .int .i64 0, .int .i64 0, .string (⟨#[]⟩ : ByteArray), .string (⟨#[]⟩ : ByteArray), .slice none 0 0, .slice none 0 0, .int .i64 0, .bool false, .string (⟨#[]⟩ : ByteArray)]) (blk_put (cs' := #[.int .i64 kd, .int .i64 0, .int .i64 0, .int .i64 0, .int .i64 0, .int .i64 0, .int .i64 0, .string (⟨#[]⟩ : ByteArray), .string (⟨#[]⟩ : ByteArray), .slice none 0 0, .slice none 0 0, .int .i64 0, .bool false, .string (⟨#[]⟩ : ByteArray)]) BX20.out 0 (.int .i64 kd) rfl) 1 (.int .i64 m0) rfl) 2 (.int .i64 m1) rfl) 3 (.int .i64 m2) rfl) 4 (.int .i64 m3) rfl) 5 (.int .i64 m4) rfl) 6 (.int .i64 m5) rfl) 7 (.string t0) rfl) 8 (.string t1) rfl) 9 (.slice AP ps.length cP) rfl) 10 (.slice AI is_.length cI) rfl) 11 (.int .i64 co) rfl) 12 (.bool (ye == 1)) rfl) 13 (.string t2) rfl) Try.underlying27 rfl (by kernel_rfl)) rfl ?_
              have hsz := S20.out.rd.below.size
              have hb1 := HB1.out
              have hb2 := HB2.out
              exact ⟨_, _, rfl, R_turn HP20.out BX20.out (by decide) TT.out, R_turn HI20.out BX20.out (by decide) TT.out, Turned.below TT.out (below_step (below_step hb1 hb2) S20.out.rd.below) L2.out (by have h1 := hb1.size; have h2 := hb2.size; omega)⟩
            · have hE : endE (s.size : Int) a9 e9 = 3 := by unfold endE; rw [if_pos ⟨he, ha⟩]
              rw [hE, if_neg (by decide)] at f0
              obtain rfl := Option.some.inj f0
              have p1 : (e9 == 0) = true := beq_iff_eq.2 he
              have p2 : (a9 != (s.size : Int)) = true := bne_iff_ne.2 ha
              clear f0 hE he ha
              go_upto_region 21 with (fail)
              have S21 := Aside0.mk (S20.out.err 3)
              have BX21 := Aside0.mk (blk_far (p := ⟨gr, 2, none⟩) BX20.out (fun e_ => by have h1 := BX20.out; have h2 := S20.out.rd.box; rw [show g2 = gr from e_, h2] at h1; cases h1) (.int .i64 3))
              obtain ⟨w21, hw_⟩ : ∃ u, w20.setCell ⟨gr, 2, none⟩ (.int .i64 3) = u := ⟨_, rfl⟩
              rw [hw_] at S21 BX21 ⊢
              clear hw_ c4 x1 x2 xf
              have c4 := S21.out.c4
              have x2 : w21.cell? ⟨gr, 2, none⟩ = some (.int .i64 3) := (blk_cell S21.out.rd.box 2).trans rfl
              go_upto_region 22 with (fail)
              have n24 := blk_ne BX21.out S21.out.b4 (by decide)
              have n24s := Ne.symm n24
              have n2r := blk_ne BX21.out S21.out.rd.box (by decide)
              have n2rs := Ne.symm n2r
              have yb0 := blk_frozen BX21.out 0
              have zb0 : w21.cell? ⟨g2, 0, none⟩ = some (.int .i64 0) := (blk_cell BX21.out 0).trans rfl
              have yb1 := blk_frozen BX21.out 1
              have zb1 : w21.cell? ⟨g2, 1, none⟩ = some (.int .i64 0) := (blk_cell BX21.out 1).trans rfl
              have yb2 := blk_frozen BX21.out 2
              have zb2 : w21.cell? ⟨g2, 2, none⟩ = some (.int .i64 0) := (blk_cell BX21.out 2).trans rfl
              have yb3 := blk_frozen BX21.out 3
              have zb3 : w21.cell? ⟨g2, 3, none⟩ = some (.int .i64 0) := (blk_cell BX21.out 3).trans rfl
              have yb4 := blk_frozen BX21.out 4
              have zb4 : w21.cell? ⟨g2, 4, none⟩ = some (.int .i64 0) := (blk_cell BX21.out 4).trans rfl
              have yb5 := blk_frozen BX21.out 5
              have zb5 : w21.cell? ⟨g2, 5, none⟩ = some (.int .i64 0) := (blk_cell BX21.out 5).trans rfl
              have yb6 := blk_frozen BX21.out 6
              have zb6 : w21.cell? ⟨g2, 6, none⟩ = some (.int .i64 0) := (blk_cell BX21.out 6).trans rfl
              have yb7 := blk_frozen BX21.out 7
              have zb7 : w21.cell? ⟨g2, 7, none⟩ = some (.string (⟨#[]⟩ : ByteArray)) := (blk_cell BX21.out 7).trans rfl
              have yb8 := blk_frozen BX21.out 8
              have zb8 : w21.cell? ⟨g2, 8, none⟩ = some (.string (⟨#[]⟩ : ByteArray)) := (blk_cell BX21.out 8).trans rfl
              have yb9 := blk_frozen BX21.out 9
              have zb9 : w21.cell? ⟨g2, 9, none⟩ = some (.slice none 0 0) := (blk_cell BX21.out 9).trans rfl
              have yb10 := blk_frozen BX21.out 10
              have zb10 : w21.cell? ⟨g2, 10, none⟩ = some (.slice none 0 0) := (blk_cell BX21.out 10).trans rfl
              have yb11 := blk_frozen BX21.out 11
              have zb11 : w21.cell? ⟨g2, 11, none⟩ = some (.int .i64 0) := (blk_cell BX21.out 11).trans rfl
              have yb12 := blk_frozen BX21.out 12
              have zb12 : w21.cell? ⟨g2, 12, none⟩ = some (.bool false) := (blk_cell BX21.out 12).trans rfl
              have yb13 := blk_frozen BX21.out 13
              have zb13 : w21.cell? ⟨g2, 13, none⟩ = some (.string (⟨#[]⟩ : ByteArray)) := (blk_cell BX21.out 13).trans rfl
              go_region
              go_wp2
              refine bodyPost_ret (results_ct rfl _ _ g2 27 #[.int .i64 0, .int .i64 0, .int .i64 0, .int .i64 0, .int .i64 0, .int .i64 0, .int .i64 0, .string (⟨#[]⟩ : ByteArray), .string (⟨#[]⟩ : ByteArray), .slice none 0 0, .slice none 0 0, .int .i64 0, .bool false, .string (⟨#[]⟩ : ByteArray)] (0, 0) _ rfl (blk_drew (blk_put (cs' := #[.int .i64 0, .int .i64 0, .int .i64 0, .int .i64 0, .int .i64 0, .int .i64 0, .int .i64 0, .string (⟨#[]⟩ : ByteArray), .string (⟨#[]⟩ : ByteArray), .slice none 0 0, .slice none 0 0, .int .i64 0, .bool false, .string (⟨#[]⟩ : ByteArray)]) (blk_put (cs' := #[.int .i64 0, .int .i64 0, .int .i64 0, .int .i64 0, .int .i64 0, .int .i64 0, .int .i64 0, .string (⟨#[]⟩ : ByteArray), .string (⟨#[]⟩ : ByteArray), .slice none 0 0, .slice none 0 0, .int .i64 0, .bool false, .string (⟨#[]⟩ : ByteArray)]) (blk_put (cs' := #[.int .i64 0, .int .i64 0, .int .i64 0, .int .i64 0, .int .i64 0, .int .i64 0, .int .i64 0, .string (⟨#[]⟩ : ByteArray), .string (⟨#[]⟩ : ByteArray), .slice none 0 0, .slice none 0 0, .int .i64 0, .bool false, .string (⟨#[]⟩ : ByteArray)]) (blk_put (cs' := #[.int .i64 0, .int .i64 0, .int .i64 0, .int .i64 0, .int .i64 0, .int .i64 0, .int .i64 0, .string (⟨#[]⟩ : ByteArray), .string (⟨#[]⟩ : ByteArray), .slice none 0 0, .slice none 0 0, .int .i64 0, .bool false, .string (⟨#[]⟩ : ByteArray)]) (blk_put (cs' := #[.int .i64 0, .int .i64 0, .int .i64 0, .int .i64 0, .int .i64 0, .int .i64 0, .int .i64 0, .string (⟨#[]⟩ : ByteArray), .string (⟨#[]⟩ : ByteArray), .slice none 0 0, .slice none 0 0, .int .i64 0, .bool false, .string (⟨#[]⟩ : ByteArray)]) (blk_put (cs' := #[.int .i64 0, .int .i64 0, .int .i64 0, .int .i64 0, .int .i64 0, .int .i64 0, .int .i64 0, .string (⟨#[]⟩ : ByteArray), .string (⟨#[]⟩ : ByteArray), .slice none 0 0, .slice none 0 0, .int .i64 0, .bool false, .string (⟨#[]⟩ : ByteArray)]) (blk_put (cs' := #[.int .i64 0, .int .i64 0, .int .i64 0, .int .i64 0, .int .i64 0, .int .i64 0, .int .i64 0, .string (⟨#[]⟩ : ByteArray), .string (⟨#[]⟩ : ByteArray), .slice none 0 0, .slice none 0 0, .int .i64 0, .bool false, .string (⟨#[]⟩ : ByteArray)]) (blk_put (cs' := #[.int .i64 0, .int .i64 0, .int .i64 0, .int .i64 0, .int .i64 0, .int .i64 0, .int .i64 0, .string (⟨#[]⟩ : ByteArray), .string (⟨#[]⟩ : ByteArray), .slice none 0 0, .slice none 0 0, .int .i64 0, .bool false, .string (⟨#[]⟩ : ByteArray)]) (blk_put (cs' := #[.int .i64 0, .int .i64 0, .int .i64 0, .int .i64 0, .int .i64 0, .int .i64 0, .int .i64 0, .string (⟨#[]⟩ : ByteArray), .string (⟨#[]⟩ : ByteArray), .slice none 0 0, .slice none 0 0, .int .i64 0, .bool false, .string (⟨#[]⟩ : ByteArray)]) (blk_put (cs' := #[.int .i64 0, .int .i64 0, .int .i64 0, .int .i64 0, .int .i64 0, .int .i64 0, .int .i64 0, .string (⟨#[]⟩ : ByteArray), .string (⟨#[]⟩ : ByteArray), .slice none 0 0, .slice none 0 0, .int .i64 0, .bool false, .string (⟨#[]⟩ : ByteArray)]) (blk_put (cs' := #[.int .i64 0, .int .i64 0, .int .i64 0, .int .i64 0, .int .i64 0, .int .i64 0, .int .i64 0, .string (⟨#[]⟩ : ByteArray), .string (⟨#[]⟩ : ByteArray), .slice none 0 0, .slice none 0 0, .int .i64 0, .bool false, .string (⟨#[]⟩ : ByteArray)]) (blk_put (cs' := #[.int .i64 0, .int .i64 0, .int .i64 0, .int .i64 0, .int .i64 0, .int .i64 0, .int .i64 0, .string (⟨#[]⟩ : ByteArray), .string (⟨#[]⟩ : ByteArray), .slice none 0 0, .slice none 0 0, .int .i64 0, .bool false, .string (⟨#[]⟩ : ByteArray)]) (blk_put (cs' := #[.int .i64 0, .int .i64 0, .int .i64 0, .int .i64 0, .int .i64 0, .int .i64 0, .int .i64 0, .string (⟨#[]⟩ : ByteArray), .string (⟨#[]⟩ : ByteArray), .slice none 0 0, .slice none 0 0, .int .i64 0, .bool false, .string (⟨#[]⟩ : ByteArray)]) (blk_put (cs' := #[.int .i64 0, .int .i64 0, .int .i64 0, .int .i64 0, .int .i64 0, .int .i64 0, .int .i64 0, .string (⟨#[]⟩ : ByteArray), .string (⟨#[]⟩ : ByteArray), .slice none 0 0, .slice none 0 0, .int .i64 0, .bool false, .string (⟨#[]⟩ : ByteArray)]) BX21.out 0 (.int .i64 0) rfl) 1 (.int .i64 0) rfl) 2 (.int .i64 0) rfl) 3 (.int .i64 0) rfl) 4 (.int .i64 0) rfl) 5 (.int .i64 0) rfl) 6 (.int .i64 0) rfl) 7 (.string (⟨#[]⟩ : ByteArray)) rfl) 8 (.string (⟨#[]⟩ : ByteArray)) rfl) 9 (.slice none 0 0) rfl) 10 (.slice none 0 0) rfl) 11 (.int .i64 0) rfl) 12 (.bool false) rfl) 13 (.string (⟨#[]⟩ : ByteArray)) rfl)) Try.underlying27 rfl (by kernel_rfl)) rfl ?_
              have hsz := S21.out.rd.below.size
              have hb1 := HB1.out
              have hb2 := HB2.out
              exact ⟨_, _, rfl, Kd.R_nil _ _ _ _ _, Kd.R_nil _ _ _ _ _, below_drew (Turned.below (Turned.set (Turned.set (Turned.set (Turned.set (Turned.set (Turned.set (Turned.set (Turned.set (Turned.set (Turned.set (Turned.set (Turned.set (Turned.set (Turned.set (Turned.refl g2 w21) (p := ⟨g2, 0, none⟩) (.inr rfl) (.int .i64 0)) (p := ⟨g2, 1, none⟩) (.inr rfl) (.int .i64 0)) (p := ⟨g2, 2, none⟩) (.inr rfl) (.int .i64 0)) (p := ⟨g2, 3, none⟩) (.inr rfl) (.int .i64 0)) (p := ⟨g2, 4, none⟩) (.inr rfl) (.int .i64 0)) (p := ⟨g2, 5, none⟩) (.inr rfl) (.int .i64 0)) (p := ⟨g2, 6, none⟩) (.inr rfl) (.int .i64 0)) (p := ⟨g2, 7, none⟩) (.inr rfl) (.string (⟨#[]⟩ : ByteArray))) (p := ⟨g2, 8, none⟩) (.inr rfl) (.string (⟨#[]⟩ : ByteArray))) (p := ⟨g2, 9, none⟩) (.inr rfl) (.slice none 0 0)) (p := ⟨g2, 10, none⟩) (.inr rfl) (.slice none 0 0)) (p := ⟨g2, 11, none⟩) (.inr rfl) (.int .i64 0)) (p := ⟨g2, 12, none⟩) (.inr rfl) (.bool false)) (p := ⟨g2, 13, none⟩) (.inr rfl) (.string (⟨#[]⟩ : ByteArray))) (below_step (below_step hb1 hb2) S21.out.rd.below) L2.out (by have h1 := hb1.size; have h2 := hb2.size; omega))⟩
          · have hE : endE (s.size : Int) a9 e9 = e9 := by unfold endE; rw [if_neg (fun h => he h.1)]
            rw [hE, if_neg he] at f0
            obtain rfl := Option.some.inj f0
            have p1 : (e9 == 0) = false := beq_eq_false_iff_ne.2 he
            have p3 : (e9 != 0) = true := bne_iff_ne.2 he
            clear f0 hE he
            go_upto_region 22 with (fail)
            have n24 := blk_ne BX20.out S20.out.b4 (by decide)
            have n24s := Ne.symm n24
            have n2r := blk_ne BX20.out S20.out.rd.box (by decide)
            have n2rs := Ne.symm n2r
            have yb0 := blk_frozen BX20.out 0
            have zb0 : w20.cell? ⟨g2, 0, none⟩ = some (.int .i64 0) := (blk_cell BX20.out 0).trans rfl
            have yb1 := blk_frozen BX20.out 1
            have zb1 : w20.cell? ⟨g2, 1, none⟩ = some (.int .i64 0) := (blk_cell BX20.out 1).trans rfl
            have yb2 := blk_frozen BX20.out 2
            have zb2 : w20.cell? ⟨g2, 2, none⟩ = some (.int .i64 0) := (blk_cell BX20.out 2).trans rfl
            have yb3 := blk_frozen BX20.out 3
            have zb3 : w20.cell? ⟨g2, 3, none⟩ = some (.int .i64 0) := (blk_cell BX20.out 3).trans rfl
            have yb4 := blk_frozen BX20.out 4
            have zb4 : w20.cell? ⟨g2, 4, none⟩ = some (.int .i64 0) := (blk_cell BX20.out 4).trans rfl
            have yb5 := blk_frozen BX20.out 5
            have zb5 : w20.cell? ⟨g2, 5, none⟩ = some (.int .i64 0) := (blk_cell BX20.out 5).trans rfl
            have yb6 := blk_frozen BX20.out 6
            have zb6 : w20.cell? ⟨g2, 6, none⟩ = some (.int .i64 0) := (blk_cell BX20.out 6).trans rfl
            have yb7 := blk_frozen BX20.out 7
            have zb7 : w20.cell? ⟨g2, 7, none⟩ = some (.string (⟨#[]⟩ : ByteArray)) := (blk_cell BX20.out 7).trans rfl
            have yb8 := blk_frozen BX20.out 8
            have zb8 : w20.cell? ⟨g2, 8, none⟩ = some (.string (⟨#[]⟩ : ByteArray)) := (blk_cell BX20.out 8).trans rfl
            have yb9 := blk_frozen BX20.out 9
            have zb9 : w20.cell? ⟨g2, 9, none⟩ = some (.slice none 0 0) := (blk_cell BX20.out 9).trans rfl
            have yb10 := blk_frozen BX20.out 10
            have zb10 : w20.cell? ⟨g2, 10, none⟩ = some (.slice none 0 0) := (blk_cell BX20.out 10).trans rfl
            have yb11 := blk_frozen BX20.out 11
            have zb11 : w20.cell? ⟨g2, 11, none⟩ = some (.int .i64 0) := (blk_cell BX20.out 11).trans rfl
            have yb12 := blk_frozen BX20.out 12
            have zb12 : w20.cell? ⟨g2, 12, none⟩ = some (.bool false) := (blk_cell BX20.out 12).trans rfl
            have yb13 := blk_frozen BX20.out 13
            have zb13 : w20.cell? ⟨g2, 13, none⟩ = some (.string (⟨#[]⟩ : ByteArray)) := (blk_cell BX20.out 13).trans rfl
            go_region
            go_wp2
            refine bodyPost_ret (results_ct rfl _ _ g2 27 #[.int .i64 0, .int .i64 0, .int .i64 0, .int .i64 0, .int .i64 0, .int .i64 0, .int .i64 0, .string (⟨#[]⟩ : ByteArray), .string (⟨#[]⟩ : ByteArray), .slice none 0 0, .slice none 0 0, .int .i64 0, .bool false, .string (⟨#[]⟩ : ByteArray)] (0, 0) _ rfl (blk_drew (blk_put (cs' := #[.int .i64 0, .int .i64 0, .int .i64 0, .int .i64 0, .int .i64 0, .int .i64 0, .int .i64 0, .string (⟨#[]⟩ : ByteArray), .string (⟨#[]⟩ : ByteArray), .slice none 0 0, .slice none 0 0, .int .i64 0, .bool false, .string (⟨#[]⟩ : ByteArray)]) (blk_put (cs' := #[.int .i64 0, .int .i64 0, .int .i64 0, .int .i64 0, .int .i64 0, .int .i64 0, .int .i64 0, .string (⟨#[]⟩ : ByteArray), .string (⟨#[]⟩ : ByteArray), .slice none 0 0, .slice none 0 0, .int .i64 0, .bool false, .string (⟨#[]⟩ : ByteArray)]) (blk_put (cs' := #[.int .i64 0, .int .i64 0, .int .i64 0, .int .i64 0, .int .i64 0, .int .i64 0, .int .i64 0, .string (⟨#[]⟩ : ByteArray), .string (⟨#[]⟩ : ByteArray), .slice none 0 0, .slice none 0 0, .int .i64 0, .bool false, .string (⟨#[]⟩ : ByteArray)]) (blk_put (cs' := #[.int .i64 0, .int .i64 0, .int .i64 0, .int .i64 0, .int .i64 0, .int .i64 0, .int .i64 0, .string (⟨#[]⟩ : ByteArray), .string (⟨#[]⟩ : ByteArray), .slice none 0 0, .slice none 0 0, .int .i64 0, .bool false, .string (⟨#[]⟩ : ByteArray)]) (blk_put (cs' := #[.int .i64 0, .int .i64 0, .int .i64 0, .int .i64 0, .int .i64 0, .int .i64 0, .int .i64 0, .string (⟨#[]⟩ : ByteArray), .string (⟨#[]⟩ : ByteArray), .slice none 0 0, .slice none 0 0, .int .i64 0, .bool false, .string (⟨#[]⟩ : ByteArray)]) (blk_put (cs' := #[.int .i64 0, .int .i64 0, .int .i64 0, .int .i64 0, .int .i64 0, .int .i64 0, .int .i64 0, .string (⟨#[]⟩ : ByteArray), .string (⟨#[]⟩ : ByteArray), .slice none 0 0, .slice none 0 0, .int .i64 0, .bool false, .string (⟨#[]⟩ : ByteArray)]) (blk_put (cs' := #[.int .i64 0, .int .i64 0, .int .i64 0, .int .i64 0, .int .i64 0, .int .i64 0, .int .i64 0, .string (⟨#[]⟩ : ByteArray), .string (⟨#[]⟩ : ByteArray), .slice none 0 0, .slice none 0 0, .int .i64 0, .bool false, .string (⟨#[]⟩ : ByteArray)]) (blk_put (cs' := #[.int .i64 0, .int .i64 0, .int .i64 0, .int .i64 0, .int .i64 0, .int .i64 0, .int .i64 0, .string (⟨#[]⟩ : ByteArray), .string (⟨#[]⟩ : ByteArray), .slice none 0 0, .slice none 0 0, .int .i64 0, .bool false, .string (⟨#[]⟩ : ByteArray)]) (blk_put (cs' := #[.int .i64 0, .int .i64 0, .int .i64 0, .int .i64 0, .int .i64 0, .int .i64 0, .int .i64 0, .string (⟨#[]⟩ : ByteArray), .string (⟨#[]⟩ : ByteArray), .slice none 0 0, .slice none 0 0, .int .i64 0, .bool false, .string (⟨#[]⟩ : ByteArray)]) (blk_put (cs' := #[.int .i64 0, .int .i64 0, .int .i64 0, .int .i64 0, .int .i64 0, .int .i64 0, .int .i64 0, .string (⟨#[]⟩ : ByteArray), .string (⟨#[]⟩ : ByteArray), .slice none 0 0, .slice none 0 0, .int .i64 0, .bool false, .string (⟨#[]⟩ : ByteArray)]) (blk_put (cs' := #[.int .i64 0, .int .i64 0, .int .i64 0, .int .i64 0, .int .i64 0, .int .i64 0, .int .i64 0, .string (⟨#[]⟩ : ByteArray), .string (⟨#[]⟩ : ByteArray), .slice none 0 0, .slice none 0 0, .int .i64 0, .bool false, .string (⟨#[]⟩ : ByteArray)]) (blk_put (cs' := #[.int .i64 0, .int .i64 0, .int .i64 0, .int .i64 0, .int .i64 0, .int .i64 0, .int .i64 0, .string (⟨#[]⟩ : ByteArray), .string (⟨#[]⟩ : ByteArray), .slice none 0 0, .slice none 0 0, .int .i64 0, .bool false, .string (⟨#[]⟩ : ByteArray)]) (blk_put (cs' := #[.int .i64 0, .int .i64 0, .int .i64 0, .int .i64 0, .int .i64 0, .int .i64 0, .int .i64 0, .string (⟨#[]⟩ : ByteArray), .string (⟨#[]⟩ : ByteArray), .slice none 0 0, .slice none 0 0, .int .i64 0, .bool false, .string (⟨#[]⟩ : ByteArray)]) (blk_put (cs' := #[.int .i64 0, .int .i64 0, .int .i64 0, .int .i64 0, .int .i64 0, .int .i64 0, .int .i64 0, .string (⟨#[]⟩ : ByteArray), .string (⟨#[]⟩ : ByteArray), .slice none 0 0, .slice none 0 0, .int .i64 0, .bool false, .string (⟨#[]⟩ : ByteArray)]) BX20.out 0 (.int .i64 0) rfl) 1 (.int .i64 0) rfl) 2 (.int .i64 0) rfl) 3 (.int .i64 0) rfl) 4 (.int .i64 0) rfl) 5 (.int .i64 0) rfl) 6 (.int .i64 0) rfl) 7 (.string (⟨#[]⟩ : ByteArray)) rfl) 8 (.string (⟨#[]⟩ : ByteArray)) rfl) 9 (.slice none 0 0) rfl) 10 (.slice none 0 0) rfl) 11 (.int .i64 0) rfl) 12 (.bool false) rfl) 13 (.string (⟨#[]⟩ : ByteArray)) rfl)) Try.underlying27 rfl (by kernel_rfl)) rfl ?_
            have hsz := S20.out.rd.below.size
            have hb1 := HB1.out
            have hb2 := HB2.out
            exact ⟨_, _, rfl, Kd.R_nil _ _ _ _ _, Kd.R_nil _ _ _ _ _, below_drew (Turned.below (Turned.set (Turned.set (Turned.set (Turned.set (Turned.set (Turned.set (Turned.set (Turned.set (Turned.set (Turned.set (Turned.set (Turned.set (Turned.set (Turned.set (Turned.refl g2 w20) (p := ⟨g2, 0, none⟩) (.inr rfl) (.int .i64 0)) (p := ⟨g2, 1, none⟩) (.inr rfl) (.int .i64 0)) (p := ⟨g2, 2, none⟩) (.inr rfl) (.int .i64 0)) (p := ⟨g2, 3, none⟩) (.inr rfl) (.int .i64 0)) (p := ⟨g2, 4, none⟩) (.inr rfl) (.int .i64 0)) (p := ⟨g2, 5, none⟩) (.inr rfl) (.int .i64 0)) (p := ⟨g2, 6, none⟩) (.inr rfl) (.int .i64 0)) (p := ⟨g2, 7, none⟩) (.inr rfl) (.string (⟨#[]⟩ : ByteArray))) (p := ⟨g2, 8, none⟩) (.inr rfl) (.string (⟨#[]⟩ : ByteArray))) (p := ⟨g2, 9, none⟩) (.inr rfl) (.slice none 0 0)) (p := ⟨g2, 10, none⟩) (.inr rfl) (.slice none 0 0)) (p := ⟨g2, 11, none⟩) (.inr rfl) (.int .i64 0)) (p := ⟨g2, 12, none⟩) (.inr rfl) (.bool false)) (p := ⟨g2, 13, none⟩) (.inr rfl) (.string (⟨#[]⟩ : ByteArray))) (below_step (below_step hb1 hb2) S20.out.rd.below) L2.out (by have h1 := hb1.size; have h2 := hb2.size; omega))⟩

end Go.Proofs.Ythghacojbhjeaaa.Le
