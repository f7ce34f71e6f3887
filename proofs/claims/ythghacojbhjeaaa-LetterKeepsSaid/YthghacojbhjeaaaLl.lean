/- DERIVED. letter.Pack: its bytes: what it computes, and its code walked. Conditions: those that each lemma names. DERIVED. letter.Pack, in the form of the print. Conditions: those that each lemma names. -/
import Derived.Test.YthghacojbhjeaaaLj
namespace Go.Proofs.Ythghacojbhjeaaa.Lk
open Go Go.RowKit Go.Proofs.Ythghacojbhjeaaa.PKp Go.Proofs.YthghacojbhjeaaaW.PrintWords Go.Proofs.YthghacojbhjeaaaW.PrintLast Go.Proofs.Ythghacojbhjeaaa.Hl Go.Proofs.Ythghacojbhjeaaa.Fv Go.Proofs.Ythghacojbhjeaaa.La Go.Proofs.Ythghacojbhjeaaa.Lc Go.Proofs.Ythghacojbhjeaaa.Ld Go.Proofs.Ythghacojbhjeaaa.Le Go.Proofs.Ythghacojbhjeaaa.Lh Go.Proofs.Ythghacojbhjeaaa.Lj
set_option linter.unusedSimpArgs false
set_option linter.unusedVariables false
def catB (b x : List Int) : Option (List Int) := if b.length + x.length < 140737488355328 then some (b ++ x) else none
def bitI (y : Bool) : Int := if y = true then 1 else 0
def numsB (k : Nat) : List Int → List Int → Option (List Int)
  | [], b => some b
  | n :: t, b => (pack_Num.f k n).bind fun x => (catB b x).bind fun c => numsB k t c
def textsB (k : Nat) : List ByteArray → List Int → Option (List Int)
  | [], b => some b
  | s :: t, b => (pack_Text.f k s).bind fun x => (catB b x).bind fun c => textsB k t c
def headB (k : Nat) (co : Int) (y : Bool) (b : List Int) : Option (List Int) := (pack_Num.f k co).bind fun x => (pack_Num.f k (bitI y)).bind fun z => (pack_Join.f k [x, z]).bind fun j => catB b j
def pairsB (k : Nat) : List S39 → List Int → Option (List Int)
  | [], b => some b
  | p :: t, b => (pack_Text.f k p.f0).bind fun x => (pack_Text.f k p.f1).bind fun z => (pack_Join.f k [x, z]).bind fun j => (catB b j).bind fun c => pairsB k t c
def intentsB (k : Nat) : List S41 → List Int → Option (List Int)
  | [], b => some b
  | x :: t, b => (pack_Text.f k x.f0).bind fun u => (pack_Num.f k x.f1).bind fun z => (pack_Num.f k (bitI x.f2)).bind fun g => (pack_Join.f k [u, z, g]).bind fun j => (catB b j).bind fun c => intentsB k t c
def lenB (k : Nat) (n : Nat) (b : List Int) : Option (List Int) := (pack_Num.f k (n : Int)).bind fun x => catB b x
theorem cat_some {b x c : List Int} (h : catB b x = some c) : c = b ++ x ∧ b.length + x.length < 140737488355328 := by
  unfold catB at h
  split at h
  · rename_i h1; exact ⟨(Option.some.inj h).symm, h1⟩
  · cases h
/-- pack.Num, its row written out. -/
theorem num_s (k : Nat) (n : Int) (x : List Int) (w : World) (h : pack_Num.f k n = some x) : Calls Try.prog 31 #[.int .i64 n] w fun e w' => ∃ A c, e = .returned (.slice A x.length c) ∧ Kd.R (Kd.int .u8) 5 w' w.heap.size (fun _ => True) (.slice A x.length c) x ∧ Below w.heap.size w w' :=
  (pack_Num.calls k n x w h).mono fun e w' hh => by
    obtain ⟨v, he, hr, hb⟩ := hh
    obtain ⟨A, c, rfl⟩ := Kd.R_slice hr
    exact ⟨A, c, he, hr, hb⟩
theorem text_s (k : Nat) (n : ByteArray) (x : List Int) (w : World) (h : pack_Text.f k n = some x) : Calls Try.prog 34 #[.string n] w fun e w' => ∃ A c, e = .returned (.slice A x.length c) ∧ Kd.R (Kd.int .u8) 5 w' w.heap.size (fun _ => True) (.slice A x.length c) x ∧ Below w.heap.size w w' :=
  (pack_Text.calls k n x w h).mono fun e w' hh => by
    obtain ⟨v, he, hr, hb⟩ := hh
    obtain ⟨A, c, rfl⟩ := Kd.R_slice hr
    exact ⟨A, c, he, hr, hb⟩
/-- A row of rows of bytes, made just now. -/
inductive Rds (w : World) : List Value → List (List Int) → Prop
  | nil : Rds w [] []
  | cons {A : Option Addr} {c : Nat} {xs : List Int} {vs : List Value} {ls : List (List Int)} : xs.length ≤ c → Kd.C (Kd.int .u8) w A xs.length xs → Rds w vs ls → Rds w (.slice A xs.length c :: vs) (xs :: ls)
theorem Rds.get {w : World} : ∀ {vs : List Value} {ls : List (List Int)}, Rds w vs ls → ∀ (j : Nat) (p : List Int), ls[j]? = some p → ∃ A c, vs[j]? = some (.slice A p.length c) ∧ p.length ≤ c ∧ Kd.C (Kd.int .u8) w A p.length p
  | _, _, .nil, j, p, h => by simp at h
  | _, _, .cons h1 h2 _, 0, p, h => by
    simp only [List.getElem?_cons_zero, Option.some.injEq] at h
    subst h
    exact ⟨_, _, rfl, h1, h2⟩
  | _, _, .cons _ _ h3, j + 1, p, h => by
    simp only [List.getElem?_cons_succ] at h ⊢
    exact h3.get j p h
theorem lit_B {W : World} {e : Nat} {vs : List Value} {ls : List (List Int)} (h : Rds W vs ls) (hm : ls.length ≤ 9223372036854775807) : Kd.C (Kd.slice 5 (Kd.int .u8)) (W.alloc (.cells vs.toArray e)) (some ⟨W.heap.size, 0, none⟩) ls.length ls := by
  refine ⟨rfl, hm, fun _ => ⟨_, rfl, fun j p hj => ?_⟩⟩
  obtain ⟨A, c, hv, hl, hr⟩ := h.get j p hj
  refine ⟨[.slice A p.length c], rfl, ⟨A, c, rfl, hl, Kd.C_below hr (below_alloc (Below.refl _ _) _)⟩, fun i u hu => ?_⟩
  have hi : i = 0 := by
    rcases i with _ | i
    · rfl
    · simp at hu
  subst hi
  simp only [List.getElem?_cons_zero, Option.some.injEq] at hu
  subst hu
  have hnew : (W.alloc (.cells vs.toArray e)).heap[W.heap.size]? = some (.cells vs.toArray e (0, 0)) := blk_new _ _
  rw [add_plain]
  show World.cell? _ ⟨W.heap.size, j * (Kd.slice 5 (Kd.int .u8)).sz + 0, none⟩ = some _
  rw [show j * (Kd.slice 5 (Kd.int .u8)).sz + 0 = j by show j * 1 + 0 = j; omega, blk_cell hnew j]
  simpa using hv
theorem join_s (k : Nat) {W : World} {e : Nat} {vs : List Value} {ls : List (List Int)} (x : List Int) (h : Rds W vs ls) (hm : ls.length ≤ 9223372036854775807) (hj : pack_Join.f k ls = some x) : Calls Try.prog 32 #[.slice (some ⟨W.heap.size, 0, none⟩) ls.length ls.length] (W.alloc (.cells vs.toArray e)) fun en w' => ∃ A c, en = .returned (.slice A x.length c) ∧ Kd.R (Kd.int .u8) 5 w' W.heap.size (fun _ => True) (.slice A x.length c) x ∧ Below W.heap.size W w' :=
  (pack_Join.calls k _ _ ls x _ (lit_B h hm) (Nat.le_refl _) hj).mono fun en w' hh => by
    obtain ⟨v, he, hr, hb⟩ := hh
    obtain ⟨A, c, rfl⟩ := Kd.R_slice hr
    have ha := below_alloc (Below.refl W.heap.size W) (.cells vs.toArray e)
    exact ⟨A, c, he, Kd.R_lower hr ha.size, below_step ha hb⟩
theorem bit_s (y : Bool) (w : World) : Calls Try.prog 33 #[.bool y] w fun e w' => e = .returned (.int .i64 (bitI y)) ∧ Below w.heap.size w w' := by
  refine (letter_bit.calls y (bitI y) w ?_).mono ?_
  · unfold letter_bit.f bitI
    split <;> rfl
  · rintro e w' ⟨he, hd⟩
    exact ⟨he, hd.below⟩
structure RdB (w : World) (A : Option Addr) (c : Nat) (x : List Int) : Prop where
  le : x.length ≤ c
  c : Kd.C (Kd.int .u8) w A x.length x
theorem rdB {w : World} {base : Nat} {ok : Nat → Prop} {A : Option Addr} {n c : Nat} {xs : List Int} (h : Kd.R (Kd.int .u8) 5 w base ok (.slice A n c) xs) : RdB w A c xs := by
  obtain ⟨h1, h2, h3⟩ := Kd.R_reads' h
  exact ⟨by omega, h3⟩
theorem rdB_below {w w1 : World} {A : Option Addr} {c : Nat} {x : List Int} (h : RdB w A c x) (hb : Below w.heap.size w w1) : RdB w1 A c x := ⟨h.le, Kd.C_below h.c hb⟩
theorem join2 (k : Nat) {W : World} {e : Nat} {A1 A2 : Option Addr} {c1 c2 : Nat} {x1 x2 : List Int} (x : List Int) (h1 : RdB W A1 c1 x1) (h2 : RdB W A2 c2 x2) (hj : pack_Join.f k [x1, x2] = some x) : Calls Try.prog 32 #[.slice (some ⟨W.heap.size, 0, none⟩) 2 2] (W.alloc (.cells #[.slice A1 x1.length c1, .slice A2 x2.length c2] e)) fun en w' => ∃ A c, en = .returned (.slice A x.length c) ∧ Kd.R (Kd.int .u8) 5 w' W.heap.size (fun _ => True) (.slice A x.length c) x ∧ Below W.heap.size W w' :=
  join_s (e := e) (vs := [.slice A1 x1.length c1, .slice A2 x2.length c2]) (ls := [x1, x2]) k x (.cons h1.le h1.c (.cons h2.le h2.c .nil)) (by simp) hj
theorem join3 (k : Nat) {W : World} {e : Nat} {A1 A2 A3 : Option Addr} {c1 c2 c3 : Nat} {x1 x2 x3 : List Int} (x : List Int) (h1 : RdB W A1 c1 x1) (h2 : RdB W A2 c2 x2) (h3 : RdB W A3 c3 x3) (hj : pack_Join.f k [x1, x2, x3] = some x) : Calls Try.prog 32 #[.slice (some ⟨W.heap.size, 0, none⟩) 3 3] (W.alloc (.cells #[.slice A1 x1.length c1, .slice A2 x2.length c2, .slice A3 x3.length c3] e)) fun en w' => ∃ A c, en = .returned (.slice A x.length c) ∧ Kd.R (Kd.int .u8) 5 w' W.heap.size (fun _ => True) (.slice A x.length c) x ∧ Below W.heap.size W w' :=
  join_s (e := e) (vs := [.slice A1 x1.length c1, .slice A2 x2.length c2, .slice A3 x3.length c3]) (ls := [x1, x2, x3]) k x (.cons h1.le h1.c (.cons h2.le h2.c (.cons h3.le h3.c .nil))) (by simp) hj
theorem keep2 {W : World} {g : Nat} {k n1 n2 n3 n4 n5 n6 : Int} {s t : ByteArray} {P I : Value} {co : Int} {y : Bool} {b : ByteArray} (h : W.heap[g]? = some (.cells (LC k n1 n2 n3 n4 n5 n6 s t P I co y b) 27 (0, 0))) : W.cell? ⟨g, 11, none⟩ = some (.int .i64 co) ∧ W.cell? ⟨g, 12, none⟩ = some (.bool y) := ⟨(blk_cell h 11).trans rfl, (blk_cell h 12).trans rfl⟩
theorem keepP {W : World} {g : Nat} {u v : Value} (h : W.heap[g]? = some (.cells #[u, v] 39 (0, 0))) : W.cell? ⟨g, 0, none⟩ = some u ∧ W.cell? ⟨g, 1, none⟩ = some v := ⟨(blk_cell h 0).trans rfl, (blk_cell h 1).trans rfl⟩
theorem keepI {W : World} {g : Nat} {u v x : Value} (h : W.heap[g]? = some (.cells #[u, v, x] 41 (0, 0))) : W.cell? ⟨g, 0, none⟩ = some u ∧ W.cell? ⟨g, 1, none⟩ = some v ∧ W.cell? ⟨g, 2, none⟩ = some x := ⟨(blk_cell h 0).trans rfl, (blk_cell h 1).trans rfl, (blk_cell h 2).trans rfl⟩
section
variable {P : Program} {ops : Array Oper} {o : Oper} {a : Act} {Q : Exit → Act → World → Prop} {Kc : Act → World → Prop} {α : Type}
/-- An append of a row in a region that draws; what comes out is written out. -/
theorem R_append_rows_step2 (d : Kd α) {Rr : α → List Value → Prop} {w0 W : World} (base : Nat) (hw : Region.wanted o (yielded ops a.tmps) = true) (s x : Operand) (t e : TypeId) (z : Value) (bytes : Nat)
    (ho : o.op = .call { callee := .builtin .append, args := #[s, x], argTypes := #[t, t] })
    (ht : P.underlying t = some (.slice e)) (hinfo : (P.info? e).map (fun i => (i.zero, i.size, i.bytes)) = some (some z, d.sz, bytes)) (hz : z.cells.size = d.sz) (hs0 : 0 < d.sz) (hb0 : 0 < bytes)
    (v : Value) (xs ys : List α) (A : Option Addr) (m c : Nat) (ok okp : Nat → Prop) (hs : a.eval s = v) (hx : a.eval x = .slice A m c)
    (HO : d.R e W base ok v xs) (HR : ReadsRow Rr d.sz W A m ys) (hKM : ∀ x cs, Rr x cs → d.M W base okp x cs) (hokp : ∀ k, okp k → ok k ∧ some k ≠ v.ownBlock) (hfresh : ∀ k, W.heap.size ≤ k → ok k)
    (HB : Below base w0 W) (hbase : base ≤ W.heap.size) (hl : (xs.length + m) * bytes ≤ 140737488355328)
    (h : ∀ A c w1, d.R e w1 base ok (.slice A (xs ++ ys).length c) (xs ++ ys) → Below base w0 w1 → W.grownBy w1 v.ownBlock → Kc (a.put o.dst (.slice A (xs ++ ys).length c)) w1) :
    if Region.wanted o (yielded ops a.tmps) = true then Oper.wp P o a W Kc Q else Kc (a.put o.dst undef) W :=
  Kd.R_append_rows_step d base hw s x t e z bytes ho ht hinfo hz hs0 hb0 v xs ys A m c ok okp hs hx HO HR hKM hokp hfresh HB hbase hl fun v1 w1 ho1 hb1 hg1 _ => by
    obtain ⟨A, c, rfl⟩ := Kd.R_slice ho1
    exact h A c w1 ho1 hb1 hg1
end
theorem R_C {w : World} {base : Nat} {ok : Nat → Prop} {A : Option Addr} {n c : Nat} {xs : List Int} (h : Kd.R (Kd.int .u8) 5 w base ok (.slice A n c) xs) : Kd.C (Kd.int .u8) w A xs.length xs := (Kd.R_reads' h).2.2
set_option maxHeartbeats 16000000 in
set_option maxRecDepth 100000 in
theorem pack_ok (w : World) (kd n1 n2 n3 n4 n5 n6 : Int) (s t : ByteArray) (A9 : Option Addr) (c9 : Nat) (ps : List S39) (A10 : Option Addr) (c10 : Nat) (is_ : List S41) (co : Int) (y : Bool) (b : ByteArray) (hp : Kd.C k39 w A9 ps.length ps) (hq : Kd.C k41 w A10 is_.length is_) (hg : goodF kd n1 n2 n3 n4 n5 n6 co is_ = true) (k : Nat) (b0 b1 b2 b3 b4 b5 b6 b7 : List Int) (r1 : ByteArray) (r2 : Int) (hl : ¬ (ps.length : Int) > 256 ∧ ¬ (is_.length : Int) > 256 ∧ ¬ bulkF s t b ps is_ > 65536) (d0 : pack_Num.f k kd = some b0) (d1 : numsB k [n1, n2, n3, n4, n5, n6] b0 = some b1) (d2 : headB k co y b1 = some b2) (d3 : textsB k [s, t, b] b2 = some b3) (d4 : lenB k ps.length b3 = some b4) (d5 : pairsB k ps b4 = some b5) (d6 : lenB k is_.length b5 = some b6) (d7 : intentsB k is_ b6 = some b7) (hr : (if (b7.length : Int) > 65536 then ((⟨#[]⟩ : ByteArray), (4 : Int)) else (strOfNums b7, 0)) = (r1, r2)) :
    Calls Try.prog 11 #[.agg #[.int .i64 kd, .int .i64 n1, .int .i64 n2, .int .i64 n3, .int .i64 n4, .int .i64 n5, .int .i64 n6, .string s, .string t, .slice A9 ps.length c9, .slice A10 is_.length c10, .int .i64 co, .bool y, .string b]] w fun en w' => en = .returned (.tuple #[.string r1, .int .i64 r2]) ∧ Below w.heap.size w w' := by
  have hu27 := Try.underlying27
  have hu39 := Try.underlying39
  have hu41 := Try.underlying41
  have mixed : Try.prog.follows Departure.mixedOrders = true := by kernel_rfl
  have HP := Aside0.mk hp
  have HQ := Aside0.mk hq
  have HPm := Aside0.mk (show (ps.length : Int) ≤ 9223372036854775807 by have := hp.2.1; unfold maxLen at this; omega)
  have HQm := Aside0.mk (show (is_.length : Int) ≤ 9223372036854775807 by have := hq.2.1; unfold maxLen at this; omega)
  have HG := Aside0.mk hg
  have HL := Aside0.mk hl
  have D0 := Aside0.mk d0
  have D1 := Aside0.mk d1
  have D2 := Aside0.mk d2
  have D3 := Aside0.mk d3
  have D4 := Aside0.mk d4
  have D5 := Aside0.mk d5
  have D6 := Aside0.mk d6
  have D7 := Aside0.mk d7
  have HR := Aside0.mk hr
  clear hp hq hg hl d0 d1 d2 d3 d4 d5 d6 d7 hr
  go_enter Try.func11, Try.ntmps11
  go_upto_region 1 with (first
      | ((with_reducible refine gate_dst (N := 1) rfl ?_); refine box_event ?hg (N := 1) ?hd (cs := #[.int .i64 kd, .int .i64 n1, .int .i64 n2, .int .i64 n3, .int .i64 n4, .int .i64 n5, .int .i64 n6, .string s, .string t, .slice A9 ps.length c9, .slice A10 is_.length c10, .int .i64 co, .bool y, .string b]) (t := 27) ?hr ?_; (case hd => rfl); (case hg => rfl); (case hr => first | (go_simp; done) | (go_simp; rfl)); intro g1 hg_ wa hbox_ hb_; have B1 := Aside0.mk (show wa.heap[g1]? = some (.cells (LC kd n1 n2 n3 n4 n5 n6 s t (.slice A9 ps.length c9) (.slice A10 is_.length c10) co y b) 27 (0, 0)) from hbox_); have HB1 := Aside0.mk hb_; have LG1 := Aside0.mk (show w.heap.size ≤ g1 by omega); clear hb_ hbox_ hg_))
  have e0 : wa.cell? ⟨g1, 0, none⟩ = some (.int .i64 kd) := (blk_cell B1.out 0).trans rfl
  have e11 : wa.cell? ⟨g1, 11, none⟩ = some (.int .i64 co) := (blk_cell B1.out 11).trans rfl
  go_cut [4] from 18 to 25 (fun v4 wc => v4 = .bool (wi kd 255 && wi co 1099511627776) ∧ Aside0 (Below w.heap.size w wc) ∧ Aside0 (wc.heap[g1]? = some (.cells (LC kd n1 n2 n3 n4 n5 n6 s t (.slice A9 ps.length c9) (.slice A10 is_.length c10) co y b) 27 (0, 0))))
  case first =>
    cases hk : wi kd 255 with
    | true =>
      have HK := Aside0.mk hk
      clear hk
      go_wp2_with (first
          | ((with_reducible refine gate_callee (f := 29) rfl ?_); (try (refine gate_guard (by rfl) ?_; dsimp only)); refine goesL_ (some 20) rfl rfl Try.func29 (by kernel_rfl) rfl #[.int .i64 kd, .int .i64 255] rfl (by (try simp only [List.map_toArray, List.map_cons, List.map_nil]); first | done | rfl) ?_; (refine (within_b kd 255 true HK.out _).mono ?_); rintro en wb ⟨rfl, hb_⟩; refine ⟨_, rfl, ?_⟩; have HBb := Aside0.mk (below_step HB1.out hb_); have B1b := Aside0.mk (blk_below B1.out hb_); clear e11; have e11 : wb.cell? ⟨g1, 11, none⟩ = some (.int .i64 co) := (blk_cell B1b.out 11).trans rfl; clear hb_)
          | ((with_reducible refine gate_callee (f := 29) rfl ?_); (try (refine gate_guard (by rfl) ?_; dsimp only)); refine goesL_ (some 24) rfl rfl Try.func29 (by kernel_rfl) rfl #[.int .i64 co, .int .i64 1099511627776] rfl (by (try simp only [List.map_toArray, List.map_cons, List.map_nil]); first | done | rfl) ?_; (refine (within_b co 1099511627776 _ rfl _).mono ?_); rintro en wc ⟨rfl, hb_⟩; refine ⟨_, rfl, ?_⟩; have HBc := Aside0.mk (below_step HBb.out hb_); have B1c := Aside0.mk (blk_below B1b.out hb_); clear hb_))
      go_meet
      exact ⟨by rw [HK.out]; rfl, HBc, B1c⟩
    | false =>
      have HK := Aside0.mk hk
      clear hk
      go_wp2_with (first
          | ((with_reducible refine gate_callee (f := 29) rfl ?_); (try (refine gate_guard (by rfl) ?_; dsimp only)); refine goesL_ (some 20) rfl rfl Try.func29 (by kernel_rfl) rfl #[.int .i64 kd, .int .i64 255] rfl (by (try simp only [List.map_toArray, List.map_cons, List.map_nil]); first | done | rfl) ?_; (refine (within_b kd 255 false HK.out _).mono ?_); rintro en wb ⟨rfl, hb_⟩; refine ⟨_, rfl, ?_⟩; have HBb := Aside0.mk (below_step HB1.out hb_); have B1b := Aside0.mk (blk_below B1.out hb_); clear hb_))
      go_meet
      exact ⟨by rw [HK.out]; rfl, HBb, B1b⟩
  case rest =>
    obtain ⟨rfl, HBc, B1c⟩ := hcut
    obtain ⟨g0, hg0⟩ : ∃ g0, g0 = (wi kd 255 && wi co 1099511627776) := ⟨_, rfl⟩
    rw [← hg0]
    have HG0 := Aside0.mk hg0
    clear hg0 e0 e11 B1 HB1
    go_wp2_with (first
          | ((with_reducible refine gate_callee (f := 18) rfl ?_); refine goesL_ (some 26) rfl rfl Try.func18 (by kernel_rfl) rfl #[.pointer (some ⟨g1, 0, none⟩)] rfl (by (try simp only [List.map_toArray, List.map_cons, List.map_nil]); first | done | rfl) ?_; (refine (numbers_v B1c.out).mono ?_); rintro en wd ⟨gp, rfl, hge_, hbp_, hb_⟩; refine ⟨_, rfl, ?_⟩; have GP := Aside0.mk hbp_; have HB4 := Aside0.mk (below_step HBc.out hb_); have B14 := Aside0.mk (blk_below B1c.out hb_); clear hge_ hbp_ hb_))
    go_loopg [4, 28] 6 (fun kq v4 v28 wr => ∃ (i : Nat) (gb : Bool), v28 = .int .i64 (i : Int) ∧ v4 = .bool gb ∧ Aside0 (i ≤ 6 ∧ 6 - i ≤ kq) ∧ Aside0 (gb = (g0 && ([n1, n2, n3, n4, n5, n6].take i).all (fun n => wi n 1099511627776))) ∧ Aside0 (Below w.heap.size w wr) ∧ Aside0 (wr.heap[g1]? = some (.cells (LC kd n1 n2 n3 n4 n5 n6 s t (.slice A9 ps.length c9) (.slice A10 is_.length c10) co y b) 27 (0, 0))) ∧ Aside0 (wr.heap[gp]? = some (.cells (ptrs g1 [1, 2, 3, 4, 5, 6]) 50 (0, 0))))
    case atStart => exact ⟨0, g0, rfl, rfl, ⟨by decide⟩, ⟨by simp⟩, HB4, B14, GP⟩
    case round =>
      obtain ⟨i, gb, rfl, rfl, HI, HGB, HBr, B1r, GPr⟩ := hrel
      by_cases hlt : i < 6
      · obtain ⟨ni, hni⟩ : ∃ ni, ni = [n1, n2, n3, n4, n5, n6][i] := ⟨_, rfl⟩
        have cp : wr.cell? ⟨gp, i, none⟩ = some (.pointer (some ⟨g1, 1 + i, none⟩)) := ptrs_at GPr.out (num_field i hlt)
        have cs : wr.cell? ⟨g1, 1 + i, none⟩ = some (.int .i64 ni) := (blk_cell B1r.out _).trans (hni ▸ LC_num _ _ _ _ _ _ _ _ _ _ _ _ _ _ i hlt)
        have HS := Aside0.mk (show (g0 && ([n1, n2, n3, n4, n5, n6].take (i + 1)).all (fun n => wi n 1099511627776)) = (gb && wi ni 1099511627776) by rw [all_step _ [n1, n2, n3, n4, n5, n6] i hlt, ← Bool.and_assoc, ← HGB.out, hni])
        have t1 : decide ((i : Int) < 6) = true := decide_eq_true (by omega)
        clear hni
        cases gb with
        | true =>
          go_wp2_with (first
              | ((with_reducible refine gate_callee (f := 29) rfl ?_); (try (refine gate_guard (by rfl) ?_; dsimp only)); refine goesL_ (some 37) rfl rfl Try.func29 (by kernel_rfl) rfl #[.int .i64 ni, .int .i64 1099511627776] rfl (by (try simp only [List.map_toArray, List.map_cons, List.map_nil]); first | done | rfl) ?_; (refine (within_b ni 1099511627776 _ rfl _).mono ?_); rintro en wq ⟨rfl, hb_⟩; refine ⟨_, rfl, ?_⟩; have HBq := Aside0.mk (below_step HBr.out hb_); have B1q := Aside0.mk (blk_below B1r.out hb_); have GPq := Aside0.mk (blk_below GPr.out hb_); clear hb_))
          go_roundg (6 - (i + 1))
          case measure => have := HI.out.2; omega
          case rel => exact ⟨i + 1, _, by first | rfl | (congr 1; exact Go.IntWalk.wrap64_in _ (by omega)), rfl, ⟨by omega, Nat.le_refl _⟩, ⟨by rw [HS.out, Bool.true_and]⟩, HBq, B1q, GPq⟩
        | false =>
          go_wp2
          go_roundg (6 - (i + 1))
          case measure => have := HI.out.2; omega
          case rel => exact ⟨i + 1, false, by first | rfl | (congr 1; exact Go.IntWalk.wrap64_in _ (by omega)), rfl, ⟨by omega, Nat.le_refl _⟩, ⟨by rw [HS.out, Bool.false_and]⟩, HBr, B1r, GPr⟩
      · obtain rfl : i = 6 := by have := HI.out.1; omega
        have HBs := HBr
        have B1s := B1r
        have HGs := Aside0.mk (show gb = (g0 && [n1, n2, n3, n4, n5, n6].all (fun n => wi n 1099511627776)) from HGB.out)
        clear HBr B1r GPr GP HB4 B14 HBc B1c HGB hlt HI
        obtain ⟨g2, hg2⟩ : ∃ g2, g2 = gb := ⟨_, rfl⟩
        rw [← hg2] at HGs ⊢
        clear hg2
        have ef : wr.cell? ⟨g1, 10, none⟩ = some (.slice A10 is_.length c10) := (blk_cell B1s.out 10).trans rfl
        rename World => wo
        go_wp2
        clear ef
        go_loopg [4, 43] is_.length (fun kq v4 v43 wr => ∃ (i : Nat) (gb : Bool), v43 = .int .i64 (i : Int) ∧ v4 = .bool gb ∧ Aside0 (i ≤ is_.length ∧ is_.length - i ≤ kq) ∧ Aside0 (gb = (g2 && (is_.take i).all (fun x => wi x.f1 1099511627776))) ∧ Aside0 (Below w.heap.size w wr) ∧ Aside0 (wr.heap[g1]? = some (.cells (LC kd n1 n2 n3 n4 n5 n6 s t (.slice A9 ps.length c9) (.slice A10 is_.length c10) co y b) 27 (0, 0))))
        case atStart => exact ⟨0, g2, rfl, rfl, ⟨Nat.zero_le _, Nat.le_refl _⟩, ⟨by simp⟩, HBs, B1s⟩
        case round =>
          obtain ⟨i, gb, rfl, rfl, HI, HGB, HBr, B1r⟩ := hrel
          clear HBs B1s
          by_cases hlt : i < is_.length
          · obtain ⟨ad, hA, hx⟩ := at_T41 (Kd.C_below HQ.out HBr.out) (i : Int) (by omega) (by omega)
            rw [rd41_at is_ i hlt, Int.toNat_natCast] at hx
            obtain ⟨pi, hpi⟩ : ∃ pi, pi = is_[i] := ⟨_, rfl⟩
            rw [← hpi] at hx
            obtain ⟨hx0, hx1, hx2⟩ := hx
            have HS := Aside0.mk (show (g2 && (is_.take (i + 1)).all (fun x => wi x.f1 1099511627776)) = (gb && wi pi.f1 1099511627776) by rw [all_step _ is_ i hlt, ← Bool.and_assoc, ← HGB.out, hpi])
            have t1 : decide ((i : Int) < (is_.length : Int)) = true := decide_eq_true (by omega)
            have HIL := Aside0.mk (show i < is_.length from hlt)
            subst hA
            clear hpi
            go_upto_region 10 with (first
              | ((with_reducible refine gate_dst (N := 8) rfl ?_); refine box_event ?hg (N := 8) ?hd (cs := #[.string (⟨#[]⟩ : ByteArray), .int .i64 0, .bool false]) (t := 41) ?hr ?_; (case hd => rfl); (case hg => rfl); (case hr => first | (go_simp; done) | (go_simp; rfl)); intro g8 hg_ wA hbox_ hb_; have LG8 := Aside0.mk (show wr.heap.size ≤ g8 by omega); have BXa := Aside0.mk hbox_; have HBa := Aside0.mk (below_step HBr.out hb_); have B1a := Aside0.mk (blk_below B1r.out hb_); have yx0 := blk_frozen BXa.out 0; have zx0 : wA.cell? ⟨g8, 0, none⟩ = some (.string (⟨#[]⟩ : ByteArray)) := (blk_cell BXa.out 0).trans rfl; have yx1 := blk_frozen BXa.out 1; have zx1 : wA.cell? ⟨g8, 1, none⟩ = some (.int .i64 0) := (blk_cell BXa.out 1).trans rfl; have yx2 := blk_frozen BXa.out 2; have zx2 : wA.cell? ⟨g8, 2, none⟩ = some (.bool false) := (blk_cell BXa.out 2).trans rfl; clear hb_ hbox_ hg_))
            have LW8 := Aside0.mk (show w.heap.size ≤ g8 by have h1 := LG8.out; have h2 := HBr.out.size; omega)
            have N18 := Aside0.mk (show g1 ≠ g8 by have h1 := LG8.out; have h2 := blk_lt B1r.out; omega)
            have BXb := Aside0.mk (blk_put (cs' := #[.string pi.f0, .int .i64 pi.f1, .bool pi.f2]) (blk_put (cs' := #[.string pi.f0, .int .i64 pi.f1, .bool false]) (blk_put (cs' := #[.string pi.f0, .int .i64 0, .bool false]) BXa.out 0 (.string pi.f0) rfl) 1 (.int .i64 pi.f1) rfl) 2 (.bool pi.f2) rfl)
            have HBb := Aside0.mk (Below.setCell (Below.setCell (Below.setCell HBa.out (p := ⟨g8, 0, none⟩) LW8.out (.string pi.f0)) (p := ⟨g8, 1, none⟩) LW8.out (.int .i64 pi.f1)) (p := ⟨g8, 2, none⟩) LW8.out (.bool pi.f2))
            have B1b := Aside0.mk (blk_far (p := ⟨g8, 2, none⟩) (blk_far (p := ⟨g8, 1, none⟩) (blk_far (p := ⟨g8, 0, none⟩) B1a.out N18.out (.string pi.f0)) N18.out (.int .i64 pi.f1)) N18.out (.bool pi.f2))
            obtain ⟨wB, hw_⟩ : ∃ u, (((wA.setCell ⟨g8, 0, none⟩ (.string pi.f0)).setCell ⟨g8, 1, none⟩ (.int .i64 pi.f1)).setCell ⟨g8, 2, none⟩ (.bool pi.f2)) = u := ⟨_, rfl⟩
            rw [hw_] at BXb HBb B1b ⊢
            clear hw_ yx0 yx1 yx2 zx0 zx1 zx2 hx0 hx1 hx2
            have zl : wB.cell? ⟨g8, 1, none⟩ = some (.int .i64 pi.f1) := (blk_cell BXb.out 1).trans rfl
            cases gb with
            | true =>
              go_wp2_with (first
                  | ((with_reducible refine gate_callee (f := 29) rfl ?_); (try (refine gate_guard (by rfl) ?_; dsimp only)); refine goesL_ (some 51) rfl rfl Try.func29 (by kernel_rfl) rfl #[.int .i64 pi.f1, .int .i64 1099511627776] rfl (by (try simp only [List.map_toArray, List.map_cons, List.map_nil]); first | done | rfl) ?_; (refine (within_b pi.f1 1099511627776 _ rfl _).mono ?_); rintro en wq ⟨rfl, hb_⟩; refine ⟨_, rfl, ?_⟩; have HBq := Aside0.mk (below_step HBb.out hb_); have B1q := Aside0.mk (blk_below B1b.out hb_); clear hb_))
              go_roundg (is_.length - (i + 1))
              case measure => have := HI.out.2; have := HIL.out; omega
              case rel => exact ⟨i + 1, _, by first | rfl | (congr 1; exact Go.IntWalk.wrap64_in _ (by have := HQm.out; have := HIL.out; omega)), rfl, ⟨HIL.out, Nat.le_refl _⟩, ⟨by rw [HS.out, Bool.true_and]⟩, HBq, B1q⟩
            | false =>
              go_wp2
              go_roundg (is_.length - (i + 1))
              case measure => have := HI.out.2; have := HIL.out; omega
              case rel => exact ⟨i + 1, false, by first | rfl | (congr 1; exact Go.IntWalk.wrap64_in _ (by have := HQm.out; have := HIL.out; omega)), rfl, ⟨HIL.out, Nat.le_refl _⟩, ⟨by rw [HS.out, Bool.false_and]⟩, HBb, B1b⟩
          · obtain rfl : i = is_.length := by have := HI.out.1; omega
            have hgood : gb = goodF kd n1 n2 n3 n4 n5 n6 co is_ := by
              have h := HGB.out
              rw [List.take_length, HGs.out, HG0.out] at h
              exact h
            rw [HG.out] at hgood
            subst hgood
            have HBt := HBr
            have B1t := B1r
            clear HBr B1r HGB hlt HI HGs HG0
            have l0 : wr.cell? ⟨g1, 0, none⟩ = some (.int .i64 kd) := (blk_cell B1t.out 0).trans rfl
            have l1 : wr.cell? ⟨g1, 1, none⟩ = some (.int .i64 n1) := (blk_cell B1t.out 1).trans rfl
            have l2 : wr.cell? ⟨g1, 2, none⟩ = some (.int .i64 n2) := (blk_cell B1t.out 2).trans rfl
            have l3 : wr.cell? ⟨g1, 3, none⟩ = some (.int .i64 n3) := (blk_cell B1t.out 3).trans rfl
            have l4 : wr.cell? ⟨g1, 4, none⟩ = some (.int .i64 n4) := (blk_cell B1t.out 4).trans rfl
            have l5 : wr.cell? ⟨g1, 5, none⟩ = some (.int .i64 n5) := (blk_cell B1t.out 5).trans rfl
            have l6 : wr.cell? ⟨g1, 6, none⟩ = some (.int .i64 n6) := (blk_cell B1t.out 6).trans rfl
            have l7 : wr.cell? ⟨g1, 7, none⟩ = some (.string s) := (blk_cell B1t.out 7).trans rfl
            have l8 : wr.cell? ⟨g1, 8, none⟩ = some (.string t) := (blk_cell B1t.out 8).trans rfl
            have l9 : wr.cell? ⟨g1, 9, none⟩ = some (.slice A9 ps.length c9) := (blk_cell B1t.out 9).trans rfl
            have l10 : wr.cell? ⟨g1, 10, none⟩ = some (.slice A10 is_.length c10) := (blk_cell B1t.out 10).trans rfl
            have l11 : wr.cell? ⟨g1, 11, none⟩ = some (.int .i64 co) := (blk_cell B1t.out 11).trans rfl
            have l12 : wr.cell? ⟨g1, 12, none⟩ = some (.bool y) := (blk_cell B1t.out 12).trans rfl
            have l13 : wr.cell? ⟨g1, 13, none⟩ = some (.string b) := (blk_cell B1t.out 13).trans rfl
            have q1 : decide ((ps.length : Int) > 256) = false := decide_eq_false (by have := HL.out.1; omega)
            have q2 : decide ((is_.length : Int) > 256) = false := decide_eq_false (by have := HL.out.2.1; omega)
            have q3 : decide (bulkF s t b ps is_ > 65536) = false := decide_eq_false (by have := HL.out.2.2; omega)
            go_upto_region 18 with (first
              | ((with_reducible refine gate_callee (f := 30) rfl ?_); refine goesL_ (some 67) rfl rfl Try.func30 (by kernel_rfl) rfl #[.agg #[.int .i64 kd, .int .i64 n1, .int .i64 n2, .int .i64 n3, .int .i64 n4, .int .i64 n5, .int .i64 n6, .string s, .string t, .slice A9 ps.length c9, .slice A10 is_.length c10, .int .i64 co, .bool y, .string b]] rfl (by (try simp only [List.map_toArray, List.map_cons, List.map_nil]); first | done | rfl) ?_; (refine (bulk_v _ kd n1 n2 n3 n4 n5 n6 s t A9 c9 ps A10 c10 is_ co y b (Kd.C_below HP.out HBt.out) (Kd.C_below HQ.out HBt.out)).mono ?_); rintro en wk ⟨rfl, hb_⟩; refine ⟨_, rfl, ?_⟩; have HBk := Aside0.mk (below_step HBt.out hb_); have B1k := Aside0.mk (blk_below B1t.out hb_); clear hb_))
            clear l0 l1 l2 l3 l4 l5 l6 l7 l8 l9 l10 l11 l12 l13 q1 q2 q3 HBt B1t
            have l0 : wk.cell? ⟨g1, 0, none⟩ = some (.int .i64 kd) := (blk_cell B1k.out 0).trans rfl
            rename World => wo
            go_wp2_with (first
                  | ((with_reducible refine gate_callee (f := 31) rfl ?_); refine goesL_ (some 71) rfl rfl Try.func31 (by kernel_rfl) rfl #[.int .i64 kd] rfl (by (try simp only [List.map_toArray, List.map_cons, List.map_nil]); first | done | rfl) ?_; (refine (num_s k kd b0 _ D0.out).mono ?_); rintro en wl ⟨AB, cB, rfl, hr_, hb_⟩; refine ⟨_, rfl, ?_⟩; have HXB := Aside0.mk (R_C hr_); have HBl := Aside0.mk (below_step HBk.out hb_); have B1l := Aside0.mk (blk_below B1k.out hb_); have HOl := Aside0.mk (Kd.R_lower hr_ HBk.out.size); clear hr_ hb_)
                  | ((with_reducible refine gate_callee (f := 18) rfl ?_); refine goesL_ (some 72) rfl rfl Try.func18 (by kernel_rfl) rfl #[.pointer (some ⟨g1, 0, none⟩)] rfl (by (try simp only [List.map_toArray, List.map_cons, List.map_nil]); first | done | rfl) ?_; (refine (numbers_v B1l.out).mono ?_); rintro en wm ⟨gq, rfl, hge_, hbp_, hb_⟩; refine ⟨_, rfl, ?_⟩; have GQ := Aside0.mk hbp_; have HBm := Aside0.mk (below_step HBl.out hb_); have B1m := Aside0.mk (blk_below B1l.out hb_); have HOm := Aside0.mk (Kd.R_below HOl.out hb_); clear hge_ hbp_ hb_))
            clear l0 HBk B1k HBl B1l HOl HXB
            go_loopg [9, 74] 6 (fun kq v9 v74 wr => ∃ (i : Nat) (bs : List Int) (AB : Option Addr) (cB : Nat), v74 = .int .i64 (i : Int) ∧ v9 = (.slice AB bs.length cB) ∧ Aside0 (i ≤ 6 ∧ 6 - i ≤ kq) ∧ Aside0 (numsB k ([n1, n2, n3, n4, n5, n6].drop i) bs = some b1) ∧ Aside0 (Below w.heap.size w wr) ∧ Aside0 (wr.heap[g1]? = some (.cells (LC kd n1 n2 n3 n4 n5 n6 s t (.slice A9 ps.length c9) (.slice A10 is_.length c10) co y b) 27 (0, 0))) ∧ Aside0 (wr.heap[gq]? = some (.cells (ptrs g1 [1, 2, 3, 4, 5, 6]) 50 (0, 0))) ∧ Aside0 (Kd.R (Kd.int .u8) 5 wr w.heap.size (fun _ => True) (.slice AB bs.length cB) bs))
            case atStart => exact ⟨0, b0, AB, cB, rfl, rfl, ⟨by decide⟩, D1, HBm, B1m, GQ, HOm⟩
            case round =>
              obtain ⟨i, bs, AB, cB, rfl, rfl, HI, HN, HBr, B1r, GQr, HO⟩ := hrel
              by_cases hlt : i < 6
              · obtain ⟨ni, hni⟩ : ∃ ni, ni = [n1, n2, n3, n4, n5, n6][i] := ⟨_, rfl⟩
                have cp : wr.cell? ⟨gq, i, none⟩ = some (.pointer (some ⟨g1, 1 + i, none⟩)) := ptrs_at GQr.out (num_field i hlt)
                have cs : wr.cell? ⟨g1, 1 + i, none⟩ = some (.int .i64 ni) := (blk_cell B1r.out _).trans (hni ▸ LC_num _ _ _ _ _ _ _ _ _ _ _ _ _ _ i hlt)
                have t1 : decide ((i : Int) < 6) = true := decide_eq_true (by omega)
                have hn := HN.out
                rw [List.drop_eq_getElem_cons (l := [n1, n2, n3, n4, n5, n6]) hlt, numsB, ← hni] at hn
                obtain ⟨xn, hx, hn⟩ := Option.bind_eq_some_iff.1 hn
                obtain ⟨cn, hc, hn⟩ := Option.bind_eq_some_iff.1 hn
                obtain ⟨rfl, hlm⟩ := cat_some hc
                have DN := Aside0.mk hx
                have HN2 := Aside0.mk hn
                have LM := Aside0.mk hlm
                clear hni hx hc hn hlm HN
                go_wp2_with (first
                      | ((with_reducible refine gate_callee (f := 31) rfl ?_); refine goesL_ (some 82) rfl rfl Try.func31 (by kernel_rfl) rfl #[.int .i64 ni] rfl (by (try simp only [List.map_toArray, List.map_cons, List.map_nil]); first | done | rfl) ?_; (refine (num_s k ni xn _ DN.out).mono ?_); rintro en wq ⟨AX, cX, rfl, hr_, hb_⟩; refine ⟨_, rfl, ?_⟩; have HXX := Aside0.mk (R_C hr_); have HBq := Aside0.mk (below_step HBr.out hb_); have B1q := Aside0.mk (blk_below B1r.out hb_); have GQq := Aside0.mk (blk_below GQr.out hb_); have HOq := Aside0.mk (Kd.R_below HO.out hb_); clear hr_ hb_)
                      | ((with_reducible refine gate_builtin (b := .append) (xs := #[.tmp 78, .tmp 82]) rfl ?_); at_builtin; refine Kd.R_append_rows (Kd.int .u8) (w0 := w) w.heap.size rfl (.tmp 78) (.tmp 82) 43 5 (.int .u8 0) 1 rfl Try.underlying43 info5 rfl (by decide) (by omega) (.slice AB bs.length cB) bs xn _ _ _ (fun _ => True) (fun _ => False) rfl rfl ?aO ?aR (fun _ _ h => h) (fun _ h => h.elim) ?aF ?aB ?aS ?aL ?_; (case aR => exact HXX.out); (case aB => exact HBq.out); (case aF => exact (fun _ _ => trivial)); (case aO => exact HOq.out); (case aS => exact HBq.out.size); (case aL => have := LM.out; omega); intro vq wz ho hb hg hat; obtain ⟨AZ, cAZ, hv_⟩ := Kd.R_slice ho; subst hv_; have HOz := Aside0.mk ho; have HBwz := Aside0.mk hb; have B1wz := Aside0.mk (blk_grown B1q.out hg (Kd.R_ne HOq.out B1q.out (by decide))); have GQz := Aside0.mk (blk_grown GQq.out hg (Kd.R_ne HOq.out GQq.out (by decide))); clear ho hb hg hat))
                go_roundg (6 - (i + 1))
                case measure => have := HI.out.2; omega
                case rel => exact ⟨i + 1, bs ++ xn, AZ, cAZ, by first | rfl | (congr 1; exact Go.IntWalk.wrap64_in _ (by omega)), by first | rfl | (rw [List.length_append]), ⟨by omega, Nat.le_refl _⟩, HN2, HBwz, B1wz, GQz, HOz⟩
              · obtain rfl : i = 6 := by have := HI.out.1; omega
                have hn : some bs = some b1 := HN.out
                obtain rfl := Option.some.inj hn
                have HBu := HBr
                have B1u := B1r
                have HOu := HO
                clear HBr B1r HO GQr HBm B1m GQ HOm HN hlt HI hn
                have hd2 : ∃ xa, Aside0 (pack_Num.f k co = some xa) ∧ ∃ xb, Aside0 (pack_Num.f k (bitI y) = some xb) ∧ ∃ xj, Aside0 (pack_Join.f k [xa, xb] = some xj) ∧ b2 = bs ++ xj ∧ bs.length + xj.length < 140737488355328 := by
                  have h := D2.out
                  unfold headB at h
                  obtain ⟨xa, ha, h⟩ := Option.bind_eq_some_iff.1 h
                  obtain ⟨xb, hb, h⟩ := Option.bind_eq_some_iff.1 h
                  obtain ⟨xj, hj, h⟩ := Option.bind_eq_some_iff.1 h
                  exact ⟨xa, ⟨ha⟩, xb, ⟨hb⟩, xj, ⟨hj⟩, cat_some h⟩
                go_upto_region 24 with (fail)
                go_cut [9] from 85 to 95 (fun v9 wc => ∃ AB cB, v9 = .slice AB b2.length cB ∧ Aside0 (Below w.heap.size w wc) ∧ Aside0 (wc.heap[g1]? = some (.cells (LC kd n1 n2 n3 n4 n5 n6 s t (.slice A9 ps.length c9) (.slice A10 is_.length c10) co y b) 27 (0, 0))) ∧ Aside0 (Kd.R (Kd.int .u8) 5 wc w.heap.size (fun _ => True) (.slice AB b2.length cB) b2))
                case first =>
                  obtain ⟨xa, E1, hh2⟩ := hd2
                  obtain ⟨xb, E2, hh3⟩ := hh2
                  obtain ⟨xj, E3, hc2, hm2⟩ := hh3
                  have LM := Aside0.mk hm2
                  have HC2 := Aside0.mk hc2
                  have HBv := HBu
                  have B1v := B1u
                  have HOv := HOu
                  clear HBu B1u HOu hm2 hc2
                  go_region_held3 (fun W : World => W.cell? ⟨g1, 11, none⟩ = some (.int .i64 co) ∧ W.cell? ⟨g1, 12, none⟩ = some (.bool y)) (exact keep2 (by with_reducible repeat (first | exact B1v.out | refine blk_drewN ?_ _ | refine blk_drew ?_ | refine blk_alloc ?_ _))) (first
                    | (go_at_call 31; (with_reducible refine (num_s k co xa _ E1.out).mono ?_); rintro en wv ⟨Aa, ca, rfl, hr_, hb_⟩; have hb2 := below_step (below_drew (Below.refl wr.heap.size wr)) hb_; have HBn := Aside0.mk (below_step HBv.out hb2); have B1n := Aside0.mk (blk_below B1v.out hb2); have HOn := Aside0.mk (Kd.R_below HOv.out hb2); clear HBv B1v HOv; have HBv := HBn; have B1v := B1n; have HOv := HOn; clear HBn B1n HOn; (try (have HXn := Aside0.mk (rdB_below HXa.out hb2); clear HXa; have HXa := HXn; clear HXn)); (try (have HXn := Aside0.mk (rdB_below HXb.out hb2); clear HXb; have HXb := HXn; clear HXn)); (try (have HXn := Aside0.mk (rdB_below HXc.out hb2); clear HXc; have HXc := HXn; clear HXn)); have HXa := Aside0.mk (rdB hr_); clear hr_; clear hb_ hb2)
                    | (go_at_call 31; (with_reducible refine (num_s k co xa _ E1.out).mono ?_); rintro en wv ⟨Aa, ca, rfl, hr_, hb_⟩; have hb2 := hb_; have HBn := Aside0.mk (below_step HBv.out hb2); have B1n := Aside0.mk (blk_below B1v.out hb2); have HOn := Aside0.mk (Kd.R_below HOv.out hb2); clear HBv B1v HOv; have HBv := HBn; have B1v := B1n; have HOv := HOn; clear HBn B1n HOn; (try (have HXn := Aside0.mk (rdB_below HXa.out hb2); clear HXa; have HXa := HXn; clear HXn)); (try (have HXn := Aside0.mk (rdB_below HXb.out hb2); clear HXb; have HXb := HXn; clear HXn)); (try (have HXn := Aside0.mk (rdB_below HXc.out hb2); clear HXc; have HXc := HXn; clear HXn)); have HXa := Aside0.mk (rdB hr_); clear hr_; clear hb_ hb2)
                    | (go_at_call 33; (with_reducible refine (bit_s y _).mono ?_); rintro en wv ⟨rfl, hb_⟩; have hb2 := below_step (below_drew (Below.refl wr.heap.size wr)) hb_; have HBn := Aside0.mk (below_step HBv.out hb2); have B1n := Aside0.mk (blk_below B1v.out hb2); have HOn := Aside0.mk (Kd.R_below HOv.out hb2); clear HBv B1v HOv; have HBv := HBn; have B1v := B1n; have HOv := HOn; clear HBn B1n HOn; (try (have HXn := Aside0.mk (rdB_below HXa.out hb2); clear HXa; have HXa := HXn; clear HXn)); (try (have HXn := Aside0.mk (rdB_below HXb.out hb2); clear HXb; have HXb := HXn; clear HXn)); (try (have HXn := Aside0.mk (rdB_below HXc.out hb2); clear HXc; have HXc := HXn; clear HXn)); clear hb_ hb2)
                    | (go_at_call 33; (with_reducible refine (bit_s y _).mono ?_); rintro en wv ⟨rfl, hb_⟩; have hb2 := hb_; have HBn := Aside0.mk (below_step HBv.out hb2); have B1n := Aside0.mk (blk_below B1v.out hb2); have HOn := Aside0.mk (Kd.R_below HOv.out hb2); clear HBv B1v HOv; have HBv := HBn; have B1v := B1n; have HOv := HOn; clear HBn B1n HOn; (try (have HXn := Aside0.mk (rdB_below HXa.out hb2); clear HXa; have HXa := HXn; clear HXn)); (try (have HXn := Aside0.mk (rdB_below HXb.out hb2); clear HXb; have HXb := HXn; clear HXn)); (try (have HXn := Aside0.mk (rdB_below HXc.out hb2); clear HXc; have HXc := HXn; clear HXn)); clear hb_ hb2)
                    | (go_at_call 31; (with_reducible refine (num_s k (bitI y) xb _ E2.out).mono ?_); rintro en wv ⟨Ab, cb, rfl, hr_, hb_⟩; have hb2 := hb_; have HBn := Aside0.mk (below_step HBv.out hb2); have B1n := Aside0.mk (blk_below B1v.out hb2); have HOn := Aside0.mk (Kd.R_below HOv.out hb2); clear HBv B1v HOv; have HBv := HBn; have B1v := B1n; have HOv := HOn; clear HBn B1n HOn; (try (have HXn := Aside0.mk (rdB_below HXa.out hb2); clear HXa; have HXa := HXn; clear HXn)); (try (have HXn := Aside0.mk (rdB_below HXb.out hb2); clear HXb; have HXb := HXn; clear HXn)); (try (have HXn := Aside0.mk (rdB_below HXc.out hb2); clear HXc; have HXc := HXn; clear HXn)); have HXb := Aside0.mk (rdB hr_); clear hr_; clear hb_ hb2)
                    | (go_at_call 32; (with_reducible refine (join2 k xj HXa.out HXb.out E3.out).mono ?_); rintro en wv ⟨Aj, cj, rfl, hr_, hb_⟩; have hb2 := hb_; have HBn := Aside0.mk (below_step HBv.out hb2); have B1n := Aside0.mk (blk_below B1v.out hb2); have HOn := Aside0.mk (Kd.R_below HOv.out hb2); clear HBv B1v HOv; have HBv := HBn; have B1v := B1n; have HOv := HOn; clear HBn B1n HOn; have HXj := Aside0.mk (rdB hr_); clear hr_; clear hb_ hb2)
                    | (refine R_append_rows_step2 (Kd.int .u8) (w0 := w) w.heap.size (by rfl) (.tmp 85) (.tmp 94) 43 5 (.int .u8 0) 1 rfl Try.underlying43 info5 rfl (by decide) (by omega) (.slice AB bs.length cB) bs xj _ _ _ (fun _ => True) (fun _ => False) rfl rfl ?aO ?aR (fun _ _ h => h) (fun _ h => h.elim) ?aF ?aB ?aS ?aL ?_; (case aR => exact HXj.out.c); (case aB => exact HBv.out); (case aF => exact (fun _ _ => trivial)); (case aO => exact HOv.out); (case aS => exact HBv.out.size); (case aL => have := LM.out; omega); intro AZ cZ wv ho hb hg; have HOz := Aside0.mk ho; have HBz := Aside0.mk hb; have B1n := Aside0.mk (blk_grown B1v.out hg (Kd.R_ne HOv.out B1v.out (by decide))); clear B1v; have B1v := B1n; clear B1n ho hb hg))
                  all_goals (try go_wp2)
                  all_goals go_meet
                  all_goals exact ⟨AZ, cZ, by rw [HC2.out, List.length_append], HBz, B1v, ⟨by rw [HC2.out]; exact HOz.out⟩⟩
                case rest =>
                  obtain ⟨AB, cB, rfl, HBa, B1a, HOa⟩ := hcut
                  rename World => wo4
                  go_wp2_with (first
                        | ((with_reducible refine gate_callee (f := 19) rfl ?_); refine goesL_ (some 96) rfl rfl Try.func19 (by kernel_rfl) rfl #[.pointer (some ⟨g1, 0, none⟩)] rfl (by (try simp only [List.map_toArray, List.map_cons, List.map_nil]); first | done | rfl) ?_; (refine (texts_v B1a.out).mono ?_); rintro en wm ⟨gq, rfl, hge_, hbp_, hb_⟩; refine ⟨_, rfl, ?_⟩; have GQ := Aside0.mk hbp_; have HBm := Aside0.mk (below_step HBa.out hb_); have B1m := Aside0.mk (blk_below B1a.out hb_); have HOm := Aside0.mk (Kd.R_below HOa.out hb_); clear hge_ hbp_ hb_))
                  go_loopg [9, 98] 3 (fun kq v9 v98 wr => ∃ (i : Nat) (bs : List Int) (AB : Option Addr) (cB : Nat), v98 = .int .i64 (i : Int) ∧ v9 = (.slice AB bs.length cB) ∧ Aside0 (i ≤ 3 ∧ 3 - i ≤ kq) ∧ Aside0 (textsB k ([s, t, b].drop i) bs = some b3) ∧ Aside0 (Below w.heap.size w wr) ∧ Aside0 (wr.heap[g1]? = some (.cells (LC kd n1 n2 n3 n4 n5 n6 s t (.slice A9 ps.length c9) (.slice A10 is_.length c10) co y b) 27 (0, 0))) ∧ Aside0 (wr.heap[gq]? = some (.cells (ptrs g1 [7, 8, 13]) 53 (0, 0))) ∧ Aside0 (Kd.R (Kd.int .u8) 5 wr w.heap.size (fun _ => True) (.slice AB bs.length cB) bs))
                  case atStart => exact ⟨0, b2, AB, cB, rfl, rfl, ⟨by decide⟩, D3, HBm, B1m, GQ, HOm⟩
                  case round =>
                    obtain ⟨i, bs, AB, cB, rfl, rfl, HI, HN, HBr, B1r, GQr, HO⟩ := hrel
                    by_cases hlt : i < 3
                    · obtain ⟨si, hsi⟩ : ∃ si, si = [s, t, b][i] := ⟨_, rfl⟩
                      have cp : wr.cell? ⟨gq, i, none⟩ = some (.pointer (some ⟨g1, fT i, none⟩)) := ptrs_at GQr.out (text_field i hlt)
                      have cs : wr.cell? ⟨g1, fT i, none⟩ = some (.string si) := (blk_cell B1r.out _).trans (hsi ▸ LC_text _ _ _ _ _ _ _ _ _ _ _ _ _ _ i hlt)
                      have t1 : decide ((i : Int) < 3) = true := decide_eq_true (by omega)
                      have hn := HN.out
                      rw [List.drop_eq_getElem_cons (l := [s, t, b]) hlt, textsB, ← hsi] at hn
                      obtain ⟨xn, hx, hn⟩ := Option.bind_eq_some_iff.1 hn
                      obtain ⟨cn, hc, hn⟩ := Option.bind_eq_some_iff.1 hn
                      obtain ⟨rfl, hlm⟩ := cat_some hc
                      have DN := Aside0.mk hx
                      have HN2 := Aside0.mk hn
                      have LM := Aside0.mk hlm
                      clear hsi hx hc hn hlm HN
                      go_wp2_with (first
                            | ((with_reducible refine gate_callee (f := 34) rfl ?_); refine goesL_ (some 106) rfl rfl Try.func34 (by kernel_rfl) rfl #[.string si] rfl (by (try simp only [List.map_toArray, List.map_cons, List.map_nil]); first | done | rfl) ?_; (refine (text_s k si xn _ DN.out).mono ?_); rintro en wq ⟨AX, cX, rfl, hr_, hb_⟩; refine ⟨_, rfl, ?_⟩; have HXX := Aside0.mk (R_C hr_); have HBq := Aside0.mk (below_step HBr.out hb_); have B1q := Aside0.mk (blk_below B1r.out hb_); have GQq := Aside0.mk (blk_below GQr.out hb_); have HOq := Aside0.mk (Kd.R_below HO.out hb_); clear hr_ hb_)
                            | ((with_reducible refine gate_builtin (b := .append) (xs := #[.tmp 102, .tmp 106]) rfl ?_); at_builtin; refine Kd.R_append_rows (Kd.int .u8) (w0 := w) w.heap.size rfl (.tmp 102) (.tmp 106) 43 5 (.int .u8 0) 1 rfl Try.underlying43 info5 rfl (by decide) (by omega) (.slice AB bs.length cB) bs xn _ _ _ (fun _ => True) (fun _ => False) rfl rfl ?aO ?aR (fun _ _ h => h) (fun _ h => h.elim) ?aF ?aB ?aS ?aL ?_; (case aR => exact HXX.out); (case aB => exact HBq.out); (case aF => exact (fun _ _ => trivial)); (case aO => exact HOq.out); (case aS => exact HBq.out.size); (case aL => have := LM.out; omega); intro vq wz ho hb hg hat; obtain ⟨AZ, cAZ, hv_⟩ := Kd.R_slice ho; subst hv_; have HOz := Aside0.mk ho; have HBwz := Aside0.mk hb; have B1wz := Aside0.mk (blk_grown B1q.out hg (Kd.R_ne HOq.out B1q.out (by decide))); have GQz := Aside0.mk (blk_grown GQq.out hg (Kd.R_ne HOq.out GQq.out (by decide))); clear ho hb hg hat))
                      go_roundg (3 - (i + 1))
                      case measure => have := HI.out.2; omega
                      case rel => exact ⟨i + 1, bs ++ xn, AZ, cAZ, by first | rfl | (congr 1; exact Go.IntWalk.wrap64_in _ (by omega)), by first | rfl | (rw [List.length_append]), ⟨by omega, Nat.le_refl _⟩, HN2, HBwz, B1wz, GQz, HOz⟩
                    · obtain rfl : i = 3 := by have := HI.out.1; omega
                      have hn : some bs = some b3 := HN.out
                      obtain rfl := Option.some.inj hn
                      have HBu := HBr
                      have B1u := B1r
                      have HOu := HO
                      clear HBr B1r HO GQr HBm B1m GQ HOm HN hlt HI hn
                      have hd4 := D4.out
                      unfold lenB at hd4
                      obtain ⟨xl, hxl, hc4⟩ := Option.bind_eq_some_iff.1 hd4
                      obtain ⟨hb4, hlm⟩ := cat_some hc4
                      have DL := Aside0.mk hxl
                      have LM := Aside0.mk hlm
                      have HB4 := Aside0.mk hb4
                      clear hd4 hxl hc4 hlm hb4
                      have f9 : wr.cell? ⟨g1, 9, none⟩ = some (.slice A9 ps.length c9) := (blk_cell B1u.out 9).trans rfl
                      go_upto_region 31 with (first
                        | ((with_reducible refine gate_callee (f := 31) rfl ?_); refine goesL_ (some 113) rfl rfl Try.func31 (by kernel_rfl) rfl #[.int .i64 (ps.length : Int)] rfl (by (try simp only [List.map_toArray, List.map_cons, List.map_nil]); first | done | rfl) ?_; (refine (num_s k (ps.length : Int) xl _ DL.out).mono ?_); rintro en wk ⟨AL, cL, rfl, hr_, hb_⟩; refine ⟨_, rfl, ?_⟩; have HXL := Aside0.mk (R_C hr_); have HBk := Aside0.mk (below_step HBu.out hb_); have B1k := Aside0.mk (blk_below B1u.out hb_); have HOk := Aside0.mk (Kd.R_below HOu.out hb_); clear hr_ hb_)
                        | ((with_reducible refine gate_builtin (b := .append) (xs := #[.tmp 109, .tmp 113]) rfl ?_); at_builtin; refine Kd.R_append_rows (Kd.int .u8) (w0 := w) w.heap.size rfl (.tmp 109) (.tmp 113) 43 5 (.int .u8 0) 1 rfl Try.underlying43 info5 rfl (by decide) (by omega) (.slice AB bs.length cB) bs xl _ _ _ (fun _ => True) (fun _ => False) rfl rfl ?aO ?aR (fun _ _ h => h) (fun _ h => h.elim) ?aF ?aB ?aS ?aL ?_; (case aR => exact HXL.out); (case aB => exact HBk.out); (case aF => exact (fun _ _ => trivial)); (case aO => exact HOk.out); (case aS => exact HBk.out.size); (case aL => have := LM.out; omega); intro vq wz ho hb hg hat; obtain ⟨AZ, cAZ, hv_⟩ := Kd.R_slice ho; subst hv_; have HOz := Aside0.mk ho; have HBwz := Aside0.mk hb; have B1wz := Aside0.mk (blk_grown B1k.out hg (Kd.R_ne HOk.out B1k.out (by decide))); clear ho hb hg hat))
                      clear f9 HBk B1k HOk HXL LM HBu B1u HOu
                      have ff : wz.cell? ⟨g1, 9, none⟩ = some (.slice A9 ps.length c9) := (blk_cell B1wz.out 9).trans rfl
                      go_wp2
                      clear ff
                      go_loopg [9, 118] ps.length (fun kq v9 v118 wr => ∃ (i : Nat) (bs : List Int) (AB : Option Addr) (cB : Nat), v118 = .int .i64 (i : Int) ∧ v9 = (.slice AB bs.length cB) ∧ Aside0 (i ≤ ps.length ∧ ps.length - i ≤ kq) ∧ Aside0 (pairsB k (ps.drop i) bs = some b5) ∧ Aside0 (Below w.heap.size w wr) ∧ Aside0 (wr.heap[g1]? = some (.cells (LC kd n1 n2 n3 n4 n5 n6 s t (.slice A9 ps.length c9) (.slice A10 is_.length c10) co y b) 27 (0, 0))) ∧ Aside0 (Kd.R (Kd.int .u8) 5 wr w.heap.size (fun _ => True) (.slice AB bs.length cB) bs))
                      case atStart => exact ⟨0, (bs ++ xl), AZ, cAZ, rfl, by first | rfl | (rw [List.length_append]), ⟨Nat.zero_le _, Nat.le_refl _⟩, ⟨by rw [← HB4.out]; exact D5.out⟩, HBwz, B1wz, HOz⟩
                      case round =>
                        obtain ⟨i, bs, AB, cB, rfl, rfl, HI, HN, HBr, B1r, HO⟩ := hrel
                        clear HBwz B1wz HOz
                        by_cases hlt : i < ps.length
                        · obtain ⟨ad, hA, hx⟩ := at_T39 (Kd.C_below HP.out HBr.out) (i : Int) (by omega) (by omega)
                          rw [rd39_at ps i hlt, Int.toNat_natCast] at hx
                          have hn := HN.out
                          rw [List.drop_eq_getElem_cons (l := ps) hlt, pairsB] at hn
                          obtain ⟨pi, hpi⟩ : ∃ pi, pi = ps[i] := ⟨_, rfl⟩
                          rw [← hpi] at hx hn
                          obtain ⟨hx0, hx1⟩ := hx
                          obtain ⟨xa, h_, hn⟩ := Option.bind_eq_some_iff.1 hn
                          have E1 := Aside0.mk h_
                          clear h_
                          obtain ⟨xb, h_, hn⟩ := Option.bind_eq_some_iff.1 hn
                          have E2 := Aside0.mk h_
                          clear h_
                          obtain ⟨xj, h_, hn⟩ := Option.bind_eq_some_iff.1 hn
                          have E3 := Aside0.mk h_
                          clear h_
                          obtain ⟨cn, hc, hn⟩ := Option.bind_eq_some_iff.1 hn
                          obtain ⟨rfl, hlm⟩ := cat_some hc
                          have HN2 := Aside0.mk hn
                          have LM := Aside0.mk hlm
                          have t1 : decide ((i : Int) < (ps.length : Int)) = true := decide_eq_true (by omega)
                          have HIL := Aside0.mk (show i < ps.length from hlt)
                          subst hA
                          clear hpi hn hc hlm HN
                          go_upto_region 34 with (first
                            | ((with_reducible refine gate_dst (N := 15) rfl ?_); refine box_event ?hg (N := 15) ?hd (cs := #[.string (⟨#[]⟩ : ByteArray), .string (⟨#[]⟩ : ByteArray)]) (t := 39) ?hr ?_; (case hd => rfl); (case hg => rfl); (case hr => first | (go_simp; done) | (go_simp; rfl)); intro g8 hg_ wA hbox_ hb_; have LG8 := Aside0.mk (show wr.heap.size ≤ g8 by omega); have BXa := Aside0.mk hbox_; have HBa := Aside0.mk (below_step HBr.out hb_); have B1a := Aside0.mk (blk_below B1r.out hb_); have HOa := Aside0.mk (Kd.R_below HO.out hb_); have yx0 := blk_frozen BXa.out 0; have zx0 : wA.cell? ⟨g8, 0, none⟩ = some (.string (⟨#[]⟩ : ByteArray)) := (blk_cell BXa.out 0).trans rfl; have yx1 := blk_frozen BXa.out 1; have zx1 : wA.cell? ⟨g8, 1, none⟩ = some (.string (⟨#[]⟩ : ByteArray)) := (blk_cell BXa.out 1).trans rfl; clear hb_ hbox_ hg_))
                          have LW8 := Aside0.mk (show w.heap.size ≤ g8 by have h1 := LG8.out; have h2 := HBr.out.size; omega)
                          have N18 := Aside0.mk (show g1 ≠ g8 by have h1 := LG8.out; have h2 := blk_lt B1r.out; omega)
                          have HOv := Aside0.mk (Kd.R_set (Kd.R_set HOa.out BXa.out (by decide) 0 (.string pi.f0)) (blk_put (cs' := #[.string pi.f0, .string (⟨#[]⟩ : ByteArray)]) BXa.out 0 (.string pi.f0) rfl) (by decide) 1 (.string pi.f1))
                          have BXv := Aside0.mk (blk_put (cs' := #[.string pi.f0, .string pi.f1]) (blk_put (cs' := #[.string pi.f0, .string (⟨#[]⟩ : ByteArray)]) BXa.out 0 (.string pi.f0) rfl) 1 (.string pi.f1) rfl)
                          have HBv := Aside0.mk (Below.setCell (Below.setCell HBa.out (p := ⟨g8, 0, none⟩) LW8.out (.string pi.f0)) (p := ⟨g8, 1, none⟩) LW8.out (.string pi.f1))
                          have B1v := Aside0.mk (blk_far (p := ⟨g8, 1, none⟩) (blk_far (p := ⟨g8, 0, none⟩) B1a.out N18.out (.string pi.f0)) N18.out (.string pi.f1))
                          obtain ⟨wB, hw_⟩ : ∃ u, ((wA.setCell ⟨g8, 0, none⟩ (.string pi.f0)).setCell ⟨g8, 1, none⟩ (.string pi.f1)) = u := ⟨_, rfl⟩
                          rw [hw_] at BXv HBv B1v HOv ⊢
                          clear hw_ yx0 zx0 yx1 zx1 hx0 hx1 HBa B1a HOa BXa HBr B1r HO
                          go_region_held3 (fun W : World => W.cell? ⟨g8, 0, none⟩ = some (.string pi.f0) ∧ W.cell? ⟨g8, 1, none⟩ = some (.string pi.f1)) (exact keepP (by with_reducible repeat (first | exact BXv.out | refine blk_drewN ?_ _ | refine blk_drew ?_ | refine blk_alloc ?_ _))) (first
                            | (go_at_call 34; (with_reducible refine (text_s k pi.f0 xa _ E1.out).mono ?_); rintro en wv ⟨Aa, ca, rfl, hr_, hb_⟩; have hb2 := below_step (below_drew (Below.refl wB.heap.size wB)) hb_; have HBn := Aside0.mk (below_step HBv.out hb2); have B1n := Aside0.mk (blk_below B1v.out hb2); have HOn := Aside0.mk (Kd.R_below HOv.out hb2); have BXn := Aside0.mk (blk_below BXv.out hb2); clear HBv B1v HOv BXv; have HBv := HBn; have B1v := B1n; have HOv := HOn; have BXv := BXn; clear HBn B1n HOn BXn; (try (have HXn := Aside0.mk (rdB_below HXa.out hb2); clear HXa; have HXa := HXn; clear HXn)); (try (have HXn := Aside0.mk (rdB_below HXb.out hb2); clear HXb; have HXb := HXn; clear HXn)); (try (have HXn := Aside0.mk (rdB_below HXc.out hb2); clear HXc; have HXc := HXn; clear HXn)); have HXa := Aside0.mk (rdB hr_); clear hr_; clear hb_ hb2)
                            | (go_at_call 34; (with_reducible refine (text_s k pi.f0 xa _ E1.out).mono ?_); rintro en wv ⟨Aa, ca, rfl, hr_, hb_⟩; have hb2 := hb_; have HBn := Aside0.mk (below_step HBv.out hb2); have B1n := Aside0.mk (blk_below B1v.out hb2); have HOn := Aside0.mk (Kd.R_below HOv.out hb2); have BXn := Aside0.mk (blk_below BXv.out hb2); clear HBv B1v HOv BXv; have HBv := HBn; have B1v := B1n; have HOv := HOn; have BXv := BXn; clear HBn B1n HOn BXn; (try (have HXn := Aside0.mk (rdB_below HXa.out hb2); clear HXa; have HXa := HXn; clear HXn)); (try (have HXn := Aside0.mk (rdB_below HXb.out hb2); clear HXb; have HXb := HXn; clear HXn)); (try (have HXn := Aside0.mk (rdB_below HXc.out hb2); clear HXc; have HXc := HXn; clear HXn)); have HXa := Aside0.mk (rdB hr_); clear hr_; clear hb_ hb2)
                            | (go_at_call 34; (with_reducible refine (text_s k pi.f1 xb _ E2.out).mono ?_); rintro en wv ⟨Ab, cb, rfl, hr_, hb_⟩; have hb2 := below_step (below_drew (Below.refl wB.heap.size wB)) hb_; have HBn := Aside0.mk (below_step HBv.out hb2); have B1n := Aside0.mk (blk_below B1v.out hb2); have HOn := Aside0.mk (Kd.R_below HOv.out hb2); have BXn := Aside0.mk (blk_below BXv.out hb2); clear HBv B1v HOv BXv; have HBv := HBn; have B1v := B1n; have HOv := HOn; have BXv := BXn; clear HBn B1n HOn BXn; (try (have HXn := Aside0.mk (rdB_below HXa.out hb2); clear HXa; have HXa := HXn; clear HXn)); (try (have HXn := Aside0.mk (rdB_below HXb.out hb2); clear HXb; have HXb := HXn; clear HXn)); (try (have HXn := Aside0.mk (rdB_below HXc.out hb2); clear HXc; have HXc := HXn; clear HXn)); have HXb := Aside0.mk (rdB hr_); clear hr_; clear hb_ hb2)
                            | (go_at_call 34; (with_reducible refine (text_s k pi.f1 xb _ E2.out).mono ?_); rintro en wv ⟨Ab, cb, rfl, hr_, hb_⟩; have hb2 := hb_; have HBn := Aside0.mk (below_step HBv.out hb2); have B1n := Aside0.mk (blk_below B1v.out hb2); have HOn := Aside0.mk (Kd.R_below HOv.out hb2); have BXn := Aside0.mk (blk_below BXv.out hb2); clear HBv B1v HOv BXv; have HBv := HBn; have B1v := B1n; have HOv := HOn; have BXv := BXn; clear HBn B1n HOn BXn; (try (have HXn := Aside0.mk (rdB_below HXa.out hb2); clear HXa; have HXa := HXn; clear HXn)); (try (have HXn := Aside0.mk (rdB_below HXb.out hb2); clear HXb; have HXb := HXn; clear HXn)); (try (have HXn := Aside0.mk (rdB_below HXc.out hb2); clear HXc; have HXc := HXn; clear HXn)); have HXb := Aside0.mk (rdB hr_); clear hr_; clear hb_ hb2)
                            | (go_at_call 32; (with_reducible refine (join2 k xj HXa.out HXb.out E3.out).mono ?_); rintro en wv ⟨Aj, cj, rfl, hr_, hb_⟩; have hb2 := hb_; have HBn := Aside0.mk (below_step HBv.out hb2); have B1n := Aside0.mk (blk_below B1v.out hb2); have HOn := Aside0.mk (Kd.R_below HOv.out hb2); have BXn := Aside0.mk (blk_below BXv.out hb2); clear HBv B1v HOv BXv; have HBv := HBn; have B1v := B1n; have HOv := HOn; have BXv := BXn; clear HBn B1n HOn BXn; have HXj := Aside0.mk (rdB hr_); clear hr_; clear hb_ hb2)
                            | (refine R_append_rows_step2 (Kd.int .u8) (w0 := w) w.heap.size (by rfl) (.tmp 122) (.tmp 130) 43 5 (.int .u8 0) 1 rfl Try.underlying43 info5 rfl (by decide) (by omega) (.slice AB bs.length cB) bs xj _ _ _ (fun _ => True) (fun _ => False) rfl rfl ?aO ?aR (fun _ _ h => h) (fun _ h => h.elim) ?aF ?aB ?aS ?aL ?_; (case aR => exact HXj.out.c); (case aB => exact HBv.out); (case aF => exact (fun _ _ => trivial)); (case aO => exact HOv.out); (case aS => exact HBv.out.size); (case aL => have := LM.out; omega); intro AZ cZ wv ho hb hg; have HOz := Aside0.mk ho; have HBz := Aside0.mk hb; have B1n := Aside0.mk (blk_grown B1v.out hg (Kd.R_ne HOv.out B1v.out (by decide))); have BXn := Aside0.mk (blk_grown BXv.out hg (Kd.R_ne HOv.out BXv.out (by decide))); clear B1v BXv; have B1v := B1n; have BXv := BXn; clear B1n BXn ho hb hg))
                          all_goals (try go_wp2)
                          all_goals go_roundg (ps.length - (i + 1))
                          all_goals first
                            | (have := HI.out.2; have := HIL.out; omega)
                            | exact ⟨i + 1, bs ++ xj, AZ, cZ, by first | rfl | (congr 1; exact Go.IntWalk.wrap64_in _ (by have := HPm.out; have := HIL.out; omega)), by first | rfl | (rw [List.length_append]), ⟨HIL.out, Nat.le_refl _⟩, HN2, HBz, B1v, HOz⟩
                        · obtain rfl : i = ps.length := by have := HI.out.1; omega
                          have hn := HN.out
                          rw [List.drop_length] at hn
                          obtain rfl := Option.some.inj (show some bs = some b5 from hn)
                          have HBu := HBr
                          have B1u := B1r
                          have HOu := HO
                          clear HBr B1r HO HN hlt HI hn
                          have hd6 := D6.out
                          unfold lenB at hd6
                          obtain ⟨xl, hxl, hc4⟩ := Option.bind_eq_some_iff.1 hd6
                          obtain ⟨hb6, hlm⟩ := cat_some hc4
                          have DL := Aside0.mk hxl
                          have LM := Aside0.mk hlm
                          have HB6 := Aside0.mk hb6
                          clear hd6 hxl hc4 hlm hb6
                          have f10 : wr.cell? ⟨g1, 10, none⟩ = some (.slice A10 is_.length c10) := (blk_cell B1u.out 10).trans rfl
                          go_upto_region 37 with (first
                            | ((with_reducible refine gate_callee (f := 31) rfl ?_); refine goesL_ (some 137) rfl rfl Try.func31 (by kernel_rfl) rfl #[.int .i64 (is_.length : Int)] rfl (by (try simp only [List.map_toArray, List.map_cons, List.map_nil]); first | done | rfl) ?_; (refine (num_s k (is_.length : Int) xl _ DL.out).mono ?_); rintro en wk ⟨AL, cL, rfl, hr_, hb_⟩; refine ⟨_, rfl, ?_⟩; have HXL := Aside0.mk (R_C hr_); have HBk := Aside0.mk (below_step HBu.out hb_); have B1k := Aside0.mk (blk_below B1u.out hb_); have HOk := Aside0.mk (Kd.R_below HOu.out hb_); clear hr_ hb_)
                            | ((with_reducible refine gate_builtin (b := .append) (xs := #[.tmp 133, .tmp 137]) rfl ?_); at_builtin; refine Kd.R_append_rows (Kd.int .u8) (w0 := w) w.heap.size rfl (.tmp 133) (.tmp 137) 43 5 (.int .u8 0) 1 rfl Try.underlying43 info5 rfl (by decide) (by omega) (.slice AB bs.length cB) bs xl _ _ _ (fun _ => True) (fun _ => False) rfl rfl ?aO ?aR (fun _ _ h => h) (fun _ h => h.elim) ?aF ?aB ?aS ?aL ?_; (case aR => exact HXL.out); (case aB => exact HBk.out); (case aF => exact (fun _ _ => trivial)); (case aO => exact HOk.out); (case aS => exact HBk.out.size); (case aL => have := LM.out; omega); intro vq wz ho hb hg hat; obtain ⟨AZ, cAZ, hv_⟩ := Kd.R_slice ho; subst hv_; have HOz := Aside0.mk ho; have HBwz := Aside0.mk hb; have B1wz := Aside0.mk (blk_grown B1k.out hg (Kd.R_ne HOk.out B1k.out (by decide))); clear ho hb hg hat))
                          clear f10 HBk B1k HOk HXL LM HBu B1u HOu
                          have ff : wz.cell? ⟨g1, 10, none⟩ = some (.slice A10 is_.length c10) := (blk_cell B1wz.out 10).trans rfl
                          go_wp2
                          clear ff
                          go_loopg [9, 142] is_.length (fun kq v9 v142 wr => ∃ (i : Nat) (bs : List Int) (AB : Option Addr) (cB : Nat), v142 = .int .i64 (i : Int) ∧ v9 = (.slice AB bs.length cB) ∧ Aside0 (i ≤ is_.length ∧ is_.length - i ≤ kq) ∧ Aside0 (intentsB k (is_.drop i) bs = some b7) ∧ Aside0 (Below w.heap.size w wr) ∧ Aside0 (wr.heap[g1]? = some (.cells (LC kd n1 n2 n3 n4 n5 n6 s t (.slice A9 ps.length c9) (.slice A10 is_.length c10) co y b) 27 (0, 0))) ∧ Aside0 (Kd.R (Kd.int .u8) 5 wr w.heap.size (fun _ => True) (.slice AB bs.length cB) bs))
                          case atStart => exact ⟨0, (bs ++ xl), AZ, cAZ, rfl, by first | rfl | (rw [List.length_append]), ⟨Nat.zero_le _, Nat.le_refl _⟩, ⟨by rw [← HB6.out]; exact D7.out⟩, HBwz, B1wz, HOz⟩
                          case round =>
                            obtain ⟨i, bs, AB, cB, rfl, rfl, HI, HN, HBr, B1r, HO⟩ := hrel
                            clear HBwz B1wz HOz
                            by_cases hlt : i < is_.length
                            · obtain ⟨ad, hA, hx⟩ := at_T41 (Kd.C_below HQ.out HBr.out) (i : Int) (by omega) (by omega)
                              rw [rd41_at is_ i hlt, Int.toNat_natCast] at hx
                              have hn := HN.out
                              rw [List.drop_eq_getElem_cons (l := is_) hlt, intentsB] at hn
                              obtain ⟨pi, hpi⟩ : ∃ pi, pi = is_[i] := ⟨_, rfl⟩
                              rw [← hpi] at hx hn
                              obtain ⟨hx0, hx1, hx2⟩ := hx
                              obtain ⟨xa, h_, hn⟩ := Option.bind_eq_some_iff.1 hn
                              have E1 := Aside0.mk h_
                              clear h_
                              obtain ⟨xb, h_, hn⟩ := Option.bind_eq_some_iff.1 hn
                              have E2 := Aside0.mk h_
                              clear h_
                              obtain ⟨xc, h_, hn⟩ := Option.bind_eq_some_iff.1 hn
                              have E4 := Aside0.mk h_
                              clear h_
                              obtain ⟨xj, h_, hn⟩ := Option.bind_eq_some_iff.1 hn
                              have E3 := Aside0.mk h_
                              clear h_
                              obtain ⟨cn, hc, hn⟩ := Option.bind_eq_some_iff.1 hn
                              obtain ⟨rfl, hlm⟩ := cat_some hc
                              have HN2 := Aside0.mk hn
                              have LM := Aside0.mk hlm
                              have t1 : decide ((i : Int) < (is_.length : Int)) = true := decide_eq_true (by omega)
                              have HIL := Aside0.mk (show i < is_.length from hlt)
                              subst hA
                              clear hpi hn hc hlm HN
                              go_upto_region 40 with (first
                                | ((with_reducible refine gate_dst (N := 17) rfl ?_); refine box_event ?hg (N := 17) ?hd (cs := #[.string (⟨#[]⟩ : ByteArray), .int .i64 0, .bool false]) (t := 41) ?hr ?_; (case hd => rfl); (case hg => rfl); (case hr => first | (go_simp; done) | (go_simp; rfl)); intro g8 hg_ wA hbox_ hb_; have LG8 := Aside0.mk (show wr.heap.size ≤ g8 by omega); have BXa := Aside0.mk hbox_; have HBa := Aside0.mk (below_step HBr.out hb_); have B1a := Aside0.mk (blk_below B1r.out hb_); have HOa := Aside0.mk (Kd.R_below HO.out hb_); have yx0 := blk_frozen BXa.out 0; have zx0 : wA.cell? ⟨g8, 0, none⟩ = some (.string (⟨#[]⟩ : ByteArray)) := (blk_cell BXa.out 0).trans rfl; have yx1 := blk_frozen BXa.out 1; have zx1 : wA.cell? ⟨g8, 1, none⟩ = some (.int .i64 0) := (blk_cell BXa.out 1).trans rfl; have yx2 := blk_frozen BXa.out 2; have zx2 : wA.cell? ⟨g8, 2, none⟩ = some (.bool false) := (blk_cell BXa.out 2).trans rfl; clear hb_ hbox_ hg_))
                              have LW8 := Aside0.mk (show w.heap.size ≤ g8 by have h1 := LG8.out; have h2 := HBr.out.size; omega)
                              have N18 := Aside0.mk (show g1 ≠ g8 by have h1 := LG8.out; have h2 := blk_lt B1r.out; omega)
                              have HOv := Aside0.mk (Kd.R_set (Kd.R_set (Kd.R_set HOa.out BXa.out (by decide) 0 (.string pi.f0)) (blk_put (cs' := #[.string pi.f0, .int .i64 0, .bool false]) BXa.out 0 (.string pi.f0) rfl) (by decide) 1 (.int .i64 pi.f1)) (blk_put (cs' := #[.string pi.f0, .int .i64 pi.f1, .bool false]) (blk_put (cs' := #[.string pi.f0, .int .i64 0, .bool false]) BXa.out 0 (.string pi.f0) rfl) 1 (.int .i64 pi.f1) rfl) (by decide) 2 (.bool pi.f2))
                              have BXv := Aside0.mk (blk_put (cs' := #[.string pi.f0, .int .i64 pi.f1, .bool pi.f2]) (blk_put (cs' := #[.string pi.f0, .int .i64 pi.f1, .bool false]) (blk_put (cs' := #[.string pi.f0, .int .i64 0, .bool false]) BXa.out 0 (.string pi.f0) rfl) 1 (.int .i64 pi.f1) rfl) 2 (.bool pi.f2) rfl)
                              have HBv := Aside0.mk (Below.setCell (Below.setCell (Below.setCell HBa.out (p := ⟨g8, 0, none⟩) LW8.out (.string pi.f0)) (p := ⟨g8, 1, none⟩) LW8.out (.int .i64 pi.f1)) (p := ⟨g8, 2, none⟩) LW8.out (.bool pi.f2))
                              have B1v := Aside0.mk (blk_far (p := ⟨g8, 2, none⟩) (blk_far (p := ⟨g8, 1, none⟩) (blk_far (p := ⟨g8, 0, none⟩) B1a.out N18.out (.string pi.f0)) N18.out (.int .i64 pi.f1)) N18.out (.bool pi.f2))
                              obtain ⟨wB, hw_⟩ : ∃ u, (((wA.setCell ⟨g8, 0, none⟩ (.string pi.f0)).setCell ⟨g8, 1, none⟩ (.int .i64 pi.f1)).setCell ⟨g8, 2, none⟩ (.bool pi.f2)) = u := ⟨_, rfl⟩
                              rw [hw_] at BXv HBv B1v HOv ⊢
                              clear hw_ yx0 zx0 yx1 zx1 yx2 zx2 hx0 hx1 hx2 HBa B1a HOa BXa HBr B1r HO
                              go_region_held3 (fun W : World => W.cell? ⟨g8, 0, none⟩ = some (.string pi.f0) ∧ W.cell? ⟨g8, 1, none⟩ = some (.int .i64 pi.f1) ∧ W.cell? ⟨g8, 2, none⟩ = some (.bool pi.f2)) (exact keepI (by with_reducible repeat (first | exact BXv.out | refine blk_drewN ?_ _ | refine blk_drew ?_ | refine blk_alloc ?_ _))) (first
                                | (go_at_call 34; (with_reducible refine (text_s k pi.f0 xa _ E1.out).mono ?_); rintro en wv ⟨Aa, ca, rfl, hr_, hb_⟩; have hb2 := below_step (below_drew (Below.refl wB.heap.size wB)) hb_; have HBn := Aside0.mk (below_step HBv.out hb2); have B1n := Aside0.mk (blk_below B1v.out hb2); have HOn := Aside0.mk (Kd.R_below HOv.out hb2); have BXn := Aside0.mk (blk_below BXv.out hb2); clear HBv B1v HOv BXv; have HBv := HBn; have B1v := B1n; have HOv := HOn; have BXv := BXn; clear HBn B1n HOn BXn; (try (have HXn := Aside0.mk (rdB_below HXa.out hb2); clear HXa; have HXa := HXn; clear HXn)); (try (have HXn := Aside0.mk (rdB_below HXb.out hb2); clear HXb; have HXb := HXn; clear HXn)); (try (have HXn := Aside0.mk (rdB_below HXc.out hb2); clear HXc; have HXc := HXn; clear HXn)); have HXa := Aside0.mk (rdB hr_); clear hr_; clear hb_ hb2)
                                | (go_at_call 34; (with_reducible refine (text_s k pi.f0 xa _ E1.out).mono ?_); rintro en wv ⟨Aa, ca, rfl, hr_, hb_⟩; have hb2 := hb_; have HBn := Aside0.mk (below_step HBv.out hb2); have B1n := Aside0.mk (blk_below B1v.out hb2); have HOn := Aside0.mk (Kd.R_below HOv.out hb2); have BXn := Aside0.mk (blk_below BXv.out hb2); clear HBv B1v HOv BXv; have HBv := HBn; have B1v := B1n; have HOv := HOn; have BXv := BXn; clear HBn B1n HOn BXn; (try (have HXn := Aside0.mk (rdB_below HXa.out hb2); clear HXa; have HXa := HXn; clear HXn)); (try (have HXn := Aside0.mk (rdB_below HXb.out hb2); clear HXb; have HXb := HXn; clear HXn)); (try (have HXn := Aside0.mk (rdB_below HXc.out hb2); clear HXc; have HXc := HXn; clear HXn)); have HXa := Aside0.mk (rdB hr_); clear hr_; clear hb_ hb2)
                                | (go_at_call 31; (with_reducible refine (num_s k pi.f1 xb _ E2.out).mono ?_); rintro en wv ⟨Ab, cb, rfl, hr_, hb_⟩; have hb2 := below_step (below_drew (Below.refl wB.heap.size wB)) hb_; have HBn := Aside0.mk (below_step HBv.out hb2); have B1n := Aside0.mk (blk_below B1v.out hb2); have HOn := Aside0.mk (Kd.R_below HOv.out hb2); have BXn := Aside0.mk (blk_below BXv.out hb2); clear HBv B1v HOv BXv; have HBv := HBn; have B1v := B1n; have HOv := HOn; have BXv := BXn; clear HBn B1n HOn BXn; (try (have HXn := Aside0.mk (rdB_below HXa.out hb2); clear HXa; have HXa := HXn; clear HXn)); (try (have HXn := Aside0.mk (rdB_below HXb.out hb2); clear HXb; have HXb := HXn; clear HXn)); (try (have HXn := Aside0.mk (rdB_below HXc.out hb2); clear HXc; have HXc := HXn; clear HXn)); have HXb := Aside0.mk (rdB hr_); clear hr_; clear hb_ hb2)
                                | (go_at_call 31; (with_reducible refine (num_s k pi.f1 xb _ E2.out).mono ?_); rintro en wv ⟨Ab, cb, rfl, hr_, hb_⟩; have hb2 := hb_; have HBn := Aside0.mk (below_step HBv.out hb2); have B1n := Aside0.mk (blk_below B1v.out hb2); have HOn := Aside0.mk (Kd.R_below HOv.out hb2); have BXn := Aside0.mk (blk_below BXv.out hb2); clear HBv B1v HOv BXv; have HBv := HBn; have B1v := B1n; have HOv := HOn; have BXv := BXn; clear HBn B1n HOn BXn; (try (have HXn := Aside0.mk (rdB_below HXa.out hb2); clear HXa; have HXa := HXn; clear HXn)); (try (have HXn := Aside0.mk (rdB_below HXb.out hb2); clear HXb; have HXb := HXn; clear HXn)); (try (have HXn := Aside0.mk (rdB_below HXc.out hb2); clear HXc; have HXc := HXn; clear HXn)); have HXb := Aside0.mk (rdB hr_); clear hr_; clear hb_ hb2)
                                | (go_at_call 33; (with_reducible refine (bit_s pi.f2 _).mono ?_); rintro en wv ⟨rfl, hb_⟩; have hb2 := below_step (below_drew (Below.refl wB.heap.size wB)) hb_; have HBn := Aside0.mk (below_step HBv.out hb2); have B1n := Aside0.mk (blk_below B1v.out hb2); have HOn := Aside0.mk (Kd.R_below HOv.out hb2); have BXn := Aside0.mk (blk_below BXv.out hb2); clear HBv B1v HOv BXv; have HBv := HBn; have B1v := B1n; have HOv := HOn; have BXv := BXn; clear HBn B1n HOn BXn; (try (have HXn := Aside0.mk (rdB_below HXa.out hb2); clear HXa; have HXa := HXn; clear HXn)); (try (have HXn := Aside0.mk (rdB_below HXb.out hb2); clear HXb; have HXb := HXn; clear HXn)); (try (have HXn := Aside0.mk (rdB_below HXc.out hb2); clear HXc; have HXc := HXn; clear HXn)); clear hb_ hb2)
                                | (go_at_call 33; (with_reducible refine (bit_s pi.f2 _).mono ?_); rintro en wv ⟨rfl, hb_⟩; have hb2 := hb_; have HBn := Aside0.mk (below_step HBv.out hb2); have B1n := Aside0.mk (blk_below B1v.out hb2); have HOn := Aside0.mk (Kd.R_below HOv.out hb2); have BXn := Aside0.mk (blk_below BXv.out hb2); clear HBv B1v HOv BXv; have HBv := HBn; have B1v := B1n; have HOv := HOn; have BXv := BXn; clear HBn B1n HOn BXn; (try (have HXn := Aside0.mk (rdB_below HXa.out hb2); clear HXa; have HXa := HXn; clear HXn)); (try (have HXn := Aside0.mk (rdB_below HXb.out hb2); clear HXb; have HXb := HXn; clear HXn)); (try (have HXn := Aside0.mk (rdB_below HXc.out hb2); clear HXc; have HXc := HXn; clear HXn)); clear hb_ hb2)
                                | (go_at_call 31; (with_reducible refine (num_s k (bitI pi.f2) xc _ E4.out).mono ?_); rintro en wv ⟨Ac, cc, rfl, hr_, hb_⟩; have hb2 := hb_; have HBn := Aside0.mk (below_step HBv.out hb2); have B1n := Aside0.mk (blk_below B1v.out hb2); have HOn := Aside0.mk (Kd.R_below HOv.out hb2); have BXn := Aside0.mk (blk_below BXv.out hb2); clear HBv B1v HOv BXv; have HBv := HBn; have B1v := B1n; have HOv := HOn; have BXv := BXn; clear HBn B1n HOn BXn; (try (have HXn := Aside0.mk (rdB_below HXa.out hb2); clear HXa; have HXa := HXn; clear HXn)); (try (have HXn := Aside0.mk (rdB_below HXb.out hb2); clear HXb; have HXb := HXn; clear HXn)); (try (have HXn := Aside0.mk (rdB_below HXc.out hb2); clear HXc; have HXc := HXn; clear HXn)); have HXc := Aside0.mk (rdB hr_); clear hr_; clear hb_ hb2)
                                | (go_at_call 32; (with_reducible refine (join3 k xj HXa.out HXb.out HXc.out E3.out).mono ?_); rintro en wv ⟨Aj, cj, rfl, hr_, hb_⟩; have hb2 := hb_; have HBn := Aside0.mk (below_step HBv.out hb2); have B1n := Aside0.mk (blk_below B1v.out hb2); have HOn := Aside0.mk (Kd.R_below HOv.out hb2); have BXn := Aside0.mk (blk_below BXv.out hb2); clear HBv B1v HOv BXv; have HBv := HBn; have B1v := B1n; have HOv := HOn; have BXv := BXn; clear HBn B1n HOn BXn; have HXj := Aside0.mk (rdB hr_); clear hr_; clear hb_ hb2)
                                | (refine R_append_rows_step2 (Kd.int .u8) (w0 := w) w.heap.size (by rfl) (.tmp 146) (.tmp 158) 43 5 (.int .u8 0) 1 rfl Try.underlying43 info5 rfl (by decide) (by omega) (.slice AB bs.length cB) bs xj _ _ _ (fun _ => True) (fun _ => False) rfl rfl ?aO ?aR (fun _ _ h => h) (fun _ h => h.elim) ?aF ?aB ?aS ?aL ?_; (case aR => exact HXj.out.c); (case aB => exact HBv.out); (case aF => exact (fun _ _ => trivial)); (case aO => exact HOv.out); (case aS => exact HBv.out.size); (case aL => have := LM.out; omega); intro AZ cZ wv ho hb hg; have HOz := Aside0.mk ho; have HBz := Aside0.mk hb; have B1n := Aside0.mk (blk_grown B1v.out hg (Kd.R_ne HOv.out B1v.out (by decide))); have BXn := Aside0.mk (blk_grown BXv.out hg (Kd.R_ne HOv.out BXv.out (by decide))); clear B1v BXv; have B1v := B1n; have BXv := BXn; clear B1n BXn ho hb hg))
                              all_goals (try go_wp2)
                              all_goals go_roundg (is_.length - (i + 1))
                              all_goals first
                                | (have := HI.out.2; have := HIL.out; omega)
                                | exact ⟨i + 1, bs ++ xj, AZ, cZ, by first | rfl | (congr 1; exact Go.IntWalk.wrap64_in _ (by have := HQm.out; have := HIL.out; omega)), by first | rfl | (rw [List.length_append]), ⟨HIL.out, Nat.le_refl _⟩, HN2, HBz, B1v, HOz⟩
                            · obtain rfl : i = is_.length := by have := HI.out.1; omega
                              have hn := HN.out
                              rw [List.drop_length] at hn
                              obtain rfl := Option.some.inj (show some bs = some b7 from hn)
                              have HBu := HBr
                              have B1u := B1r
                              have HOu := HO
                              clear HBr B1r HO HN hlt HI hn
                              by_cases hbig : (bs.length : Int) > 65536
                              · have q1 : decide ((bs.length : Int) > 65536) = true := decide_eq_true hbig
                                have hr := HR.out
                                rw [if_pos hbig] at hr
                                obtain ⟨rfl, rfl⟩ := Prod.mk.inj hr
                                clear hbig hr
                                go_wp2
                                go_ret2
                                exact ⟨rfl, HBu.out⟩
                              · have q1 : decide ((bs.length : Int) > 65536) = false := decide_eq_false hbig
                                have hr := HR.out
                                rw [if_neg hbig] at hr
                                obtain ⟨rfl, rfl⟩ := Prod.mk.inj hr
                                have hstr := Kd.C_string (P := Try.prog) (src := 43) (dst := 9) (n := bs.length) (c := cB) Try.underlying43 Try.underlying5 Try.underlying9 (R_C HOu.out)
                                clear hbig hr
                                go_wp2
                                go_ret2
                                exact ⟨rfl, HBu.out⟩
end Go.Proofs.Ythghacojbhjeaaa.Lk
namespace Go.Proofs.Ythghacojbhjeaaa.Ll
open Go Go.RowKit Go.Proofs.Ythghacojbhjeaaa.PKp Go.Proofs.YthghacojbhjeaaaW.PrintWords Go.Proofs.YthghacojbhjeaaaW.PrintLast Go.Proofs.Ythghacojbhjeaaa.Hl Go.Proofs.Ythghacojbhjeaaa.Le Go.Proofs.Ythghacojbhjeaaa.Lh Go.Proofs.Ythghacojbhjeaaa.Lj Go.Proofs.Ythghacojbhjeaaa.Lk
set_option linter.unusedSimpArgs false
set_option linter.unusedVariables false
def bodyB (k : Nat) (kd : Int) (ns : List Int) (co : Int) (y : Bool) (ts : List ByteArray) (ps : List S39) (is_ : List S41) : Option (List Int) :=
  (pack_Num.f k kd).bind fun b0 => (numsB k ns b0).bind fun b1 => (headB k co y b1).bind fun b2 => (textsB k ts b2).bind fun b3 => (lenB k ps.length b3).bind fun b4 => (pairsB k ps b4).bind fun b5 => (lenB k is_.length b5).bind fun b6 => intentsB k is_ b6
def endB (b : List Int) : ByteArray × Int := if (b.length : Int) > 65536 then (⟨#[]⟩, 4) else (strOfNums b, 0)
def letter_Pack.f (k : Nat) (a0_0 : Int) (a0_1 : Int) (a0_2 : Int) (a0_3 : Int) (a0_4 : Int) (a0_5 : Int) (a0_6 : Int) (a0_7 : ByteArray) (a0_8 : ByteArray) (l0_9 : List (S39)) (l0_10 : List (S41)) (a0_11 : Int) (a0_12 : Bool) (a0_13 : ByteArray) : Option (ByteArray × Int) :=
  if goodF a0_0 a0_1 a0_2 a0_3 a0_4 a0_5 a0_6 a0_11 l0_10 = true then (if (l0_9.length : Int) > 256 ∨ (l0_10.length : Int) > 256 ∨ bulkF a0_7 a0_8 a0_13 l0_9 l0_10 > 65536 then some (⟨#[]⟩, 4) else (bodyB k a0_0 [a0_1, a0_2, a0_3, a0_4, a0_5, a0_6] a0_11 a0_12 [a0_7, a0_8, a0_13] l0_9 l0_10).map endB) else some (⟨#[]⟩, 1)
theorem numsB_le (k : Nat) : ∀ (l b : List Int), LeO (numsB k l b) (numsB (k + 1) l b)
  | [], b => LeO.refl _
  | n :: t, b => by rw [numsB, numsB]; exact LeO.bind (pack_Num.mono _ _) fun x => LeO.bind (LeO.refl _) fun c => numsB_le k t c
theorem textsB_le (k : Nat) : ∀ (l : List ByteArray) (b : List Int), LeO (textsB k l b) (textsB (k + 1) l b)
  | [], b => LeO.refl _
  | n :: t, b => by rw [textsB, textsB]; exact LeO.bind (pack_Text.mono _ _) fun x => LeO.bind (LeO.refl _) fun c => textsB_le k t c
theorem headB_le (k : Nat) (co : Int) (y : Bool) (b : List Int) : LeO (headB k co y b) (headB (k + 1) co y b) := by
  unfold headB
  exact LeO.bind (pack_Num.mono _ _) fun x => LeO.bind (pack_Num.mono _ _) fun z => LeO.bind (pack_Join.mono _ _) fun j => LeO.refl _
theorem lenB_le (k n : Nat) (b : List Int) : LeO (lenB k n b) (lenB (k + 1) n b) := by
  unfold lenB
  exact LeO.bind (pack_Num.mono _ _) fun x => LeO.refl _
theorem pairsB_le (k : Nat) : ∀ (l : List S39) (b : List Int), LeO (pairsB k l b) (pairsB (k + 1) l b)
  | [], b => LeO.refl _
  | p :: t, b => by rw [pairsB, pairsB]; exact LeO.bind (pack_Text.mono _ _) fun x => LeO.bind (pack_Text.mono _ _) fun z => LeO.bind (pack_Join.mono _ _) fun j => LeO.bind (LeO.refl _) fun c => pairsB_le k t c
theorem intentsB_le (k : Nat) : ∀ (l : List S41) (b : List Int), LeO (intentsB k l b) (intentsB (k + 1) l b)
  | [], b => LeO.refl _
  | p :: t, b => by rw [intentsB, intentsB]; exact LeO.bind (pack_Text.mono _ _) fun x => LeO.bind (pack_Num.mono _ _) fun z => LeO.bind (pack_Num.mono _ _) fun g => LeO.bind (pack_Join.mono _ _) fun j => LeO.bind (LeO.refl _) fun c => intentsB_le k t c
theorem letter_Pack.mono : ∀ a0_0 a0_1 a0_2 a0_3 a0_4 a0_5 a0_6 a0_7 a0_8 l0_9 l0_10 a0_11 a0_12 a0_13 k, LeO (letter_Pack.f k a0_0 a0_1 a0_2 a0_3 a0_4 a0_5 a0_6 a0_7 a0_8 l0_9 l0_10 a0_11 a0_12 a0_13) (letter_Pack.f (k + 1) a0_0 a0_1 a0_2 a0_3 a0_4 a0_5 a0_6 a0_7 a0_8 l0_9 l0_10 a0_11 a0_12 a0_13) := by
  intro a0_0 a0_1 a0_2 a0_3 a0_4 a0_5 a0_6 a0_7 a0_8 l0_9 l0_10 a0_11 a0_12 a0_13 k
  unfold letter_Pack.f bodyB
  exact LeO.ite (LeO.ite (LeO.refl _) (LeO.map _ (LeO.bind (pack_Num.mono _ _) fun _ => LeO.bind (numsB_le _ _ _) fun _ => LeO.bind (headB_le _ _ _ _) fun _ => LeO.bind (textsB_le _ _ _) fun _ => LeO.bind (lenB_le _ _ _) fun _ => LeO.bind (pairsB_le _ _ _) fun _ => LeO.bind (lenB_le _ _ _) fun _ => intentsB_le _ _ _))) (LeO.refl _)
theorem letter_Pack.calls (k : Nat) (a0_0 : Int) (a0_1 : Int) (a0_2 : Int) (a0_3 : Int) (a0_4 : Int) (a0_5 : Int) (a0_6 : Int) (a0_7 : ByteArray) (a0_8 : ByteArray) (A0_9 : Option Addr) (c0_9 : Nat) (l0_9 : List (S39)) (A0_10 : Option Addr) (c0_10 : Nat) (l0_10 : List (S41)) (a0_11 : Int) (a0_12 : Bool) (a0_13 : ByteArray) (r1 : ByteArray) (r2 : Int) (w : World) (hr0_9 : Kd.C k39 w A0_9 l0_9.length l0_9) (hc0_9 : l0_9.length ≤ c0_9) (hr0_10 : Kd.C k41 w A0_10 l0_10.length l0_10) (hc0_10 : l0_10.length ≤ c0_10) (h : letter_Pack.f k a0_0 a0_1 a0_2 a0_3 a0_4 a0_5 a0_6 a0_7 a0_8 l0_9 l0_10 a0_11 a0_12 a0_13 = some (r1, r2)) :
    Calls Try.prog 11 #[.agg #[.int .i64 a0_0, .int .i64 a0_1, .int .i64 a0_2, .int .i64 a0_3, .int .i64 a0_4, .int .i64 a0_5, .int .i64 a0_6, .string a0_7, .string a0_8, .slice A0_9 l0_9.length c0_9, .slice A0_10 l0_10.length c0_10, .int .i64 a0_11, .bool a0_12, .string a0_13]] w fun e w' => e = .returned (.tuple #[.string r1, .int .i64 r2]) ∧ Below w.heap.size w w' := by
  unfold letter_Pack.f at h
  cases hg : goodF a0_0 a0_1 a0_2 a0_3 a0_4 a0_5 a0_6 a0_11 l0_10 with
  | false =>
    rw [hg, if_neg (by decide)] at h
    obtain ⟨rfl, rfl⟩ := Prod.mk.inj (Option.some.inj h)
    exact pack_bad w a0_0 a0_1 a0_2 a0_3 a0_4 a0_5 a0_6 a0_7 a0_8 A0_9 c0_9 l0_9 A0_10 c0_10 l0_10 a0_11 a0_12 a0_13 hr0_9 hr0_10 hg
  | true =>
    rw [hg, if_pos rfl] at h
    by_cases hl : (l0_9.length : Int) > 256 ∨ (l0_10.length : Int) > 256 ∨ bulkF a0_7 a0_8 a0_13 l0_9 l0_10 > 65536
    · rw [if_pos hl] at h
      obtain ⟨rfl, rfl⟩ := Prod.mk.inj (Option.some.inj h)
      exact pack_large w a0_0 a0_1 a0_2 a0_3 a0_4 a0_5 a0_6 a0_7 a0_8 A0_9 c0_9 l0_9 A0_10 c0_10 l0_10 a0_11 a0_12 a0_13 hr0_9 hr0_10 hg hl
    · rw [if_neg hl] at h
      obtain ⟨b7, hb, hr⟩ := Option.map_eq_some_iff.1 h
      unfold bodyB at hb
      obtain ⟨b0, d0, hb⟩ := Option.bind_eq_some_iff.1 hb
      obtain ⟨b1, d1, hb⟩ := Option.bind_eq_some_iff.1 hb
      obtain ⟨b2, d2, hb⟩ := Option.bind_eq_some_iff.1 hb
      obtain ⟨b3, d3, hb⟩ := Option.bind_eq_some_iff.1 hb
      obtain ⟨b4, d4, hb⟩ := Option.bind_eq_some_iff.1 hb
      obtain ⟨b5, d5, hb⟩ := Option.bind_eq_some_iff.1 hb
      obtain ⟨b6, d6, d7⟩ := Option.bind_eq_some_iff.1 hb
      exact pack_ok w a0_0 a0_1 a0_2 a0_3 a0_4 a0_5 a0_6 a0_7 a0_8 A0_9 c0_9 l0_9 A0_10 c0_10 l0_10 a0_11 a0_12 a0_13 hr0_9 hr0_10 hg k b0 b1 b2 b3 b4 b5 b6 b7 r1 r2 ⟨fun x => hl (.inl x), fun x => hl (.inr (.inl x)), fun x => hl (.inr (.inr x))⟩ d0 d1 d2 d3 d4 d5 d6 d7 hr
end Go.Proofs.Ythghacojbhjeaaa.Ll
