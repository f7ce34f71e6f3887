/- DERIVED. A region that draws its order, by what holds at every step of every order. Conditions: those that each lemma names. DERIVED. A map of names (an entry and a version) to numbers: what it holds. Conditions: those that each lemma names. DERIVED. m[k]++ on a map of names: what its three steps do. Conditions: those that each lemma names. DERIVED. outbox.names: what it computes, and its code walked. Conditions: those that each lemma names. DERIVED. m[k]++ of outbox.without, in whatever order. Conditions: those that each lemma names. DERIVED. outbox.without: what it computes, and its code walked. Conditions: those that each lemma names. -/
import Derived.Orders
import Derived.Laws.Tables
import Derived.WalkKit
import Derived.Test.YtdaikljbljcagaaFv
import Derived.Test.YtdaikljbljcagaaHl
import Derived.Maps.OwnOps
import Derived.Maps.Views
import Derived.WideKeyEntry
import Derived.DeepKeys4
import Derived.Test.YtdaikljbljcagaaPAllx10
import Derived.Carry
namespace Go.Proofs.Ytdaikljbljcagaa.Dr
open Go Go.RowKit Go.Proofs.YtdaikljbljcagaaW.PrintWords Go.Proofs.YtdaikljbljcagaaW.PrintLast Go.Proofs.Ytdaikljbljcagaa.Hl Go.Proofs.Ytdaikljbljcagaa.Fv
set_option linter.unusedSimpArgs false
set_option linter.unusedVariables false
/-- All is as it was but block g; nothing was said. -/
structure Turned (g : Nat) (w w' : World) : Prop where
  os : w'.os = w.os
  tape : w'.tape = w.tape
  output : w'.output = w.output
  size : w.heap.size ≤ w'.heap.size
  block : ∀ k, k < w.heap.size → k ≠ g → w'.heap[k]? = w.heap[k]?
theorem Turned.below {g B : Nat} {w0 w w' : World} (h : Turned g w w') (hb : Below B w0 w) (hg : B ≤ g) (hB : B ≤ w.heap.size) : Below B w0 w' :=
  hb.trans ⟨h.os, h.tape, h.output, h.size, fun k hk => h.block k (by omega) (by omega)⟩
theorem Turned.blk {g g' : Nat} {w w' : World} {o : Obj} (h : Turned g w w') (hb : w.heap[g']? = some o) (hne : g' ≠ g) : w'.heap[g']? = some o := (h.block g' (blk_lt hb) hne).trans hb
theorem Turned.refl (g : Nat) (w : World) : Turned g w w := ⟨rfl, rfl, rfl, Nat.le_refl _, fun _ _ _ => rfl⟩
theorem Turned.trans {g : Nat} {w w1 w2 : World} (h : Turned g w w1) (k : Turned g w1 w2) : Turned g w w2 :=
  ⟨k.os.trans h.os, k.tape.trans h.tape, k.output.trans h.output, Nat.le_trans h.size k.size, fun i hi hne => (k.block i (Nat.lt_of_lt_of_le hi h.size) hne).trans (h.block i hi hne)⟩
theorem Turned.of_below {g : Nat} {w w1 : World} (h : Below w.heap.size w w1) : Turned g w w1 := ⟨h.os, h.tape, h.output, h.size, fun i hi _ => h.block i hi⟩
theorem Turned.set {g : Nat} {w w1 : World} (h : Turned g w w1) {p : Addr} (hp : w.heap.size ≤ p.block ∨ p.block = g) (v : Value) : Turned g w (w1.setCell p v) :=
  ⟨h.os, h.tape, h.output, by have := h.size; simpa [World.setCell] using this, fun i hi hne => (Below.heap_setCell _ _ _ _ (by rcases hp with hp | hp <;> omega)).trans (h.block i hi hne)⟩
theorem Turned.grown {g : Nat} {w w1 w2 : World} (h : Turned g w w1) (hb : Below w.heap.size w1 w2) : Turned g w w2 :=
  ⟨hb.os.trans h.os, hb.tape.trans h.tape, hb.output.trans h.output, Nat.le_trans h.size hb.size, fun i hi hne => (hb.block i hi).trans (h.block i hi hne)⟩
/-- What holds at every step of every order holds at the end. -/
theorem wpAny_inv {P : Program} {md : Region.Mode} {ops : Array Oper} {Q : Exit → Act → World → Prop} (I : Array Bool → Act → World → Prop) (hs : ∀ l a w, I l a w → l.size = ops.size)
    (hstep : ∀ l a w, I l a w → ∀ i ∈ Region.ready md ops l, wpOp P ops Q i (fun a' w' => I (l.setIfInBounds i true) a' w') a w)
    (hend : ∀ l a w, I l a w → Region.ready md ops l = [] → Q .normal a w) : ∀ (n : Nat) (l : Array Bool) (a : Act) (w : World), I l a w → l.toList.count false ≤ n → wpAny P md ops Q n l a w := by
  have hfalse : ∀ (l : Array Bool) (a : Act) (w : World), I l a w → ∀ j ∈ Region.ready md ops l, ∃ h : j < l.toList.length, l.toList[j] = false := by
    intro l a w hI j hj
    obtain ⟨h1, o, ho, _⟩ := mem_ready.1 hj
    have hlt : j < l.size := by rw [hs l a w hI]; exact (Array.getElem?_eq_some_iff.1 ho).1
    refine ⟨by simpa using hlt, ?_⟩
    simpa [Array.getD, hlt] using h1
  intro n
  induction n with
  | zero =>
    intro l a w hI hc
    have h0 : Region.ready md ops l = [] := by
      apply List.eq_nil_iff_forall_not_mem.2
      intro j hj
      obtain ⟨h, e⟩ := hfalse l a w hI j hj
      have h2 : false ∈ l.toList := e ▸ List.getElem_mem h
      have := List.count_pos_iff.2 h2
      omega
    exact ⟨h0, hend l a w hI h0⟩
  | succ n ih =>
    intro l a w hI hc
    refine ⟨fun h0 => hend l a w hI h0, fun i hi => wpOp_mono (fun a' w' hI' => ih _ a' w' hI' ?_) (hstep l a w hI i hi)⟩
    obtain ⟨h, e⟩ := hfalse l a w hI i hi
    have h2 : false ∈ l.toList := e ▸ List.getElem_mem h
    have h3 := List.count_pos_iff.2 h2
    rw [Array.toList_setIfInBounds, List.count_set h, e]
    simp only [beq_self_eq_true, if_true]
    rw [if_neg (by decide)]
    omega
def up {α : Type} (f : Nat → α) (i : Nat) (v : α) : Nat → α := fun j => if j = i then v else f j
theorem ev_up {f : Act} {s : Nat} (hs : s < f.tmps.size) (v : Value) : (fun t => (f.put (some s) v).tmps.getD t undef) = up (fun t => f.tmps.getD t undef) s v := by
  funext t
  show (f.tmps.setIfInBounds s v).getD t undef = if t = s then v else f.tmps.getD t undef
  by_cases h : t = s
  · subst h
    rw [if_pos rfl]
    simp [hs]
  · rw [if_neg h]
    simp [Array.getElem?_setIfInBounds_ne (Ne.symm h)]
theorem li_up {l : Array Bool} {i : Nat} (hi : i < l.size) : (fun j => (l.setIfInBounds i true).getD j false) = up (fun j => l.getD j false) i true := by
  funext t
  show (l.setIfInBounds i true).getD t false = if t = i then true else l.getD t false
  by_cases h : t = i
  · subst h
    rw [if_pos rfl]
    simp [hi]
  · rw [if_neg h]
    simp [Array.getElem?_setIfInBounds_ne (Ne.symm h)]
theorem act_ext {f g : Act} (hs : f.tmps.size = g.tmps.size) (hd : f.defers = g.defers) (h : ∀ t, f.tmps.getD t undef = g.tmps.getD t undef) : f = g := by
  cases f with
  | mk ft fd =>
    cases g with
    | mk gt gd =>
      simp only at hs hd h
      subst hd
      congr 1
      apply Array.ext hs
      intro i h1 h2
      have := h i
      simpa [h1, h2] using this
theorem put_size (f : Act) (d : Option Tmp) (v : Value) : (f.put d v).tmps.size = f.tmps.size := by cases d <;> simp [Act.put]
section
variable {P : Program} {ops : Array Oper} {Q : Exit → Act → World → Prop} {K : Act → World → Prop} {f : Act} {w : World} {i : Nat} {o : Oper}
theorem wpOp_some (ho : ops[i]? = some o) (hg : o.guard = none) (h : o.wp P f w K Q) : wpOp P ops Q i K f w := by
  unfold wpOp
  rw [ho]
  simp only
  rw [if_pos (by simp [Region.wanted, hg])]
  exact .inl h
theorem wpOp_call (ho : ops[i]? = some o) (hg : o.guard = none) {fi : FuncId} {fn : Func} {oas : Array Operand} {ts : Array TypeId} (hf : P.funcs[fi]? = some fn) (hname : (fn.name == "runtime.NumGoroutine") = false) (hb : fn.body.isSome = true) (args : Array Value)
    (hop : o.op = .call { callee := .value (.func fi), args := oas, argTypes := ts }) (hargs : oas.map f.eval = args)
    (h : Calls P fi args w fun e w' => ∃ v, e = .returned v ∧ K (f.put o.dst v) w') : wpOp P ops Q i K f w := by
  have hw : Region.wanted o (yielded ops f.tmps) = true := by simp [Region.wanted, hg]
  have h2 := goes_ (ops := ops) (Q := Q) (N := o.dst) hf hname hb args hw rfl hop hargs h
  rw [if_pos hw] at h2
  exact wpOp_some ho hg h2
theorem wpOp_val (ho : ops[i]? = some o) (hg : o.guard = none) {v : Value} {w1 : World} (hrun : (execOp f.eval o).run P w = .ok (.value v) w1) (h : K (f.put o.dst v) w1) : wpOp P ops Q i K f w := by
  refine wpOp_some ho hg ?_
  unfold Oper.wp
  rw [hrun]
  exact h
end
theorem not_listed {l : Array Bool} {i : Nat} (h : l.getD i true = false) : l.getD i false ≠ true := by
  unfold Array.getD at h ⊢
  split <;> simp_all
end Go.Proofs.Ytdaikljbljcagaa.Dr
namespace Go.Proofs.Ytdaikljbljcagaa.Ma
open Go Go.RowKit Go.Maps Go.WideMaps Go.WideElems Go.Proofs.Ytdaikljbljcagaa.PAll Go.Proofs.YtdaikljbljcagaaW.PrintWords Go.Proofs.YtdaikljbljcagaaW.PrintLast Go.Proofs.Ytdaikljbljcagaa.Hl Go.Proofs.Ytdaikljbljcagaa.Fv
set_option linter.unusedSimpArgs false
set_option linter.unusedVariables false
theorem laidOut : laidOutB Try.prog = true := by kernel_rfl
theorem rowN : (86 : TypeId) < Try.prog.types.size := of_decide_eq_true (by kernel_rfl)
theorem wideN : (match Try.prog.underlying 86 with | some (.array _ _) | some (.struct _) => true | _ => false) = true := by kernel_rfl
set_option maxRecDepth 100000 in
theorem lawN : WideMaps.KeyLaw Try.prog 86 := deep_law_laid laidOut (m := 2) (by omega) rowN (by kernel_rfl) wideN
theorem lawK : Keyed Try.prog 86 := Keyed.of_law lawN
def nameV (e : ByteArray) (v : Int) : Value := .agg #[.string e, .int .i64 v]
theorem keyN (e : ByteArray) (v : Int) (he : e.size ≤ maxLen) (hv : (Lit.int .i64 v).wf = true) : ∃ l, keyOf Try.prog 86 (nameV e v) = some l := by
  unfold keyOf
  rw [Try.underlying86]
  have h1 : Try.prog.keyType 86 = true := by kernel_rfl
  have h2 : (nameV e v).formed Try.prog 86 = true := by
    have hc : Try.prog.cellsOf 86 = 2 := by kernel_rfl
    simp [nameV, Value.formed, Try.underlying86, hc]
  simp only [h1, h2, Bool.and_self, if_true]
  have hkl : Try.prog.keyLits (Try.prog.types.size + 1) 86 (nameV e v).cells.toList = some [.string e.data.toList, .int .i64 v] := by
    obtain ⟨s, hs⟩ : ∃ s, Try.prog.types.size = s := ⟨_, rfl⟩
    have hlt : 86 < s := hs ▸ rowN
    obtain ⟨m, hm⟩ : ∃ m, s = m + 1 := ⟨s - 1, by omega⟩
    rw [hs, hm]
    have hc : Try.prog.cellsOf 86 = 2 := by kernel_rfl
    have c9 : Try.prog.cellsOf 9 = 1 := by kernel_rfl
    have c3 : Try.prog.cellsOf 3 = 1 := by kernel_rfl
    unfold Program.keyLits
    simp only [Try.underlying86]
    simp [nameV, Value.cells, hc, c9, c3, Program.keyLits, Try.underlying9, Try.underlying3, he, hv]
  rw [hkl]
  exact ⟨_, rfl⟩
theorem zeroN (w : World) : (zeroValue 3).run Try.prog w = .ok (.int .i64 0) w := by kernel_rfl
/-- The map in block b (of at most n entries) has f of each name. -/
def MapN (w : World) (b n : Nat) (f : ByteArray → Int → Int) : Prop :=
  ∃ D : DataW Unit, w.ownsMap Try.prog 86 (plainElem Try.prog 3) b n D ∧ IsMap D ∧ ∀ (e : ByteArray) (v : Int) (l : Lit), keyOf Try.prog 86 (nameV e v) = some l → D.atKey l (.lit (.int .i64 0)) = .lit (.int .i64 (f e v))
theorem mapN_made (w : World) : MapN (w.alloc (.map #[] 0)) w.heap.size 0 (fun _ _ => 0) := ⟨.map [], World.ownsMap_made _ _ _ _, ⟨[], rfl⟩, fun _ _ _ _ => rfl⟩
theorem MapN.lt {w : World} {b n : Nat} {f : ByteArray → Int → Int} (h : MapN w b n f) : b < w.heap.size := by
  obtain ⟨D, h1, _⟩ := h
  exact h1.lt
theorem MapN.kept {w w' : World} {b n : Nat} {f : ByteArray → Int → Int} {row : Option Nat} (h : MapN w b n f) (hg : w.grownBy w' row) (hne : some b ≠ row) : MapN w' b n f := by
  obtain ⟨D, h1, h2⟩ := h
  exact ⟨D, h1.kept hg hne, h2⟩
theorem MapN.below {w w' : World} {b n : Nat} {f : ByteArray → Int → Int} (h : MapN w b n f) (hb : Below w.heap.size w w') : MapN w' b n f := by
  obtain ⟨D, ⟨es, clock, hh, hr⟩, h2⟩ := h
  exact ⟨D, ⟨es, clock, blk_below hh hb, hr⟩, h2⟩
theorem MapN.far {w : World} {b n : Nat} {f : ByteArray → Int → Int} (h : MapN w b n f) {p : Addr} (hp : b ≠ p.block) (u : Value) : MapN (w.setCell p u) b n f := by
  obtain ⟨D, ⟨es, clock, hh, hr⟩, h2⟩ := h
  exact ⟨D, ⟨es, clock, (Below.heap_setCell w p u b hp).trans hh, hr⟩, h2⟩
set_option maxRecDepth 100000 in
theorem MapN.look {w : World} {b n : Nat} {f : ByteArray → Int → Int} (h : MapN w b n f) {e : ByteArray} {v : Int} (he : e.size ≤ maxLen) (hv : (Lit.int .i64 v).wf = true) : (Instr.lookup 83 (.map (some b)) (nameV e v) false).run Try.prog w = .ok (.int .i64 (f e v)) w := by
  obtain ⟨D, h1, h2, h3⟩ := h
  obtain ⟨l, hl⟩ := keyN e v he hv
  obtain ⟨c, hrun, hat, _⟩ := h1.lookup_int lawK Try.underlying83 Try.underlying3 (zeroN w) hl
  have h4 := h3 e v l hl
  rw [hat] at h4
  injection h4 with h5
  injection h5 with _ h6
  rw [hrun, h6]
/-- A name's number is set. -/
def setN (f : ByteArray → Int → Int) (e : ByteArray) (v c : Int) : ByteArray → Int → Int := fun e' v' => if e' = e ∧ v' = v then c else f e' v'
theorem nameV_inj {e e' : ByteArray} {v v' : Int} (h : nameV e v = nameV e' v') : e = e' ∧ v = v' := by
  unfold nameV at h
  simp only [Value.agg.injEq, Array.mk.injEq, List.cons.injEq, Value.string.injEq, Value.int.injEq, and_true, true_and] at h
  exact h
theorem put_map {D : DataW Unit} (h : IsMap D) (l : Lit) (d : DataW Unit) : IsMap (D.put l d) := by
  obtain ⟨l0, rfl⟩ := h
  exact ⟨_, rfl⟩
theorem atKey_set {D : DataW Unit} {f : ByteArray → Int → Int} (hm : IsMap D) (h3 : ∀ (e : ByteArray) (v : Int) (l : Lit), keyOf Try.prog 86 (nameV e v) = some l → D.atKey l (.lit (.int .i64 0)) = .lit (.int .i64 (f e v))) {e : ByteArray} {v c : Int} {l : Lit} (hl : keyOf Try.prog 86 (nameV e v) = some l) :
    ∀ (e' : ByteArray) (v' : Int) (l' : Lit), keyOf Try.prog 86 (nameV e' v') = some l' → (D.put l (.lit (.int .i64 c))).atKey l' (.lit (.int .i64 0)) = .lit (.int .i64 (setN f e v c e' v')) := by
  intro e' v' l' hl'
  by_cases hle : l' = l
  · subst hle
    obtain ⟨h4, h5⟩ := nameV_inj (lawN.inj hl' hl)
    rw [atKey_put_same hm (lawK.key hl)]
    unfold setN
    rw [if_pos ⟨h4, h5⟩]
  · rw [atKey_put_other hle, h3 e' v' l' hl']
    unfold setN
    rw [if_neg (fun h => hle (by
      have h2 := hl'
      rw [h.1, h.2, hl] at h2
      exact (Option.some.inj h2).symm))]
theorem MapN.update {w : World} {b n : Nat} {f : ByteArray → Int → Int} (h : MapN w b n f) (hn : n < maxLen) {e : ByteArray} {v c : Int} (he : e.size ≤ maxLen) (hv : (Lit.int .i64 v).wf = true) (hc : (Lit.int .i64 c).wf = true) :
    ∃ w', (Instr.mapUpdate 83 (.map (some b)) (nameV e v) (.int .i64 c)).run Try.prog w = .ok () w' ∧ MapN w' b (n + 1) (setN f e v c) ∧ w.grownBy w' (some b) := by
  obtain ⟨D, h1, h2, h3⟩ := h
  obtain ⟨l, hl⟩ := keyN e v he hv
  obtain ⟨w', hrun, hown, hg⟩ := h1.update lawK Try.underlying83 hn hl (plainElem_int Try.underlying3 hc)
  exact ⟨w', hrun, ⟨_, hown, put_map h2 _ _, atKey_set h2 h3 hl⟩, hg⟩
end Go.Proofs.Ytdaikljbljcagaa.Ma
namespace Go.Proofs.Ytdaikljbljcagaa.Mb
open Go Go.RowKit Go.Maps Go.WideMaps Go.WideElems Go.ChangeShapes Go.WideShapes Go.MapKept Go.ChangeMaps Go.Proofs.Ytdaikljbljcagaa.PAll Go.Proofs.YtdaikljbljcagaaW.PrintWords Go.Proofs.YtdaikljbljcagaaW.PrintLast Go.Proofs.Ytdaikljbljcagaa.Hl Go.Proofs.Ytdaikljbljcagaa.Fv Go.Proofs.Ytdaikljbljcagaa.Ma
set_option linter.unusedSimpArgs false
set_option linter.unusedVariables false
section
variable {H : Type} {P : Program} {w : World} {t k e : TypeId} {R : Value → Option (DataW H × List MemPlace)} {b : Nat} {es : Array MapEntry} {clock : Nat}
/-- The place of a key is made as a store of what it has makes it. -/
theorem entry_mid (K : WideMaps.KeyLaw P k) (ht : P.underlying t = some (.map k e)) {z : Value} (hz : ∀ u : World, (zeroValue e).run P u = .ok z u) (hb : w.heap[b]? = some (.map es clock)) (F : Fit P k R es clock)
    {key : Value} {kl : Lit} (hkey : keyOf P k key = some kl) :
    ∃ (v0 : Value) (st : Nat) (es1 : Array MapEntry) (clock1 : Nat), (Instr.mapEntry t (.map (some b)) key).run P w = .ok (.tuple #[v0, goInt st]) (setBlock w b (.map es1 clock1)) ∧ (Instr.lookup t (.map (some b)) key false).run P w = .ok v0 w ∧
      (Instr.mapUpdate t (.map (some b)) key v0).run P w = .ok () (setBlock w b (.map es1 clock1)) ∧
      ∀ (w2 : World) (val : Value), w2.heap[b]? = some (.map es1 clock1) → ∃ es' clock', (Instr.entryStore t (.map (some b)) (goInt st) val).run P w2 = .ok () (setBlock w2 b (.map es' clock')) ∧
        (Instr.mapUpdate t (.map (some b)) key val).run P w = .ok () (setBlock w b (.map es' clock')) := by
  obtain ⟨v0, st, es1, clock1, r1, hv, r4⟩ := entry_then_store K ht hz hb F hkey
  rcases K.find w hkey es.toList F.keys with ⟨h1, h2⟩ | ⟨j, e0, h1, h2, h3⟩
  · have hz0 : v0 = z := by
      rcases hv with ⟨x, hx, hk, _⟩ | ⟨_, h⟩
      · exact absurd hk (h2 x hx)
      · exact h
    subst hz0
    refine ⟨_, st, es1, clock1, r1, ?_, ?_, r4⟩
    · simp [Instr.lookup, run_underlying ht, MapKept.run_getObj_map hb, K.check w es.isEmpty hkey, h1, hz, Result.andThen]
    · have hr : (Instr.mapEntry t (.map (some b)) key).run P w = .ok (.tuple #[v0, goInt clock]) (setBlock w b (.map (es.push ⟨key, v0, clock⟩) (clock + 1))) := by
        simp [Instr.mapEntry, run_underlying ht, MapKept.run_getObj_map hb, K.check w false hkey, h1, hz, MapKept.run_setObj_map _ hb, Result.andThen, setBlock]
      rw [hr] at r1
      injection r1 with _ hw
      rw [← hw]
      simp [Instr.mapUpdate, run_underlying ht, MapKept.run_getObj_map hb, K.check w false hkey, h1, MapKept.run_setObj_map _ hb, Result.andThen, setBlock]
  · have hj : es[j]? = some e0 := by simpa using h2
    have hr : (Instr.mapEntry t (.map (some b)) key).run P w = .ok (.tuple #[e0.val, goInt e0.born]) (setBlock w b (.map (es.modify j fun e => { e with key }) clock)) := by
      simp [Instr.mapEntry, run_underlying ht, MapKept.run_getObj_map hb, K.check w false hkey, h1, hj, h3, K.stays w hkey, MapKept.run_setObj_map _ hb, Result.andThen, setBlock]
    have hv0 : v0 = e0.val := by
      rw [hr] at r1
      injection r1 with hp _
      injection hp with hp
      have := congrArg (fun a => a[0]?) hp
      simpa using this.symm
    subst hv0
    refine ⟨_, st, es1, clock1, r1, ?_, ?_, r4⟩
    · simp [Instr.lookup, run_underlying ht, MapKept.run_getObj_map hb, K.check w es.isEmpty hkey, h1, hz, Result.andThen]
    · have heq : (es.modify j fun e => { e with key }) = es.modify j fun e' => { e' with key := key, val := e0.val } := by
        apply Array.ext
        · simp
        · intro i hi1 hi2
          simp only [Array.getElem_modify]
          by_cases hij : j = i
          · subst hij
            have hlt : j < es.size := (Array.getElem?_eq_some_iff.1 hj).1
            have he : es[j] = e0 := (Array.getElem?_eq_some_iff.1 hj).2
            simp [he]
          · simp [hij]
      rw [hr] at r1
      injection r1 with _ hw
      rw [← hw, heq]
      simp [Instr.mapUpdate, run_underlying ht, MapKept.run_getObj_map hb, K.check w false hkey, h1, hj, h3, K.stays w hkey, MapKept.run_setObj_map _ hb, Result.andThen, setBlock]
end
theorem setN_self (f : ByteArray → Int → Int) (e : ByteArray) (v : Int) : setN f e v (f e v) = f := by
  funext e' v'
  unfold setN
  by_cases h : e' = e ∧ v' = v
  · rw [if_pos h, h.1, h.2]
  · rw [if_neg h]
theorem mapN_of {w w2 : World} {b n : Nat} {f : ByteArray → Int → Int} (h : MapN w b n f) (hb : w2.heap[b]? = w.heap[b]?) : MapN w2 b n f := by
  obtain ⟨D, ⟨es, clock, hh, hr⟩, h2⟩ := h
  exact ⟨D, ⟨es, clock, hb.trans hh, hr⟩, h2⟩
theorem set_grown {w : World} {b : Nat} {es : Array MapEntry} {clock : Nat} (hb : w.heap[b]? = some (.map es clock)) (o : Obj) : w.grownBy (setBlock w b o) (some b) := ⟨rfl, rfl, rfl, by simp [setBlock], fun i _ hi => heap_setBlock_other hb _ (fun e => hi (by rw [e]))⟩
set_option maxRecDepth 100000 in
/-- m[k]++: the place of a name, and what stands there afterwards. -/
theorem MapN.plus {w : World} {b n : Nat} {f : ByteArray → Int → Int} (h : MapN w b n f) (hn : n < maxLen) {e : ByteArray} {v : Int} (he : e.size ≤ maxLen) (hv : (Lit.int .i64 v).wf = true) :
    ∃ st w1, (Instr.mapEntry 83 (.map (some b)) (nameV e v)).run Try.prog w = .ok (.tuple #[.int .i64 (f e v), goInt st]) w1 ∧ MapN w1 b (n + 1) f ∧ w.grownBy w1 (some b) ∧
      ∀ (w2 : World) (c : Int), w2.heap[b]? = w1.heap[b]? → (Lit.int .i64 c).wf = true → ∃ w3, (Instr.entryStore 83 (.map (some b)) (goInt st) (.int .i64 c)).run Try.prog w2 = .ok () w3 ∧ MapN w3 b (n + 1) (setN f e v c) ∧ w2.grownBy w3 (some b) := by
  have hlook := h.look he hv
  have hup := fun c hc => h.update hn (c := c) he hv hc
  obtain ⟨D, ⟨es, clock, hh, F, hr⟩, h2⟩ := h
  obtain ⟨l, hl⟩ := keyN e v he hv
  obtain ⟨v0, st, es1, clock1, r1, r2, r3, r4⟩ := entry_mid lawN Try.underlying83 (z := .int .i64 0) zeroN hh F hl
  rw [hlook] at r2
  injection r2 with r2 _
  subst r2
  have hwf : (Lit.int .i64 (f e v)).wf = true := by
    obtain ⟨c, hrun, _, hc⟩ := World.ownsMap.lookup_int (H := Unit) (D := D) ⟨es, clock, hh, F, hr⟩ lawK Try.underlying83 Try.underlying3 (zeroN w) hl
    rw [hlook] at hrun
    injection hrun with h3 _
    injection h3 with _ h4
    rw [h4]
    exact hc
  have hlt : b < w.heap.size := blk_lt hh
  refine ⟨st, _, r1, ?_, set_grown hh _, fun w2 c hw2 hc => ?_⟩
  · obtain ⟨w', hrun, hm, _⟩ := hup (f e v) hwf
    rw [r3] at hrun
    injection hrun with _ hw
    rw [setN_self] at hm
    rw [hw]
    exact hm
  · have hw3 : w2.heap[b]? = some (.map es1 clock1) := hw2.trans (heap_setBlock_same hh _)
    obtain ⟨es', clock', r5, r6⟩ := r4 w2 (.int .i64 c) hw3
    obtain ⟨w', hrun, hm, _⟩ := hup c hc
    rw [r6] at hrun
    injection hrun with _ hw
    refine ⟨_, r5, mapN_of (w := setBlock w b (.map es' clock')) (hw ▸ hm) ?_, set_grown hw3 _⟩
    rw [heap_setBlock_same hw3, heap_setBlock_same hh]
end Go.Proofs.Ytdaikljbljcagaa.Mb
namespace Go.Proofs.Ytdaikljbljcagaa.Mc
open Go Go.RowKit Go.Proofs.Ytdaikljbljcagaa.PAll Go.Proofs.YtdaikljbljcagaaW.PrintWords Go.Proofs.YtdaikljbljcagaaW.PrintLast Go.Proofs.Ytdaikljbljcagaa.Hl Go.Proofs.Ytdaikljbljcagaa.Fv Go.Proofs.Ytdaikljbljcagaa.Ma
set_option linter.unusedSimpArgs false
set_option linter.unusedVariables false
/-- The names of some intents: each has 1. -/
def namesF (l : List S29) : ByteArray → Int → Int := l.foldl (fun f x => setN f x.f0 x.f1 1) (fun _ _ => 0)
theorem namesF_snoc (l : List S29) (x : S29) : namesF (l ++ [x]) = setN (namesF l) x.f0 x.f1 1 := by unfold namesF; rw [List.foldl_append]; rfl
theorem rd29_at (l : List S29) (i : Nat) (h : i < l.length) : rd_T29 l (i : Int) = l[i] := by
  unfold rd_T29
  rw [Int.toNat_natCast, List.getD_eq_getElem?_getD, List.getElem?_eq_getElem h]
  rfl
theorem one_wf : (Lit.int .i64 1).wf = true := by decide
/-- Entries and versions that a machine may hold. -/
def WfI (l : List S29) : Prop := ∀ x ∈ l, x.f0.size ≤ maxLen ∧ (Lit.int .i64 x.f1).wf = true
set_option maxHeartbeats 8000000 in
set_option maxRecDepth 100000 in
theorem names_v (w : World) (A : Option Addr) (c : Nat) (l : List S29) (hC : Kd.C k29 w A l.length l) (hwf : WfI l) :
    Calls Try.prog 53 #[.slice A l.length c] w fun en w' => ∃ b, en = .returned (.map (some b)) ∧ w.heap.size ≤ b ∧ MapN w' b l.length (namesF l) ∧ Below w.heap.size w w' := by
  have hmm := @run_makeMap Try.prog
  have hu29 := Try.underlying29
  have hu86 := Try.underlying86
  have mixed : Try.prog.follows Departure.mixedOrders = true := by kernel_rfl
  have HC := Aside0.mk hC
  have HW := Aside0.mk hwf
  have HLm := Aside0.mk (show l.length ≤ maxLen from hC.2.1)
  clear hC hwf
  go_enter Try.func53, Try.ntmps53
  go_wp2
  have HM0 := Aside0.mk (mapN_made w)
  have HB0 := Aside0.mk (below_alloc (Below.refl w.heap.size w) (.map #[] 0))
  obtain ⟨B, hB⟩ : ∃ B, w.heap.size = B := ⟨_, rfl⟩
  have LB := Aside0.mk (Nat.le_of_eq hB)
  rw [hB] at HM0 ⊢
  clear hB
  go_loopg [9] l.length (fun kq v9 wr => ∃ (j : Nat), v9 = .int .i64 (j : Int) ∧ Aside0 (j ≤ l.length ∧ l.length - j ≤ kq) ∧ Aside0 (MapN wr B j (namesF (l.take j))) ∧ Aside0 (Below w.heap.size w wr))
  case atStart => exact ⟨0, rfl, ⟨Nat.zero_le _, Nat.le_refl _⟩, HM0, HB0⟩
  case round =>
    obtain ⟨j, rfl, HI, HMr, HBr⟩ := hrel
    by_cases hlt : j < l.length
    · obtain ⟨ad, hA, hx⟩ := at_T29 (Kd.C_below HC.out HBr.out) (j : Int) (by omega) (by omega)
      rw [rd29_at l j hlt, Int.toNat_natCast] at hx
      obtain ⟨p_, hp_⟩ : ∃ p_, p_ = l[j] := ⟨_, rfl⟩
      have HS := Aside0.mk (show namesF (l.take (j + 1)) = setN (namesF (l.take j)) p_.f0 p_.f1 1 by rw [List.take_add_one, List.getElem?_eq_getElem hlt, Option.toList_some, namesF_snoc, hp_])
      have WE := Aside0.mk (show p_.f0.size ≤ maxLen by rw [hp_]; exact (HW.out _ (List.getElem_mem hlt)).1)
      have WV := Aside0.mk (show (Lit.int .i64 p_.f1).wf = true by rw [hp_]; exact (HW.out _ (List.getElem_mem hlt)).2)
      rw [← hp_] at hx
      obtain ⟨hx0, hx1, hx2⟩ := hx
      have q1 : decide ((j : Int) < (l.length : Int)) = true := decide_eq_true (by omega)
      have q2 : (j : Int) < (l.length : Int) := by omega
      have LJ := Aside0.mk (show j < maxLen from Nat.lt_of_lt_of_le hlt HLm.out)
      have HIL := Aside0.mk (show j < l.length from hlt)
      subst hA
      clear hp_ hlt
      go_upto_region 5 with (first
        | ((with_reducible refine gate_dst (N := 5) rfl ?_); refine box_event ?hg (N := 5) ?hd (cs := #[.string (⟨#[]⟩ : ByteArray), .int .i64 0, .bool false]) (t := 29) ?hr ?_; (case hd => rfl); (case hg => rfl); (case hr => first | (go_simp; done) | (go_simp; rfl)); intro g5 hg_ wA hbox_ hb_; have LG5 := Aside0.mk (show wr.heap.size ≤ g5 by omega); have BXa := Aside0.mk hbox_; have HBa := Aside0.mk (below_step HBr.out hb_); have HMa := Aside0.mk (HMr.out.below hb_); have yx0 := blk_frozen BXa.out 0; have zx0 : wA.cell? ⟨g5, 0, none⟩ = some (.string (⟨#[]⟩ : ByteArray)) := (blk_cell BXa.out 0).trans rfl; have yx1 := blk_frozen BXa.out 1; have zx1 : wA.cell? ⟨g5, 1, none⟩ = some (.int .i64 0) := (blk_cell BXa.out 1).trans rfl; have yx2 := blk_frozen BXa.out 2; have zx2 : wA.cell? ⟨g5, 2, none⟩ = some (.bool false) := (blk_cell BXa.out 2).trans rfl; clear hb_ hbox_ hg_))
      have LW5 := Aside0.mk (show w.heap.size ≤ g5 from Nat.le_trans HBr.out.size LG5.out)
      have N5 := Aside0.mk (show B ≠ g5 from Nat.ne_of_lt (Nat.lt_of_lt_of_le HMr.out.lt LG5.out))
      have BXb := Aside0.mk (blk_put (cs' := #[.string p_.f0, .int .i64 p_.f1, .bool p_.f2]) (blk_put (cs' := #[.string p_.f0, .int .i64 p_.f1, .bool false]) (blk_put (cs' := #[.string p_.f0, .int .i64 0, .bool false]) BXa.out 0 (.string p_.f0) rfl) 1 (.int .i64 p_.f1) rfl) 2 (.bool p_.f2) rfl)
      have HBb := Aside0.mk (Below.setCell (Below.setCell (Below.setCell HBa.out (p := ⟨g5, 0, none⟩) LW5.out (.string p_.f0)) (p := ⟨g5, 1, none⟩) LW5.out (.int .i64 p_.f1)) (p := ⟨g5, 2, none⟩) LW5.out (.bool p_.f2))
      have HMb := Aside0.mk (MapN.far (MapN.far (MapN.far HMa.out (p := ⟨g5, 0, none⟩) N5.out (.string p_.f0)) (p := ⟨g5, 1, none⟩) N5.out (.int .i64 p_.f1)) (p := ⟨g5, 2, none⟩) N5.out (.bool p_.f2))
      obtain ⟨wB, hw_⟩ : ∃ u, (((wA.setCell ⟨g5, 0, none⟩ (.string p_.f0)).setCell ⟨g5, 1, none⟩ (.int .i64 p_.f1)).setCell ⟨g5, 2, none⟩ (.bool p_.f2)) = u := ⟨_, rfl⟩
      rw [hw_] at BXb HBb HMb ⊢
      clear hw_ yx0 yx1 yx2 zx0 zx1 zx2 hx0 hx1 hx2
      have zl0 : wB.cell? ⟨g5, 0, none⟩ = some (.string p_.f0) := (blk_cell BXb.out 0).trans rfl
      have zl1 : wB.cell? ⟨g5, 1, none⟩ = some (.int .i64 p_.f1) := (blk_cell BXb.out 1).trans rfl
      have zl2 : wB.cell? ⟨g5, 2, none⟩ = some (.bool p_.f2) := (blk_cell BXb.out 2).trans rfl
      go_wp2_with (first
        | ((with_reducible refine gate_callee (f := 55) rfl ?_); refine goesL_ (some 15) rfl rfl Try.func55 (by kernel_rfl) rfl #[.agg #[.string p_.f0, .int .i64 p_.f1, .bool p_.f2]] rfl (by (try simp only [List.map_toArray, List.map_cons, List.map_nil]); first | done | rfl) ?_; (refine (outbox_of.calls p_.f0 p_.f1 p_.f2 p_.f0 p_.f1 _ rfl).mono ?_); rintro en wq ⟨rfl, hb_⟩; refine ⟨_, rfl, ?_⟩; have HBq := Aside0.mk (below_step HBb.out hb_); obtain ⟨w3, hrun_, hM_, hg_⟩ := MapN.update (HMb.out.below hb_) LJ.out WE.out WV.out (c := 1) one_wf; have hrun : (Instr.mapUpdate 83 (.map (some B)) (.agg #[.string p_.f0, .int .i64 p_.f1]) (.int .i64 1)).run Try.prog wq = .ok () w3 := hrun_; have HM3 := Aside0.mk hM_; have HB3 := Aside0.mk (Below.grown HBq.out hg_ HBq.out.size (fun k_ hk_ => by injection hk_ with hk_; exact hk_ ▸ LB.out)); clear hb_ hg_ hM_ hrun_))
      go_roundg (l.length - (j + 1))
      case measure => have := HI.out.2; have := HIL.out; omega
      case rel => exact ⟨j + 1, by first | rfl | (congr 1; exact Go.IntWalk.wrap64_in _ (by have h1 := HLm.out; have h2 := HIL.out; unfold maxLen at h1; omega)), ⟨HIL.out, Nat.le_refl _⟩, ⟨by rw [HS.out]; exact HM3.out⟩, HB3⟩
    · obtain rfl : j = l.length := by have := HI.out.1; omega
      have q1 : decide ((l.length : Int) < (l.length : Int)) = false := decide_eq_false (by omega)
      have HMe := HMr
      have HBe := HBr
      clear hlt HI HM0 HB0
      go_wp2
      go_ret
      exact ⟨B, rfl, LB.out, by have := HMe.out; rwa [List.take_length] at this, HBe.out⟩
end Go.Proofs.Ytdaikljbljcagaa.Mc
namespace Go.Proofs.Ytdaikljbljcagaa.Md
open Go Go.RowKit Go.Proofs.Ytdaikljbljcagaa.PAll Go.Proofs.YtdaikljbljcagaaW.PrintWords Go.Proofs.YtdaikljbljcagaaW.PrintLast Go.Proofs.Ytdaikljbljcagaa.Hl Go.Proofs.Ytdaikljbljcagaa.Fv Go.Proofs.Ytdaikljbljcagaa.Ma Go.Proofs.Ytdaikljbljcagaa.Mb Go.Proofs.Ytdaikljbljcagaa.Mc Go.Proofs.Ytdaikljbljcagaa.Dr
set_option linter.unusedSimpArgs false
set_option linter.unusedVariables false
def ops5 : Array Oper := #[{ dst := some 14, op := Op.move (Operand.tmp 1), type := 83, pos := "outbox.go:39", after := #[], guard := none }, { dst := some 15, op := Op.load 29 (Operand.tmp 7), type := 29, pos := "outbox.go:39", after := #[], guard := none }, { dst := some 16, op := Op.call { callee := Callee.value (Operand.func 55), args := #[Operand.tmp 15], argTypes := #[29] }, type := 86, pos := "outbox.go:39", after := #[{ on := 1, ground := Ground.data }], guard := none }, { dst := some 17, op := Op.lookup 83 (Operand.tmp 14) (Operand.tmp 16) false, type := 3, pos := "outbox.go:39", after := #[{ on := 0, ground := Ground.data }, { on := 2, ground := Ground.data }], guard := none }, { dst := some 18, op := Op.binOp BinOp.add 3 (Operand.tmp 17) (Operand.const (Value.int IntKind.i64 1)) 3, type := 3, pos := "outbox.go:39", after := #[{ on := 3, ground := Ground.data }], guard := none }, { dst := some 19, op := Op.mapEntry 83 (Operand.tmp 14) (Operand.tmp 16), type := 0, pos := "outbox.go:39", after := #[{ on := 0, ground := Ground.data }, { on := 2, ground := Ground.data }, { on := 2, ground := Ground.chain }, { on := 0, ground := Ground.phase }, { on := 1, ground := Ground.phase }, { on := 2, ground := Ground.phase }, { on := 3, ground := Ground.textOnly Departure.mapOpAssignEntry }, { on := 4, ground := Ground.textOnly Departure.mapOpAssignEntry }], guard := none }, { dst := some 20, op := Op.extract (Operand.tmp 19) 1, type := 3, pos := "outbox.go:39", after := #[{ on := 5, ground := Ground.data }], guard := none }, { dst := none, op := Op.entryStore 83 (Operand.tmp 14) (Operand.tmp 20) (Operand.tmp 18), type := 0, pos := "outbox.go:39", after := #[{ on := 0, ground := Ground.data }, { on := 6, ground := Ground.data }, { on := 4, ground := Ground.data }, { on := 5, ground := Ground.chain }, { on := 0, ground := Ground.phase }, { on := 1, ground := Ground.phase }, { on := 2, ground := Ground.phase }, { on := 3, ground := Ground.phase }, { on := 4, ground := Ground.phase }, { on := 5, ground := Ground.phase }, { on := 6, ground := Ground.phase }], guard := none }]
/-- What stands beneath the map's block, turned or not. -/
structure J5 (W : World) (B n : Nat) (f : ByteArray → Int → Int) (p : S29) (E0 : Nat → Value) (st : Int) (L : Nat → Bool) (E : Nat → Value) (w : World) : Prop where
  fr : ∀ t, t ≠ 14 → t ≠ 15 → t ≠ 16 → t ≠ 17 → t ≠ 18 → t ≠ 19 → t ≠ 20 → E t = E0 t
  ht : Turned B W w
  e43 : L 4 = true → L 3 = true
  e65 : L 6 = true → L 5 = true
  e74 : L 7 = true → L 4 = true
  e76 : L 7 = true → L 6 = true
  h0 : L 0 = true → E 14 = .map (some B)
  h1 : L 1 = true → E 15 = .agg #[.string p.f0, .int .i64 p.f1, .bool p.f2]
  h2 : L 2 = true → E 16 = nameV p.f0 p.f1
  h3 : L 3 = true → E 17 = .int .i64 (f p.f0 p.f1)
  h4 : L 4 = true → E 18 = .int .i64 (wrap64 (f p.f0 p.f1 + 1))
  h5 : L 5 = true → E 19 = .tuple #[.int .i64 (f p.f0 p.f1), goInt st]
  h6 : L 6 = true → E 20 = goInt st
  m0 : L 5 = false → MapN w B n f
  m5 : L 5 = true → L 7 = false → MapN w B (n + 1) f ∧ ∀ (w2 : World) (c : Int), w2.heap[B]? = w.heap[B]? → (Lit.int .i64 c).wf = true → ∃ w3, (Instr.entryStore 83 (.map (some B)) (goInt st) (.int .i64 c)).run Try.prog w2 = .ok () w3 ∧ MapN w3 B (n + 1) (setN f p.f0 p.f1 c) ∧ w2.grownBy w3 (some B)
  m7 : L 7 = true → MapN w B (n + 1) (setN f p.f0 p.f1 (wrap64 (f p.f0 p.f1 + 1)))
section
variable {W : World} {B n : Nat} {f : ByteArray → Int → Int} {p : S29} {E0 : Nat → Value} {st : Int} {L : Nat → Bool} {E : Nat → Value} {w w1 : World}
theorem fr_up5 (H : J5 W B n f p E0 st L E w) {s : Nat} (hs : s = 14 ∨ s = 15 ∨ s = 16 ∨ s = 17 ∨ s = 18 ∨ s = 19 ∨ s = 20) (v : Value) : ∀ t, t ≠ 14 → t ≠ 15 → t ≠ 16 → t ≠ 17 → t ≠ 18 → t ≠ 19 → t ≠ 20 → up E s v t = E0 t := by
  intro t h1 h2 h3 h4 h5 h6 h7
  show (if t = s then v else E t) = _
  rw [if_neg (by omega)]
  exact H.fr t h1 h2 h3 h4 h5 h6 h7
theorem J5.later (H : J5 W B n f p E0 st L E w) (hb : Below w.heap.size w w1) (hB : B < w.heap.size) : J5 W B n f p E0 st L E w1 :=
  have e : w1.heap[B]? = w.heap[B]? := hb.block B hB
  ⟨H.fr, H.ht.trans (Turned.of_below hb), H.e43, H.e65, H.e74, H.e76, H.h0, H.h1, H.h2, H.h3, H.h4, H.h5, H.h6, fun h => (H.m0 h).below hb, fun h h7 => ⟨(H.m5 h h7).1.below hb, fun w2 c h2 hc => (H.m5 h h7).2 w2 c (h2.trans e) hc⟩, fun h => (H.m7 h).below hb⟩
theorem J5.s0 (H : J5 W B n f p E0 st L E w) : J5 W B n f p E0 st (up L 0 true) (up E 14 (.map (some B))) w :=
  ⟨fr_up5 H (by decide) _, H.ht, H.e43, H.e65, H.e74, H.e76, fun _ => rfl, H.h1, H.h2, H.h3, H.h4, H.h5, H.h6, H.m0, H.m5, H.m7⟩
theorem J5.s1 (H : J5 W B n f p E0 st L E w) : J5 W B n f p E0 st (up L 1 true) (up E 15 (.agg #[.string p.f0, .int .i64 p.f1, .bool p.f2])) w :=
  ⟨fr_up5 H (by decide) _, H.ht, H.e43, H.e65, H.e74, H.e76, H.h0, fun _ => rfl, H.h2, H.h3, H.h4, H.h5, H.h6, H.m0, H.m5, H.m7⟩
theorem J5.s2 (H : J5 W B n f p E0 st L E w) : J5 W B n f p E0 st (up L 2 true) (up E 16 (nameV p.f0 p.f1)) w :=
  ⟨fr_up5 H (by decide) _, H.ht, H.e43, H.e65, H.e74, H.e76, H.h0, H.h1, fun _ => rfl, H.h3, H.h4, H.h5, H.h6, H.m0, H.m5, H.m7⟩
theorem J5.s3 (H : J5 W B n f p E0 st L E w) : J5 W B n f p E0 st (up L 3 true) (up E 17 (.int .i64 (f p.f0 p.f1))) w :=
  ⟨fr_up5 H (by decide) _, H.ht, fun _ => rfl, H.e65, H.e74, H.e76, H.h0, H.h1, H.h2, fun _ => rfl, H.h4, H.h5, H.h6, H.m0, H.m5, H.m7⟩
theorem J5.s4 (H : J5 W B n f p E0 st L E w) (h3 : L 3 = true) : J5 W B n f p E0 st (up L 4 true) (up E 18 (.int .i64 (wrap64 (f p.f0 p.f1 + 1)))) w :=
  ⟨fr_up5 H (by decide) _, H.ht, fun _ => h3, H.e65, fun _ => rfl, H.e76, H.h0, H.h1, H.h2, H.h3, fun _ => rfl, H.h5, H.h6, H.m0, H.m5, H.m7⟩
theorem turned_grown {W w w1 : World} {B : Nat} (h : Turned B W w) (hg : w.grownBy w1 (some B)) : Turned B W w1 := by
  refine h.trans ⟨hg.os, hg.tape, hg.output, hg.size, fun k hk hne => hg.block k hk (fun e => hne (by injection e))⟩
theorem J5.s5 (H : J5 W B n f p E0 st L E w) (hn : L 5 = false) {st' : Int} (hm : MapN w1 B (n + 1) f) (hg : w.grownBy w1 (some B))
    (hs : ∀ (w2 : World) (c : Int), w2.heap[B]? = w1.heap[B]? → (Lit.int .i64 c).wf = true → ∃ w3, (Instr.entryStore 83 (.map (some B)) (goInt st') (.int .i64 c)).run Try.prog w2 = .ok () w3 ∧ MapN w3 B (n + 1) (setN f p.f0 p.f1 c) ∧ w2.grownBy w3 (some B)) :
    J5 W B n f p E0 st' (up L 5 true) (up E 19 (.tuple #[.int .i64 (f p.f0 p.f1), goInt st'])) w1 :=
  have n6 : L 6 ≠ true := fun h => by have := H.e65 h; rw [hn] at this; cases this
  have n7 : L 7 ≠ true := fun h => n6 (H.e76 h)
  ⟨fr_up5 H (by decide) _, turned_grown H.ht hg, H.e43, fun _ => rfl, H.e74, H.e76, H.h0, H.h1, H.h2, H.h3, H.h4, fun _ => rfl, fun h => absurd h n6, fun h => (by cases h), fun _ _ => ⟨hm, hs⟩, fun h => absurd h n7⟩
theorem J5.s6 (H : J5 W B n f p E0 st L E w) (h5 : L 5 = true) : J5 W B n f p E0 st (up L 6 true) (up E 20 (goInt st)) w :=
  ⟨fr_up5 H (by decide) _, H.ht, H.e43, fun _ => h5, H.e74, fun _ => rfl, H.h0, H.h1, H.h2, H.h3, H.h4, H.h5, fun _ => rfl, H.m0, H.m5, H.m7⟩
theorem J5.s7 (H : J5 W B n f p E0 st L E w) (h4 : L 4 = true) (h6 : L 6 = true) (hm : MapN w1 B (n + 1) (setN f p.f0 p.f1 (wrap64 (f p.f0 p.f1 + 1)))) (hg : w.grownBy w1 (some B)) : J5 W B n f p E0 st (up L 7 true) E w1 :=
  have l5 := H.e65 h6
  ⟨H.fr, turned_grown H.ht hg, H.e43, H.e65, fun _ => h4, fun _ => h6, H.h0, H.h1, H.h2, H.h3, H.h4, H.h5, H.h6, fun h => (by have h : L 5 = false := h; rw [l5] at h; cases h), fun _ h => (by cases h), fun _ => hm⟩
end
theorem put_defers (f : Act) (d : Option Tmp) (v : Value) : (f.put d v).defers = f.defers := by cases d <;> rfl
theorem chain5 {a0 q : Act} {B : Nat} {st : Int} {f : ByteArray → Int → Int} {p : S29} (hsz : 20 < a0.tmps.size) (hts : q.tmps.size = a0.tmps.size) (hdf : q.defers = a0.defers) (hfr : ∀ t, t ≠ 14 → t ≠ 15 → t ≠ 16 → t ≠ 17 → t ≠ 18 → t ≠ 19 → t ≠ 20 → q.tmps.getD t undef = a0.tmps.getD t undef)
    (v14 : q.tmps.getD 14 undef = .map (some B)) (v15 : q.tmps.getD 15 undef = .agg #[.string p.f0, .int .i64 p.f1, .bool p.f2]) (v16 : q.tmps.getD 16 undef = nameV p.f0 p.f1) (v17 : q.tmps.getD 17 undef = .int .i64 (f p.f0 p.f1)) (v18 : q.tmps.getD 18 undef = .int .i64 (wrap64 (f p.f0 p.f1 + 1))) (v19 : q.tmps.getD 19 undef = .tuple #[.int .i64 (f p.f0 p.f1), goInt st]) (v20 : q.tmps.getD 20 undef = goInt st) :
    q = (((((((a0.put (some 14) (.map (some B))).put (some 15) (.agg #[.string p.f0, .int .i64 p.f1, .bool p.f2])).put (some 16) (nameV p.f0 p.f1)).put (some 17) (.int .i64 (f p.f0 p.f1))).put (some 18) (.int .i64 (wrap64 (f p.f0 p.f1 + 1)))).put (some 19) (.tuple #[.int .i64 (f p.f0 p.f1), goInt st])).put (some 20) (goInt st)) := by
  refine act_ext (by simp only [put_size]; exact hts) (by simp only [put_defers]; exact hdf) (fun t => ?_)
  have e := congrFun (ev_up (f := ((((((a0.put (some 14) (.map (some B))).put (some 15) (.agg #[.string p.f0, .int .i64 p.f1, .bool p.f2])).put (some 16) (nameV p.f0 p.f1)).put (some 17) (.int .i64 (f p.f0 p.f1))).put (some 18) (.int .i64 (wrap64 (f p.f0 p.f1 + 1)))).put (some 19) (.tuple #[.int .i64 (f p.f0 p.f1), goInt st]))) (s := 20) (by simp only [put_size]; omega) (goInt st)) t
  rw [ev_up (by simp only [put_size]; omega), ev_up (by simp only [put_size]; omega), ev_up (by simp only [put_size]; omega), ev_up (by simp only [put_size]; omega), ev_up (by simp only [put_size]; omega), ev_up (by omega)] at e
  refine Eq.trans ?_ e.symm
  unfold Dr.up
  by_cases h20 : t = 20
  · rw [if_pos h20, h20]; exact v20
  by_cases h19 : t = 19
  · rw [if_neg h20, if_pos h19, h19]; exact v19
  by_cases h18 : t = 18
  · rw [if_neg h20, if_neg h19, if_pos h18, h18]; exact v18
  by_cases h17 : t = 17
  · rw [if_neg h20, if_neg h19, if_neg h18, if_pos h17, h17]; exact v17
  by_cases h16 : t = 16
  · rw [if_neg h20, if_neg h19, if_neg h18, if_neg h17, if_pos h16, h16]; exact v16
  by_cases h15 : t = 15
  · rw [if_neg h20, if_neg h19, if_neg h18, if_neg h17, if_neg h16, if_pos h15, h15]; exact v15
  by_cases h14 : t = 14
  · rw [if_neg h20, if_neg h19, if_neg h18, if_neg h17, if_neg h16, if_neg h15, if_pos h14, h14]; exact v14
  rw [if_neg h20, if_neg h19, if_neg h18, if_neg h17, if_neg h16, if_neg h15, if_neg h14]
  exact hfr t h14 h15 h16 h17 h18 h19 h20
theorem wrapEq (x : Int) : IntKind.i64.wrap x = wrap64 x := by rw [IntKind.wrap_i64]; unfold wrap64; first | rfl | omega
def Inv5 (W : World) (B n : Nat) (f : ByteArray → Int → Int) (p : S29) (a0 : Act) (l : Array Bool) (q : Act) (w : World) : Prop :=
  l.size = 8 ∧ q.tmps.size = a0.tmps.size ∧ q.defers = a0.defers ∧ ∃ st, J5 W B n f p (fun t => a0.tmps.getD t undef) st (fun j => l.getD j false) (fun t => q.tmps.getD t undef) w
set_option maxHeartbeats 16000000 in
theorem region5 {Q : Exit → Act → World → Prop} {a0 : Act} {W : World} {B n g7 : Nat} {f : ByteArray → Int → Int} {p : S29} (hsz : 20 < a0.tmps.size) (e1 : a0.eval (.tmp 1) = .map (some B)) (e7 : a0.eval (.tmp 7) = .pointer (some ⟨g7, 0, none⟩))
    (hX : W.heap[g7]? = some (.cells #[.string p.f0, .int .i64 p.f1, .bool p.f2] 29 (0, 0))) (hne : g7 ≠ B) (hM : MapN W B n f) (hn : n < maxLen) (he : p.f0.size ≤ maxLen) (hv : (Lit.int .i64 p.f1).wf = true)
    (hK : ∀ (w : World) (st : Int), Turned B W w → MapN w B (n + 1) (setN f p.f0 p.f1 (wrap64 (f p.f0 p.f1 + 1))) → Q .normal (((((((a0.put (some 14) (.map (some B))).put (some 15) (.agg #[.string p.f0, .int .i64 p.f1, .bool p.f2])).put (some 16) (nameV p.f0 p.f1)).put (some 17) (.int .i64 (f p.f0 p.f1))).put (some 18) (.int .i64 (wrap64 (f p.f0 p.f1 + 1)))).put (some 19) (.tuple #[.int .i64 (f p.f0 p.f1), goInt st])).put (some 20) (goInt st)) w) :
    (Code.region 5 ops5 true).wp Try.prog Q a0 W := by
  have hmix : Try.prog.follows Departure.mixedOrders = true := by kernel_rfl
  have hlt : B < W.heap.size := hM.lt
  refine wp_region_any hmix (wpAny_inv (ops := ops5) (Inv5 W B n f p a0) (fun l f w h => h.1) ?_ ?_ ops5.size _ a0 W.drew ?_ ?_)
  · rintro l q w ⟨hl, hts, hdf, st, H⟩ i hi
    obtain ⟨hn1, o, ho, hpre⟩ := mem_ready.1 hi
    have hn2 := not_listed hn1
    have hi8 : i < 8 := (Array.getElem?_eq_some_iff.1 ho).1
    have pre : ∀ (j : Nat) (e : Edge), o.after[j]? = some e → Region.binds .any e = true → l.getD e.on false = true := fun j e h1 h3 => hpre e (Array.mem_of_getElem? h1) h3
    have q1 : q.eval (.tmp 1) = .map (some B) := (H.fr 1 (by decide) (by decide) (by decide) (by decide) (by decide) (by decide) (by decide)).trans e1
    have q7 : q.eval (.tmp 7) = .pointer (some ⟨g7, 0, none⟩) := (H.fr 7 (by decide) (by decide) (by decide) (by decide) (by decide) (by decide) (by decide)).trans e7
    have hBw : B < w.heap.size := Nat.lt_of_lt_of_le hlt H.ht.size
    match i, hi8 with
    | 0, _ =>
      refine wpOp_val (o := ops5[0]) rfl rfl (v := .map (some B)) (w1 := w) (by show (execOp q.eval { dst := some 14, op := .move (.tmp 1), type := 83, pos := _, after := _, guard := none }).run Try.prog w = _; simp [execOp, q1]) ⟨by simpa using hl, (put_size ..).trans hts, hdf, st, ?_⟩
      change J5 _ _ _ _ _ _ _ _ (fun t => (q.put (some 14) _).tmps.getD t undef) _
      rw [li_up (by omega), ev_up (by omega)]
      exact H.s0
    | 1, _ =>
      refine wpOp_some (o := ops5[1]) rfl rfl (wp_load_row 29 (.tmp 7) rfl g7 q7 29 _ (0, 0) _ (H.ht.blk hX hne) Try.underlying29 rfl (by kernel_rfl) ⟨by simpa using hl, (put_size ..).trans hts, hdf, st, ?_⟩)
      change J5 _ _ _ _ _ _ _ _ (fun t => (q.put (some 15) _).tmps.getD t undef) _
      rw [li_up (by omega), ev_up (by omega)]
      exact H.s1
    | 2, _ =>
      obtain rfl := Option.some.inj (show some ops5[2] = some o from ho)
      have l1 := pre 0 _ rfl rfl
      refine wpOp_call (o := ops5[2]) rfl rfl Try.func55 (by kernel_rfl) rfl #[.agg #[.string p.f0, .int .i64 p.f1, .bool p.f2]] rfl (by simp only [List.map_toArray, List.map_cons, List.map_nil]; rw [show q.eval (.tmp 15) = _ from H.h1 l1]) ?_
      refine (outbox_of.calls p.f0 p.f1 p.f2 p.f0 p.f1 w rfl).mono ?_
      rintro en w1 ⟨rfl, hb⟩
      refine ⟨_, rfl, by simpa using hl, (put_size ..).trans hts, hdf, st, ?_⟩
      change J5 _ _ _ _ _ _ _ _ (fun t => (q.put (some 16) _).tmps.getD t undef) _
      rw [li_up (by omega), ev_up (by omega)]
      exact (H.later hb hBw).s2
    | 3, _ =>
      obtain rfl := Option.some.inj (show some ops5[3] = some o from ho)
      have l0 := pre 0 _ rfl rfl
      have l2 := pre 1 _ rfl rfl
      have l7 : l.getD 7 false = false := by
        cases h : l.getD 7 false with
        | false => rfl
        | true => exact absurd (H.e43 (H.e74 h)) hn2
      have hlook : (Instr.lookup 83 (.map (some B)) (nameV p.f0 p.f1) false).run Try.prog w = .ok (.int .i64 (f p.f0 p.f1)) w := by
        cases h5 : l.getD 5 false with
        | false => exact (H.m0 h5).look he hv
        | true => exact (H.m5 h5 l7).1.look he hv
      have q14 : q.eval (.tmp 14) = .map (some B) := H.h0 l0
      have q16 : q.eval (.tmp 16) = nameV p.f0 p.f1 := H.h2 l2
      refine wpOp_val (o := ops5[3]) rfl rfl (v := .int .i64 (f p.f0 p.f1)) (w1 := w) (by show (execOp q.eval { dst := some 17, op := .lookup 83 (.tmp 14) (.tmp 16) false, type := 3, pos := _, after := _, guard := none }).run Try.prog w = _; simp [execOp, q14, q16, hlook]) ⟨by simpa using hl, (put_size ..).trans hts, hdf, st, ?_⟩
      change J5 _ _ _ _ _ _ _ _ (fun t => (q.put (some 17) _).tmps.getD t undef) _
      rw [li_up (by omega), ev_up (by omega)]
      exact H.s3
    | 4, _ =>
      obtain rfl := Option.some.inj (show some ops5[4] = some o from ho)
      have l3 := pre 0 _ rfl rfl
      have q17 : q.eval (.tmp 17) = .int .i64 (f p.f0 p.f1) := H.h3 l3
      have q17b : q.tmps[17]?.getD undef = .int .i64 (f p.f0 p.f1) := by have h := q17; simpa [Act.eval] using h
      refine wpOp_val (o := ops5[4]) rfl rfl (v := .int .i64 (wrap64 (f p.f0 p.f1 + 1))) (w1 := w) (by show (execOp q.eval { dst := some 18, op := .binOp .add 3 (.tmp 17) (.const (.int .i64 1)) 3, type := 3, pos := _, after := _, guard := none }).run Try.prog w = _; first | (go_simp; done) | (go_simp; rfl) | (go_simp; exact wrapEq _)) ⟨by simpa using hl, (put_size ..).trans hts, hdf, st, ?_⟩
      change J5 _ _ _ _ _ _ _ _ (fun t => (q.put (some 18) _).tmps.getD t undef) _
      rw [li_up (by omega), ev_up (by omega)]
      exact H.s4 l3
    | 5, _ =>
      obtain rfl := Option.some.inj (show some ops5[5] = some o from ho)
      have l0 := pre 0 _ rfl rfl
      have l2 := pre 1 _ rfl rfl
      have l5 : l.getD 5 false = false := by
        cases h : l.getD 5 false with
        | false => rfl
        | true => exact absurd h hn2
      have q14 : q.eval (.tmp 14) = .map (some B) := H.h0 l0
      have q16 : q.eval (.tmp 16) = nameV p.f0 p.f1 := H.h2 l2
      obtain ⟨st', w1, hrun, hm, hg, hs⟩ := Mb.MapN.plus (H.m0 l5) hn he hv
      refine wpOp_val (o := ops5[5]) rfl rfl (v := .tuple #[.int .i64 (f p.f0 p.f1), goInt st']) (w1 := w1) (by show (execOp q.eval { dst := some 19, op := .mapEntry 83 (.tmp 14) (.tmp 16), type := 0, pos := _, after := _, guard := none }).run Try.prog w = _; simp [execOp, q14, q16, hrun]) ⟨by simpa using hl, (put_size ..).trans hts, hdf, st', ?_⟩
      change J5 _ _ _ _ _ _ _ _ (fun t => (q.put (some 19) _).tmps.getD t undef) _
      rw [li_up (by omega), ev_up (by omega)]
      exact H.s5 l5 hm hg hs
    | 6, _ =>
      obtain rfl := Option.some.inj (show some ops5[6] = some o from ho)
      have l5 := pre 0 _ rfl rfl
      have q19 : q.eval (.tmp 19) = .tuple #[.int .i64 (f p.f0 p.f1), goInt st] := H.h5 l5
      have q19b : q.tmps[19]?.getD undef = .tuple #[.int .i64 (f p.f0 p.f1), goInt st] := by have h := q19; simpa [Act.eval] using h
      refine wpOp_val (o := ops5[6]) rfl rfl (v := goInt st) (w1 := w) (by show (execOp q.eval { dst := some 20, op := .extract (.tmp 19) 1, type := 3, pos := _, after := _, guard := none }).run Try.prog w = _; first | (simp [execOp, q19]; done) | (go_simp; done) | (go_simp; rfl)) ⟨by simpa using hl, (put_size ..).trans hts, hdf, st, ?_⟩
      change J5 _ _ _ _ _ _ _ _ (fun t => (q.put (some 20) _).tmps.getD t undef) _
      rw [li_up (by omega), ev_up (by omega)]
      exact H.s6 l5
    | 7, _ =>
      obtain rfl := Option.some.inj (show some ops5[7] = some o from ho)
      have l0 := pre 0 _ rfl rfl
      have l6 := pre 1 _ rfl rfl
      have l4 := pre 2 _ rfl rfl
      have l7 : l.getD 7 false = false := by
        cases h : l.getD 7 false with
        | false => rfl
        | true => exact absurd h hn2
      have q14 : q.eval (.tmp 14) = .map (some B) := H.h0 l0
      have q18 : q.eval (.tmp 18) = .int .i64 (wrap64 (f p.f0 p.f1 + 1)) := H.h4 l4
      have q20 : q.eval (.tmp 20) = goInt st := H.h6 l6
      obtain ⟨w3, hrun, hm, hg⟩ := (H.m5 (H.e65 l6) l7).2 w (wrap64 (f p.f0 p.f1 + 1)) rfl (wrap64_wf _)
      refine wpOp_some (o := ops5[7]) rfl rfl ?_
      unfold Oper.wp
      have hr : (execOp q.eval ops5[7]).run Try.prog w = .ok .skip w3 := by
        show (execOp q.eval { dst := none, op := .entryStore 83 (.tmp 14) (.tmp 20) (.tmp 18), type := 0, pos := _, after := _, guard := none }).run Try.prog w = _
        simp [execOp, q14, q18, q20, hrun]
      rw [hr]
      refine ⟨by simpa using hl, hts, hdf, st, ?_⟩
      show J5 _ _ _ _ _ _ _ (fun j => (l.setIfInBounds 7 true).getD j false) (fun t => q.tmps.getD t undef) w3
      rw [li_up (by omega)]
      exact H.s7 l4 l6 hm hg
  · rintro l q w ⟨hl, hts, hdf, st, H⟩ h0
    have r : ∀ (j : Nat) (o : Oper), ops5[j]? = some o → (∀ e ∈ o.after, l.getD e.on false = true) → l.getD j false = true := by
      intro j o ho he
      have hj : j < l.size := by rw [hl]; exact (Array.getElem?_eq_some_iff.1 ho).1
      cases hb : l.getD j false with
      | true => rfl
      | false =>
        have h1 : l.getD j true = false := by simp [hj] at hb ⊢; exact hb
        have := (mem_ready (md := .any) (ops := ops5)).2 ⟨h1, o, ho, fun e h _ => he e h⟩
        rw [h0] at this
        cases this
    have l0 := r 0 ops5[0] rfl (by intro e h; simp [ops5] at h)
    have l1 := r 1 ops5[1] rfl (by intro e h; simp [ops5] at h)
    have l2 := r 2 ops5[2] rfl (by intro e h; simp [ops5] at h; subst h; exact l1)
    have l3 := r 3 ops5[3] rfl (by intro e h; simp [ops5] at h; rcases h with rfl | rfl <;> assumption)
    have l4 := r 4 ops5[4] rfl (by intro e h; simp [ops5] at h; subst h; exact l3)
    have l5 := r 5 ops5[5] rfl (by intro e h; simp [ops5] at h; rcases h with rfl | rfl | rfl | rfl | rfl | rfl | rfl | rfl <;> assumption)
    have l6 := r 6 ops5[6] rfl (by intro e h; simp [ops5] at h; subst h; exact l5)
    have l7 := r 7 ops5[7] rfl (by intro e h; simp [ops5] at h; rcases h with rfl | rfl | rfl | rfl | rfl | rfl | rfl | rfl | rfl | rfl | rfl <;> assumption)
    have hf := chain5 (f := f) (p := p) hsz hts hdf H.fr (H.h0 l0) (H.h1 l1) (H.h2 l2) (H.h3 l3) (H.h4 l4) (H.h5 l5) (H.h6 l6)
    rw [hf]
    exact hK w st H.ht (H.m7 l7)
  · exact ⟨rfl, rfl, rfl, 0, ⟨fun _ _ _ _ _ _ _ _ => rfl, Turned.of_below (below_drew (Below.refl _ _)), fun h => absurd h (by decide), fun h => absurd h (by decide), fun h => absurd h (by decide), fun h => absurd h (by decide), fun h => absurd h (by decide), fun h => absurd h (by decide), fun h => absurd h (by decide), fun h => absurd h (by decide), fun h => absurd h (by decide), fun h => absurd h (by decide), fun h => absurd h (by decide), fun _ => hM.below (below_drew (Below.refl _ _)), fun h => absurd h (by decide), fun h => absurd h (by decide)⟩⟩
  · decide
end Go.Proofs.Ytdaikljbljcagaa.Md
namespace Go.Proofs.Ytdaikljbljcagaa.Me
open Go Go.RowKit Go.Proofs.Ytdaikljbljcagaa.PAll Go.Proofs.YtdaikljbljcagaaW.PrintWords Go.Proofs.YtdaikljbljcagaaW.PrintLast Go.Proofs.Ytdaikljbljcagaa.Hl Go.Proofs.Ytdaikljbljcagaa.Fv Go.Proofs.Ytdaikljbljcagaa.Ma Go.Proofs.Ytdaikljbljcagaa.Mc Go.Proofs.Ytdaikljbljcagaa.Md Go.Proofs.Ytdaikljbljcagaa.Dr
set_option linter.unusedSimpArgs false
set_option linter.unusedVariables false
/-- The names count on. -/
def cntF (f : ByteArray → Int → Int) (l : List S29) : ByteArray → Int → Int := l.foldl (fun f x => setN f x.f0 x.f1 (wrap64 (f x.f0 x.f1 + 1))) f
/-- Those whose names come to one. -/
def newF : (ByteArray → Int → Int) → List S29 → List S29
  | _, [] => []
  | f, x :: t => (if wrap64 (f x.f0 x.f1 + 1) = 1 then [x] else []) ++ newF (setN f x.f0 x.f1 (wrap64 (f x.f0 x.f1 + 1))) t
theorem cntF_snoc (f : ByteArray → Int → Int) (l : List S29) (x : S29) : cntF f (l ++ [x]) = setN (cntF f l) x.f0 x.f1 (wrap64 (cntF f l x.f0 x.f1 + 1)) := by unfold cntF; rw [List.foldl_append]; rfl
theorem newF_snoc (x : S29) : ∀ (l : List S29) (f : ByteArray → Int → Int), newF f (l ++ [x]) = newF f l ++ (if wrap64 (cntF f l x.f0 x.f1 + 1) = 1 then [x] else [])
  | [], f => by
    show _ ++ [] = [] ++ _
    rw [List.append_nil, List.nil_append]
    rfl
  | y :: t, f => by
    show _ ++ newF _ (t ++ [x]) = _
    rw [newF_snoc x t]
    show _ = (_ ++ newF _ t) ++ _
    rw [List.append_assoc]
    rfl
theorem newF_len : ∀ (l : List S29) (f : ByteArray → Int → Int), (newF f l).length ≤ l.length
  | [], _ => by simp [newF]
  | x :: t, f => by
    have h := newF_len t (setN f x.f0 x.f1 (wrap64 (f x.f0 x.f1 + 1)))
    show ((if _ then [x] else []) ++ newF _ t).length ≤ _
    rw [List.length_append, List.length_cons]
    split <;> simp only [List.length_cons, List.length_nil] <;> omega
theorem setN_at (f : ByteArray → Int → Int) (e : ByteArray) (v c : Int) : setN f e v c e v = c := by unfold setN; rw [if_pos ⟨rfl, rfl⟩]
theorem away_ {α : Type} {d : Kd α} {e : Nat} {w : World} {base B : Nat} {v : Value} {xs : List α} (h : Kd.R d e w base (fun k => k ≠ B) v xs) : v.ownBlock ≠ some B := fun hk => h.1 B hk rfl
theorem turned_row_ {α : Type} {d : Kd α} {e : Nat} {W w w1 : World} {B : Nat} {v : Value} {xs : List α} (h : Turned B W w) (hR : Kd.R d e w W.heap.size (fun k => k ≠ B) v xs) (hg : w.grownBy w1 v.ownBlock) : Turned B W w1 :=
  ⟨hg.os.trans h.os, hg.tape.trans h.tape, hg.output.trans h.output, Nat.le_trans h.size hg.size, fun k hk hne => (hg.block k (Nat.lt_of_lt_of_le hk h.size) (fun e_ => by have := Kd.R_base hR k e_.symm; omega)).trans (h.block k hk hne)⟩
theorem R_turned {α : Type} {d : Kd α} {e : Nat} {w w1 : World} {B base : Nat} {v : Value} {xs : List α} (h : Kd.R d e w base (fun k => k ≠ B) v xs) (ht : Turned B w w1) : Kd.R d e w1 base (fun k => k ≠ B) v xs := Kd.R_step h (fun k ho hlt => ht.block k hlt ho)
theorem R_off {α : Type} {d : Kd α} {e : Nat} {w : World} {base : Nat} {ok : Nat → Prop} {v : Value} {xs : List α} (h : Kd.R d e w base ok v xs) (hE : d.E = []) {p : Addr} (hp : some p.block ≠ v.ownBlock) (u : Value) : Kd.R d e (w.setCell p u) base ok v xs :=
  Kd.R_mono (Kd.R_far (Kd.R_far1 h hE hp) (fun k hk => hk.2) u) (fun _ hk => hk.1)
theorem cell_turned {w w1 : World} {B n : Nat} {f : ByteArray → Int → Int} (hM : MapN w B n f) (ht : Turned B w w1) {a : Addr} {v : Value} (hc : w.cell? a = some v) : w1.cell? a = some v := by
  have hlt := World.block_lt_of_cell? w a hc
  have hne : a.block ≠ B := by
    intro he
    obtain ⟨D, ⟨es, clock, hh, _⟩, _⟩ := hM
    rw [← he] at hh
    simp [World.cell?, hh] at hc
  have hb := ht.block a.block hlt hne
  simpa [World.cell?, hb] using hc
set_option maxHeartbeats 16000000 in
set_option maxRecDepth 100000 in
theorem without_v (w : World) (A : Option Addr) (c : Nat) (l : List S29) (hC : Kd.C k29 w A l.length l) (hwf : WfI l) (B n0 : Nat) (f : ByteArray → Int → Int) (hM : MapN w B n0 f) (hn : n0 + l.length ≤ maxLen) (hz : l.length < 1000000000000) :
    Calls Try.prog 60 #[.slice A l.length c, .map (some B)] w fun en w' => ∃ v, en = .returned v ∧ Kd.R k29 29 w' w.heap.size (fun k => k ≠ B) v (newF f l) ∧ MapN w' B (n0 + l.length) (cntF f l) ∧ Turned B w w' := by
  have hu29 := Try.underlying29
  have hu86 := Try.underlying86
  have mixed : Try.prog.follows Departure.mixedOrders = true := by kernel_rfl
  have HC := Aside0.mk hC
  have HW := Aside0.mk hwf
  have HM := Aside0.mk hM
  have HN := Aside0.mk hn
  have LZ := Aside0.mk hz
  have LB := Aside0.mk hM.lt
  clear hC hwf hM hn hz
  go_enter Try.func60, Try.ntmps60
  go_wp2
  go_loopg [5, 10] l.length (fun kq v5 v10 wr => ∃ (j : Nat) (AO : Option Addr) (cO : Nat), v10 = .int .i64 (j : Int) ∧ v5 = .slice AO (newF f (l.take j)).length cO ∧ Aside0 (j ≤ l.length ∧ l.length - j ≤ kq) ∧ Aside0 (MapN wr B (n0 + j) (cntF f (l.take j))) ∧ Aside0 (Turned B w wr) ∧ Aside0 (Kd.R k29 29 wr w.heap.size (fun k => k ≠ B) (.slice AO (newF f (l.take j)).length cO) (newF f (l.take j))))
  case atStart => exact ⟨0, none, 0, rfl, rfl, ⟨Nat.zero_le _, Nat.le_refl _⟩, HM, ⟨Turned.refl _ _⟩, ⟨Kd.R_nil _ _ _ _ _⟩⟩
  case round =>
    obtain ⟨j, AO, cO, rfl, rfl, HI, HMr, HTr, HOr⟩ := hrel
    by_cases hlt : j < l.length
    · obtain ⟨ad, hA, hx⟩ := at_T29 HC.out (j : Int) (by omega) (by omega)
      rw [rd29_at l j hlt, Int.toNat_natCast] at hx
      obtain ⟨p_, hp_⟩ : ∃ p_, p_ = l[j] := ⟨_, rfl⟩
      obtain ⟨F, hF⟩ : ∃ F, F = cntF f (l.take j) := ⟨_, rfl⟩
      obtain ⟨out, hout⟩ : ∃ out, out = newF f (l.take j) := ⟨_, rfl⟩
      have HS := Aside0.mk (show cntF f (l.take (j + 1)) = setN F p_.f0 p_.f1 (wrap64 (F p_.f0 p_.f1 + 1)) by rw [List.take_add_one, List.getElem?_eq_getElem hlt, Option.toList_some, cntF_snoc, hp_, hF])
      have HS2 := Aside0.mk (show newF f (l.take (j + 1)) = out ++ (if wrap64 (F p_.f0 p_.f1 + 1) = 1 then [p_] else []) by rw [List.take_add_one, List.getElem?_eq_getElem hlt, Option.toList_some, newF_snoc, hp_, hF, hout])
      have LO := Aside0.mk (show out.length ≤ l.length by rw [hout]; exact Nat.le_trans (newF_len _ _) (by rw [List.length_take]; omega))
      have WE := Aside0.mk (show p_.f0.size ≤ maxLen by rw [hp_]; exact (HW.out _ (List.getElem_mem hlt)).1)
      have WV := Aside0.mk (show (Lit.int .i64 p_.f1).wf = true by rw [hp_]; exact (HW.out _ (List.getElem_mem hlt)).2)
      rw [← hF] at HMr
      rw [← hout] at HOr ⊢
      rw [← hp_] at hx
      obtain ⟨hw0, hw1, hw2⟩ := hx
      have hx0 := cell_turned HM.out HTr.out hw0
      have hx1 := cell_turned HM.out HTr.out hw1
      have hx2 := cell_turned HM.out HTr.out hw2
      have q1 : decide ((j : Int) < (l.length : Int)) = true := decide_eq_true (by omega)
      have q2 : (j : Int) < (l.length : Int) := by omega
      have LN := Aside0.mk (show n0 + j < maxLen by have := HN.out; omega)
      have HIL := Aside0.mk (show j < l.length from hlt)
      subst hA
      clear hp_ hlt hF hout hw0 hw1 hw2
      go_upto_region 5 with (first
        | ((with_reducible refine gate_dst (N := 7) rfl ?_); refine box_event ?hg (N := 7) ?hd (cs := #[.string (⟨#[]⟩ : ByteArray), .int .i64 0, .bool false]) (t := 29) ?hr ?_; (case hd => rfl); (case hg => rfl); (case hr => first | (go_simp; done) | (go_simp; rfl)); intro g7 hg_ wA hbox_ hb_; have LG7 := Aside0.mk (show wr.heap.size ≤ g7 by omega); have BXa := Aside0.mk hbox_; have HTa := Aside0.mk (HTr.out.trans (Turned.of_below hb_)); have HMa := Aside0.mk (HMr.out.below hb_); have HOa := Aside0.mk (Kd.R_below HOr.out hb_); have yx0 := blk_frozen BXa.out 0; have zx0 : wA.cell? ⟨g7, 0, none⟩ = some (.string (⟨#[]⟩ : ByteArray)) := (blk_cell BXa.out 0).trans rfl; have yx1 := blk_frozen BXa.out 1; have zx1 : wA.cell? ⟨g7, 1, none⟩ = some (.int .i64 0) := (blk_cell BXa.out 1).trans rfl; have yx2 := blk_frozen BXa.out 2; have zx2 : wA.cell? ⟨g7, 2, none⟩ = some (.bool false) := (blk_cell BXa.out 2).trans rfl; clear hb_ hbox_ hg_))
      have LW7 := Aside0.mk (show w.heap.size ≤ g7 from Nat.le_trans HTr.out.size LG7.out)
      have N7 := Aside0.mk (show B ≠ g7 from Nat.ne_of_lt (Nat.lt_of_lt_of_le HMr.out.lt LG7.out))
      have NW7 := Aside0.mk (show some g7 ≠ (Value.slice AO out.length cO).ownBlock from fun e_ => by have h1 := Kd.R_lt HOr.out g7 e_.symm; have h2 := LG7.out; omega)
      have BXb := Aside0.mk (blk_put (cs' := #[.string p_.f0, .int .i64 p_.f1, .bool p_.f2]) (blk_put (cs' := #[.string p_.f0, .int .i64 p_.f1, .bool false]) (blk_put (cs' := #[.string p_.f0, .int .i64 0, .bool false]) BXa.out 0 (.string p_.f0) rfl) 1 (.int .i64 p_.f1) rfl) 2 (.bool p_.f2) rfl)
      have HTb := Aside0.mk (Turned.set (Turned.set (Turned.set HTa.out (p := ⟨g7, 0, none⟩) (.inl LW7.out) (.string p_.f0)) (p := ⟨g7, 1, none⟩) (.inl LW7.out) (.int .i64 p_.f1)) (p := ⟨g7, 2, none⟩) (.inl LW7.out) (.bool p_.f2))
      have HMb := Aside0.mk (MapN.far (MapN.far (MapN.far HMa.out (p := ⟨g7, 0, none⟩) N7.out (.string p_.f0)) (p := ⟨g7, 1, none⟩) N7.out (.int .i64 p_.f1)) (p := ⟨g7, 2, none⟩) N7.out (.bool p_.f2))
      have HOb := Aside0.mk (R_off (R_off (R_off HOa.out rfl (p := ⟨g7, 0, none⟩) NW7.out (.string p_.f0)) rfl (p := ⟨g7, 1, none⟩) NW7.out (.int .i64 p_.f1)) rfl (p := ⟨g7, 2, none⟩) NW7.out (.bool p_.f2))
      obtain ⟨wB, hw_⟩ : ∃ u, (((wA.setCell ⟨g7, 0, none⟩ (.string p_.f0)).setCell ⟨g7, 1, none⟩ (.int .i64 p_.f1)).setCell ⟨g7, 2, none⟩ (.bool p_.f2)) = u := ⟨_, rfl⟩
      rw [hw_] at BXb HTb HMb HOb ⊢
      clear hw_ yx0 yx1 yx2 zx0 zx1 zx2 hx0 hx1 hx2 HTa HMa HOa BXa HTr HMr HOr
      go_cut [7] from 14 to 20 (fun v7 wc => v7 = .pointer (some ⟨g7, 0, none⟩) ∧ Aside0 (Turned B w wc) ∧ Aside0 (MapN wc B (n0 + j + 1) (setN F p_.f0 p_.f1 (wrap64 (F p_.f0 p_.f1 + 1)))) ∧ Aside0 (Kd.R k29 29 wc w.heap.size (fun k => k ≠ B) (.slice AO out.length cO) out) ∧ Aside0 (wc.heap[g7]? = some (.cells #[.string p_.f0, .int .i64 p_.f1, .bool p_.f2] 29 (0, 0))))
      case first =>
        refine Md.region5 (show (20 : Nat) < 32 by decide) rfl rfl BXb.out (Ne.symm N7.out) HMb.out LN.out WE.out WV.out ?_
        intro wc st_ ht_ hm_
        have HTc := Aside0.mk (HTb.out.trans ht_)
        have HMc := Aside0.mk hm_
        have HOc := Aside0.mk (R_turned HOb.out ht_)
        have BXc := Aside0.mk (ht_.blk BXb.out (Ne.symm N7.out))
        clear ht_ hm_
        simp only [Act.put, sT, sS, sZ]
        try go_wp2
        go_meet
        exact ⟨rfl, HTc, HMc, HOc, BXc⟩
      case rest =>
        obtain ⟨rfl, HTc, HMc, HOc, BXc⟩ := hcut
        clear HTb HMb HOb BXb
        obtain ⟨cc, hcc⟩ : ∃ cc, cc = wrap64 (F p_.f0 p_.f1 + 1) := ⟨_, rfl⟩
        have HCC := Aside0.mk hcc.symm
        have LBq := LB
        have zl0 : wc.cell? ⟨g7, 0, none⟩ = some (.string p_.f0) := (blk_cell BXc.out 0).trans rfl
        have zl1 : wc.cell? ⟨g7, 1, none⟩ = some (.int .i64 p_.f1) := (blk_cell BXc.out 1).trans rfl
        have zl2 : wc.cell? ⟨g7, 2, none⟩ = some (.bool p_.f2) := (blk_cell BXc.out 2).trans rfl
        by_cases h1 : cc = 1
        · have q3 : (cc == 1) = true := beq_iff_eq.2 h1
          have HS3 := Aside0.mk (show newF f (l.take (j + 1)) = out ++ [p_] by rw [HS2.out, if_pos (by rw [← hcc]; exact h1)])
          clear hcc h1
          go_wp2_with (first
          | ((with_reducible refine gate_callee (f := 55) rfl ?_); refine goesL_ (some 23) rfl rfl Try.func55 (by kernel_rfl) rfl #[.agg #[.string p_.f0, .int .i64 p_.f1, .bool p_.f2]] rfl (by (try simp only [List.map_toArray, List.map_cons, List.map_nil]); first | done | rfl) ?_; (refine (outbox_of.calls p_.f0 p_.f1 p_.f2 p_.f0 p_.f1 _ rfl).mono ?_); rintro en wq ⟨rfl, hb_⟩; refine ⟨_, rfl, ?_⟩; have HTq := Aside0.mk (HTc.out.trans (Turned.of_below hb_)); have HMq := Aside0.mk (HMc.out.below hb_); have HOq := Aside0.mk (Kd.R_below HOc.out hb_); have BXq := Aside0.mk (blk_below BXc.out hb_); have hlook : (Instr.lookup 83 (.map (some B)) (.agg #[.string p_.f0, .int .i64 p_.f1]) false).run Try.prog wq = .ok (.int .i64 cc) wq := (HMq.out.look WE.out WV.out).trans (by rw [setN_at, HCC.out]); clear hb_ zl0 zl1 zl2; have zm0 : wq.cell? ⟨g7, 0, none⟩ = some (.string p_.f0) := (blk_cell BXq.out 0).trans rfl; have zm1 : wq.cell? ⟨g7, 1, none⟩ = some (.int .i64 p_.f1) := (blk_cell BXq.out 1).trans rfl; have zm2 : wq.cell? ⟨g7, 2, none⟩ = some (.bool p_.f2) := (blk_cell BXq.out 2).trans rfl)
          | ((with_reducible refine gate_builtin (b := .append) (xs := #[.tmp 26, .tmp 28]) rfl ?_); at_builtin; refine Kd.R_append k29 (w0 := wq) w.heap.size rfl (.tmp 26) (.tmp 28) 22 29 (.agg #[(.string ⟨#[]⟩), (.int .i64 0), (.bool false)]) 32 rfl Try.underlying22 info29 rfl (by decide) (by omega) (.slice AO out.length cO) out p_ [.string p_.f0, .int .i64 p_.f1, .bool p_.f2] (fun k => k ≠ B) (fun _ => False) rfl rfl ?aP (fun _ hk => hk.elim) ?aF ?aO ?aB ?aS ?aL ?_; (case aP => exact k29_mkM _ _ _ p_); (case aB => exact (Below.refl w.heap.size wq)); (case aF => exact (fun k_ hk_ => by have h1 := LBq.out; have h2 := HTq.out.size; omega)); (case aO => exact HOq.out); (case aS => exact HTq.out.size); (case aL => have := LO.out; have h2 := LZ.out; omega); intro v1 w1 ho_ hb_ hg_ hat_; obtain ⟨A1, c1, hv_⟩ := Kd.R_slice ho_; subst hv_; have HO1 := Aside0.mk ho_; have HM1 := Aside0.mk (HMq.out.kept hg_ (fun e_ => away_ HOq.out e_.symm)); have HT1 := Aside0.mk (turned_row_ HTq.out HOq.out hg_); clear ho_ hb_ hg_ hat_))
          go_roundg (l.length - (j + 1))
          case measure => have := HI.out.2; have := HIL.out; omega
          case rel => exact ⟨j + 1, A1, c1, by first | rfl | (congr 1; exact Go.IntWalk.wrap64_in _ (by have h1 := LZ.out; have h2 := HIL.out; omega)), by first | (rw [HS3.out]; done) | (rw [HS3.out, List.length_append]; rfl), ⟨HIL.out, Nat.le_refl _⟩, ⟨by rw [HS.out]; exact HM1.out⟩, HT1, ⟨by rw [HS3.out]; exact HO1.out⟩⟩
        · have q3 : (cc == 1) = false := beq_eq_false_iff_ne.2 h1
          have HS3 := Aside0.mk (show newF f (l.take (j + 1)) = out by rw [HS2.out, if_neg (by rw [← hcc]; exact h1), List.append_nil])
          clear hcc h1
          go_wp2_with (first
          | ((with_reducible refine gate_callee (f := 55) rfl ?_); refine goesL_ (some 23) rfl rfl Try.func55 (by kernel_rfl) rfl #[.agg #[.string p_.f0, .int .i64 p_.f1, .bool p_.f2]] rfl (by (try simp only [List.map_toArray, List.map_cons, List.map_nil]); first | done | rfl) ?_; (refine (outbox_of.calls p_.f0 p_.f1 p_.f2 p_.f0 p_.f1 _ rfl).mono ?_); rintro en wq ⟨rfl, hb_⟩; refine ⟨_, rfl, ?_⟩; have HTq := Aside0.mk (HTc.out.trans (Turned.of_below hb_)); have HMq := Aside0.mk (HMc.out.below hb_); have HOq := Aside0.mk (Kd.R_below HOc.out hb_); have BXq := Aside0.mk (blk_below BXc.out hb_); have hlook : (Instr.lookup 83 (.map (some B)) (.agg #[.string p_.f0, .int .i64 p_.f1]) false).run Try.prog wq = .ok (.int .i64 cc) wq := (HMq.out.look WE.out WV.out).trans (by rw [setN_at, HCC.out]); clear hb_ zl0 zl1 zl2; have zm0 : wq.cell? ⟨g7, 0, none⟩ = some (.string p_.f0) := (blk_cell BXq.out 0).trans rfl; have zm1 : wq.cell? ⟨g7, 1, none⟩ = some (.int .i64 p_.f1) := (blk_cell BXq.out 1).trans rfl; have zm2 : wq.cell? ⟨g7, 2, none⟩ = some (.bool p_.f2) := (blk_cell BXq.out 2).trans rfl))
          go_roundg (l.length - (j + 1))
          case measure => have := HI.out.2; have := HIL.out; omega
          case rel => exact ⟨j + 1, AO, cO, by first | rfl | (congr 1; exact Go.IntWalk.wrap64_in _ (by have h1 := LZ.out; have h2 := HIL.out; omega)), by first | (rw [HS3.out]; done) | (rw [HS3.out, List.length_append]; rfl), ⟨HIL.out, Nat.le_refl _⟩, ⟨by rw [HS.out]; exact HMq.out⟩, HTq, ⟨by rw [HS3.out]; exact HOq.out⟩⟩
    · obtain rfl : j = l.length := by have := HI.out.1; omega
      have q1 : decide ((l.length : Int) < (l.length : Int)) = false := decide_eq_false (by omega)
      have HMe := HMr
      have HTe := HTr
      have HOe := HOr
      rw [List.take_length] at HMe HOe ⊢
      clear hlt HI HMr HTr HOr
      go_wp2
      go_ret
      exact ⟨_, rfl, HOe.out, HMe.out, HTe.out⟩
end Go.Proofs.Ytdaikljbljcagaa.Me
