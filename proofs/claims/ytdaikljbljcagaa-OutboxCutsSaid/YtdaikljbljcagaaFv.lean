/- DERIVED. Calls through a variable that is known to hold a certain function: the print's laws of a call, for such a callee. Conditions: those that each lemma names. -/
import Derived.Test.YtdaikljbljcagaaWLast
import Derived.Test.YtdaikljbljcagaaWMore
import Derived.Test.YtdaikljbljcagaaWNEv
import Derived.Lib.SliceRun
namespace Go.Proofs.Ytdaikljbljcagaa.Fv
open Go.RowKit Go.Proofs.YtdaikljbljcagaaW.PrintWords Go.Proofs.YtdaikljbljcagaaW.PrintLast
section
variable {P : Program} {ops : Array Oper} {o : Oper} {a : Act} {Q : Exit → Act → World → Prop} {W : World} {rest : List Oper}
/-- The operation calls what a variable holds. -/
theorem gate_var {t : Tmp} {as : Array Operand} {ts : Array TypeId} (_ho : o.op = .call { callee := .value (.tmp t), args := as, argTypes := ts }) (h : wpList P ops Q (o :: rest) a W) : wpList P ops Q (o :: rest) a W := h
/-- A call of what a variable holds, in a plain region. -/
theorem goesLV {oi : Oper} {w : World} (N : Option Tmp) (hd : oi.dst = N) (hg : oi.guard = none) {t : Tmp} {f : FuncId} {fn : Func} {as : Array Operand} {ts : Array TypeId} (hf : P.funcs[f]? = some fn) (hname : (fn.name == "runtime.NumGoroutine") = false) (hb : fn.body.isSome = true) (args : Array Value)
    (hop : oi.op = .call { callee := .value (.tmp t), args := as, argTypes := ts }) (hargs : as.map a.eval = args)
    (h : Calls P f args w fun e w' => ∃ v, e = .returned v ∧ wpList P ops Q rest (a.put N v) w') (hv : a.eval (.tmp t) = .func (.func f) #[] #[] := by rfl) : wpList P ops Q (oi :: rest) a w := by
  refine wpList_plain hg fun K hK => ?_
  have he := enters_ hf hname hb args w
  have hrun : (execOp a.eval oi).run P w = .ok (.enter f args) w := by
    unfold execOp
    simp [hop, resolve, Deferred.ofValue, invoke, hv, hargs, he]
  unfold Oper.wp
  rw [hrun, Oper.upon_enter]
  refine h.mono fun e w'' hh => ?_
  obtain ⟨v, rfl, hk⟩ := hh
  subst hd
  exact hK _ _ hk
/-- The same, in a region that draws its order. -/
theorem goesV {oi : Oper} {N : Option Tmp} {a : Act} {w : World} {K : Act → World → Prop} {t : Tmp} {f : FuncId} {fn : Func} {as : Array Operand} {ts : Array TypeId} (hf : P.funcs[f]? = some fn) (hname : (fn.name == "runtime.NumGoroutine") = false) (hb : fn.body.isSome = true) (args : Array Value)
    (hw : Region.wanted oi (yielded ops a.tmps) = true) (hN : oi.dst = N) (hop : oi.op = .call { callee := .value (.tmp t), args := as, argTypes := ts }) (hargs : as.map a.eval = args)
    (h : Calls P f args w fun e w' => ∃ v, e = .returned v ∧ K (a.put N v) w') (hv : a.eval (.tmp t) = .func (.func f) #[] #[] := by rfl) : if Region.wanted oi (yielded ops a.tmps) = true then Oper.wp P oi a w K Q else K (a.put N undef) w := by
  refine call_ f args hw hN ?_ h
  have he := enters_ hf hname hb args w
  unfold execOp
  simp [hop, resolve, Deferred.ofValue, invoke, hv, hargs, he]
end
section
variable {P : Program} {ops : Array Oper} {o : Oper} {a : Act} {Q : Exit → Act → World → Prop} {W : World} {rest : List Oper}
/-- '[]byte(s)': new memory that holds the text's bytes. -/
theorem bytes_event {N : Tmp} (hgd : o.guard = none) (_hd : o.dst = some N) (src dst e : TypeId) (x : Operand) (ho : o.op = .convert src dst x) (s : ByteArray) (hx : a.eval x = .string s) {u : TypeDesc}
    (hs : P.underlying src = some u) (hdst : P.underlying dst = some (.slice e)) (he : P.underlying e = some (.int .u8)) (hsz : s.size ≤ 140737488351232)
    (h : ∀ w1 A c, Below W.heap.size W w1 → (Kd.int .u8).C w1 A (bytesOf s).length (bytesOf s) → (bytesOf s).length ≤ c → wpList P ops Q rest (a.put o.dst (.slice A (bytesOf s).length c)) w1) : wpList P ops Q (o :: rest) a W := by
  have hr := print_bytes (P := P) src dst e hs hdst he s W
  have hrun : (execOp a.eval o).run P W = .ok (.value (.slice (some ⟨W.heap.size, 0, none⟩) (bytesOf s).length (grownCap W s.size 0 e))) (Lib.bytesWorld W e s) := by
    unfold execOp
    simp [ho, hx, hr, bytesOf_length]
  refine Kd.event_run hgd hrun (h _ _ _ (bytes_below (Below.refl _ _) (Nat.le_refl _) e s) ?_ ?_)
  · have := bytes_reads W e s (by omega)
    exact Kd.C_of_reads (d := (0 : Int)) (h1 := fun _ => rfl) (by rw [bytesOf_length]; exact this)
  · rw [bytesOf_length]
    exact grownCap_ge _ _ _ _
end
section
variable {P : Program} {ops : Array Oper} {o : Oper} {a : Act} {Q : Exit → Act → World → Prop} {rest : List Oper}
/-- '[]byte(s)' behind other things of the call's own: a row that is only read, told by the block it lies in. -/
theorem V_bytes {w0 W : World} (base e : Nat) (hgd : o.guard = none) {N' : Tmp} (_hd : o.dst = some N') (src dst : TypeId) (x : Operand) (ho : o.op = .convert src dst x) (s : ByteArray) (hx : a.eval x = .string s) {u : TypeDesc}
    (hs : P.underlying src = some u) (hdst : P.underlying dst = some (.slice e)) (he : P.underlying e = some (.int .u8)) (hsz : s.size ≤ 140737488351232) (HB : Below base w0 W) (hbase : base ≤ W.heap.size)
    (h : ∀ v1 w1, Kd.V (Kd.int .u8) e w1 base (fun k => W.heap.size ≤ k) v1 (bytesOf s) → Below base w0 w1 → W.grownBy w1 none → (∃ b, v1.ownBlock = some b ∧ W.heap.size ≤ b) → wpList P ops Q rest (a.put o.dst v1) w1) : wpList P ops Q (o :: rest) a W := by
  have hr := print_bytes (P := P) src dst e hs hdst he s W
  have hrun : (execOp a.eval o).run P W = .ok (.value (.slice (some ⟨W.heap.size, 0, none⟩) (bytesOf s).length (grownCap W s.size 0 e))) (Lib.bytesWorld W e s) := by
    unfold execOp
    simp [ho, hx, hr, bytesOf_length]
  have hbW := bytes_below (Below.refl _ W) (Nat.le_refl _) e s
  have hR := bytes_reads W e s (by omega)
  refine Kd.event_run hgd hrun (h _ _ (Kd.V_mk ?_ fun W' hW => ?_) (bytes_below HB hbase e s) (grown_of_below hbW none) ⟨W.heap.size, by simp [Value.ownBlock], Nat.le_refl _⟩)
  · rw [bytesOf_length]
    exact grownCap_ge _ _ _ _
  · rw [bytesOf_length]
    refine Kd.C_of_reads (d := (0 : Int)) (h1 := fun _ => rfl) ⟨hR.1, hR.2.1, fun hp => ?_⟩
    obtain ⟨ad, e1, hc⟩ := hR.2.2 hp
    cases e1
    refine ⟨_, rfl, fun i hi => ?_⟩
    have h1 := hc i hi
    have h2 := hW W.heap.size (Nat.le_refl _) (by rw [Lib.bytesWorld_size]; omega)
    rw [add_plain] at h1 ⊢
    simpa only [World.cell?, h2] using h1
end
theorem bN : type_of% @blk_drewN := @blk_drewN
theorem bD : type_of% @blk_drew := @blk_drew
theorem bA : type_of% @blk_alloc := @blk_alloc
theorem aM {p : Prop} (h : p) : Aside0 p := ⟨h⟩
theorem sT : type_of% @List.setIfInBounds_toArray := @List.setIfInBounds_toArray
theorem sZ : type_of% @List.set_cons_zero := @List.set_cons_zero
theorem sS : type_of% @List.set_cons_succ := @List.set_cons_succ
/-- W' is W behind draws and new blocks. -/
class Later (W W' : World) : Prop where
  out : Below W.heap.size W W'
instance (W : World) : Later W W := ⟨Below.refl _ _⟩
instance (W W' : World) [h : Later W W'] : Later W W'.drew := ⟨below_drew h.out⟩
instance (W W' : World) (n : Nat) [h : Later W W'] : Later W (W'.drewN n) := ⟨pw_below_drewN h.out n⟩
instance (W W' : World) (o : Obj) [h : Later W W'] : Later W (W'.alloc o) := ⟨below_alloc h.out o⟩
theorem bL {W W' : World} {g : Nat} {o : Obj} [h : Later W W'] (hb : W.heap[g]? = some o) : W'.heap[g]? = some o := blk_below hb h.out
/-- A block of the call's own, by its number. -/
class Above (w : World) (g : Nat) : Prop where
  out : w.heap.size ≤ g
/-- W' is W behind draws, new blocks and stores into blocks of the call's own (w: where the call began). -/
class Since (w W W' : World) : Prop where
  out : Below w.heap.size w W → Below w.heap.size w W'
instance (w W : World) : Since w W W := ⟨id⟩
instance (w W W' : World) [h : Since w W W'] : Since w W W'.drew := ⟨fun hb => below_drew (h.out hb)⟩
instance (w W W' : World) (n : Nat) [h : Since w W W'] : Since w W (W'.drewN n) := ⟨fun hb => pw_below_drewN (h.out hb) n⟩
instance (w W W' : World) (o : Obj) [h : Since w W W'] : Since w W (W'.alloc o) := ⟨fun hb => below_alloc (h.out hb) o⟩
instance (w W W' : World) (g j : Nat) (v : Value) [h : Since w W W'] [k : Above w g] : Since w W (W'.setCell ⟨g, j, none⟩ v) := ⟨fun hb => below_set (h.out hb) k.out⟩
theorem hL {w W W' : World} [h : Since w W W'] (hb : Below w.heap.size w W) : Below w.heap.size w W' := h.out hb
section
variable {α : Type} {d : Kd α} {e : Nat} {W W' : World} {base : Nat} {ok : Nat → Prop} {v : Value} {xs : List α}
theorem rL [h : Later W W'] (hr : d.R e W base ok v xs) : d.R e W' base ok v xs := Kd.R_below hr h.out
theorem nL [h : Later W W'] (hr : d.N e W base ok v xs) : d.N e W' base ok v xs := Kd.N_below hr h.out
theorem vL [h : Later W W'] (hr : d.V e W base ok v xs) : d.V e W' base ok v xs := Kd.V_below hr h.out
theorem qL [h : Later W W'] (hr : d.Q e W base ok v xs) : d.Q e W' base ok v xs := Kd.Q_below hr h.out
theorem sL [h : Later W W'] (hr : d.S e W base ok v xs) : d.S e W' base ok v xs := Kd.S_below hr h.out
end
theorem ne_nil_bytes (l : List UInt8) : (l != []) = !l.isEmpty := by cases l <;> rfl
theorem eq_nil_bytes (l : List UInt8) : (l == []) = l.isEmpty := by cases l <;> rfl
theorem bytesLess_turn : ∀ a b : List UInt8, (Op.bytesLess a b || a == b) = !(Op.bytesLess b a)
  | [], [] => by simp [Op.bytesLess]
  | [], _ :: _ => by simp [Op.bytesLess]
  | _ :: _, [] => by simp [Op.bytesLess]
  | x :: a, y :: b => by
    have ih := bytesLess_turn a b
    simp only [Op.bytesLess]
    by_cases h1 : x < y
    · have h2 : ¬ y < x := by rw [UInt8.lt_iff_toNat_lt] at *; omega
      have h3 : (y == x) = false := by
        rw [beq_eq_false_iff_ne]; rintro rfl; rw [UInt8.lt_iff_toNat_lt] at h1; omega
      simp [h1, h2, h3]
    · by_cases h2 : y < x
      · have h3 : (x == y) = false := by
          rw [beq_eq_false_iff_ne]; rintro rfl; rw [UInt8.lt_iff_toNat_lt] at h2; omega
        have h4 : (x :: a == y :: b) = false := by
          rw [beq_eq_false_iff_ne]; intro h; injection h with h _; subst h; simp at h3
        simp [h1, h2, h3, h4]
      · have h3 : x = y := by
          apply UInt8.toNat_inj.1; rw [UInt8.lt_iff_toNat_lt] at *; omega
        subst h3
        have h4 : (x :: a == x :: b) = (a == b) := by
          rw [Bool.eq_iff_iff]; simp
        simp only [h4, h1, decide_false, Bool.false_or, beq_self_eq_true, Bool.true_and]
        exact ih
/-- The walk's laws of '>', '<=' and '>=' on texts, by '<' alone. -/
theorem str_gtr (t : TypeId) (a b : ByteArray) : binOp .gtr t (.string a) (.string b) = pure (.bool (Op.bytesLess b.toList a.toList)) := by
  have := bytesLess_turn a.toList b.toList
  simp [binOp, Op.stringOp, this]
theorem str_leq (t : TypeId) (a b : ByteArray) : binOp .leq t (.string a) (.string b) = pure (.bool (!(Op.bytesLess b.toList a.toList))) := by
  have := bytesLess_turn a.toList b.toList
  simp [binOp, Op.stringOp, this]
theorem str_geq (t : TypeId) (a b : ByteArray) : binOp .geq t (.string a) (.string b) = pure (.bool (!(Op.bytesLess a.toList b.toList))) := by
  simp [binOp, Op.stringOp]
/-- A cell that was written twice. -/
theorem cell_set2 (w : World) (a : Addr) (v u : Value) (h : (w.cell? a).isSome = true) : ((w.setCell a v).setCell a u).cell? a = some u := by
  refine World.cell?_setCell_same' _ a u ?_
  rw [World.cell?_setCell_same' _ a v h]; rfl
end Go.Proofs.Ytdaikljbljcagaa.Fv
