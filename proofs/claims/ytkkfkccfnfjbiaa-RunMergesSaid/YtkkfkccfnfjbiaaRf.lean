/- DERIVED. What a caller hands in is read in any world that has the same blocks. Conditions: none. -/
import Derived.Test.YtkkfkccfnfjbiaaWMore
import Derived.Test.YtkkfkccfnfjbiaaWShare
namespace Go.Proofs.Ytkkfkccfnfjbiaa.Rf
open Go.RowKit Go.Proofs.YtkkfkccfnfjbiaaW.PrintWords Go.Proofs.YtkkfkccfnfjbiaaW.PrintLast Go.Proofs.YtkkfkccfnfjbiaaW.PrintWords.Kd
theorem cell_same {W W' : World} (hs : ∀ k, k < W.heap.size → W'.heap[k]? = W.heap[k]?) {a : Addr} {v : Value} (h : W.cell? a = some v) : W'.cell? a = some v := by
  have hb := World.block_lt_of_cell? W _ h
  simp only [World.cell?, hs _ hb] at *
  exact h
/-- A kind that is told by the blocks alone. -/
def HK {α : Type} (d : Kd α) : Prop := ∀ (W W' : World) (x : α) (cs : List Value), (∀ k, k < W.heap.size → W'.heap[k]? = W.heap[k]?) → d.K W x cs → d.K W' x cs
theorem C_same {α : Type} {d : Kd α} (hk : HK d) {W W' : World} {A : Option Addr} {n : Nat} {xs : List α} (hs : ∀ k, k < W.heap.size → W'.heap[k]? = W.heap[k]?) (h : Kd.C d W A n xs) : Kd.C d W' A n xs := by
  obtain ⟨h1, h2, h3⟩ := h
  refine ⟨h1, h2, fun hp => ?_⟩
  obtain ⟨ad, e, hc⟩ := h3 hp
  refine ⟨ad, e, fun j p hj => ?_⟩
  obtain ⟨c, hl, hr, hcell⟩ := hc j p hj
  exact ⟨c, hl, hk W W' p c hs hr, fun i u hi => cell_same hs (hcell i u hi)⟩
theorem hk_slice {α : Type} {d : Kd α} (e : Nat) (hk : HK d) : HK (Kd.slice e d) := by
  rintro W W' x cs hs ⟨A, c, rfl, hl, hC⟩
  exact ⟨A, c, rfl, hl, C_same hk hs hC⟩
theorem V_of_C {α : Type} {d : Kd α} (hk : HK d) (e : Nat) {W : World} (base : Nat) {A : Option Addr} {c : Nat} {xs : List α} (hc : xs.length ≤ c) (h : Kd.C d W A xs.length xs) : Kd.V d e W base (fun _ => True) (.slice A xs.length c) xs :=
  Kd.V_mk hc fun _ hW => C_same hk (fun k hlt => hW k trivial hlt) h
end Go.Proofs.Ytkkfkccfnfjbiaa.Rf
