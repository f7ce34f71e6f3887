/- DERIVED. (*Box).Cut and Join: the code walked. Conditions: those that each lemma names. DERIVED. Join: the code walked. Conditions: those that each lemma names. DERIVED. (*shelfmarkref18.Box).Cut: the code walked. Conditions: those that each lemma names. DERIVED. shelfmarkref18.Join: the code walked. Conditions: those that each lemma names. -/
import Derived.Test.YtdaikljbljcagaaMt
import Derived.Deep.RegionHeld3
import Derived.Deep.RegionLaw
import Derived.Deep.CutRange
import Derived.Test.YtdaikljbljcagaaMo
namespace Go.Proofs.Ytdaikljbljcagaa.Mw
open Go Go.RowKit Go.Proofs.Ytdaikljbljcagaa.PAll Go.Proofs.YtdaikljbljcagaaW.PrintWords Go.Proofs.YtdaikljbljcagaaW.PrintLast Go.Proofs.Ytdaikljbljcagaa.Hl Go.Proofs.Ytdaikljbljcagaa.Fv Go.Proofs.Ytdaikljbljcagaa.Mc Go.Proofs.Ytdaikljbljcagaa.Me Go.Proofs.Ytdaikljbljcagaa.Mf Go.Proofs.Ytdaikljbljcagaa.Mi Go.Proofs.Ytdaikljbljcagaa.Mj Go.Proofs.Ytdaikljbljcagaa.Mk Go.Proofs.Ytdaikljbljcagaa.Mm Go.Proofs.Ytdaikljbljcagaa.Ms Go.Proofs.Ytdaikljbljcagaa.Mt Go.Proofs.Ytdaikljbljcagaa.Pn Go.Proofs.Ytdaikljbljcagaa.Pq
set_option linter.unusedSimpArgs false
set_option linter.unusedVariables false
theorem alloc_size (w : World) (o : Obj) : (w.alloc o).heap.size = w.heap.size + 1 := by show (w.heap.push _).size = _; exact Array.size_push _
theorem blk_two1 (w : World) (o1 o2 : Obj) : ((w.alloc o1).alloc o2).heap[w.heap.size]? = some o1 := blk_alloc (heap_alloc_new w o1) o2
theorem blk_two2 (w : World) (o1 o2 : Obj) : ((w.alloc o1).alloc o2).heap[w.heap.size + 1]? = some o2 := by
  have h := heap_alloc_new (w.alloc o1) o2
  rwa [alloc_size] at h
theorem two_boxes {w wA wB W : World} {mo : Int} {l1 l2 : List S29} {A1 A2 : Option Addr} {c1 c2 g1 g2 : Nat} (h0 : Below w.heap.size w wB) (h1 : Kd.R k29 29 wB wA.heap.size (fun _ => True) (.slice A1 l1.length c1) l1) (h2 : Kd.R k29 29 wB wA.heap.size (fun _ => True) (.slice A2 l2.length c2) l2) (ha : Apart (.slice A1 l1.length c1) (.slice A2 l2.length c2)) (hb : Below wB.heap.size wB W)
    (b1 : W.heap[g1]? = some (.cells #[.int .i64 mo, .slice A1 l1.length c1] 68 (0, 0))) (b2 : W.heap[g2]? = some (.cells #[.int .i64 mo, .slice A2 l2.length c2] 68 (0, 0))) (e1 : wB.heap.size ≤ g1) (e2 : wB.heap.size ≤ g2) (hne : g1 ≠ g2) (hA : w.heap.size ≤ wA.heap.size) :
    Box 68 W w.heap.size (fun k => k = g1 ∨ (Value.slice A1 l1.length c1).ownBlock = some k) g1 mo l1 ∧ Box 68 W w.heap.size (fun k => k = g2 ∨ (Value.slice A2 l2.length c2).ownBlock = some k) g2 mo l2 ∧ (∀ k, (k = g1 ∨ (Value.slice A1 l1.length c1).ownBlock = some k) → ¬ (k = g2 ∨ (Value.slice A2 l2.length c2).ownBlock = some k)) ∧ Below w.heap.size w W := by
  have hw : w.heap.size ≤ wB.heap.size := h0.size
  have bnd : ∀ {A : Option Addr} {c g : Nat} {l : List S29}, Kd.R k29 29 wB wA.heap.size (fun _ => True) (.slice A l.length c) l → wB.heap.size ≤ g → g < W.heap.size → ∀ k, (k = g ∨ (Value.slice A l.length c).ownBlock = some k) → w.heap.size ≤ k ∧ k < W.heap.size := by
    intro A c g l h hg hgl k hk
    rcases hk with rfl | hk
    · exact ⟨by omega, hgl⟩
    · have k1 := Kd.R_base h k hk
      have k2 := Kd.R_lt h k hk
      have k3 := hb.size
      exact ⟨by omega, by omega⟩
  refine ⟨⟨.inl rfl, bnd h1 e1 (blk_lt b1), A1, c1, b1, Kd.R_below (Kd.R_lower (Kd.R_reok rfl h1 (fun k hk => .inr hk)) hA) hb⟩, ⟨.inl rfl, bnd h2 e2 (blk_lt b2), A2, c2, b2, Kd.R_below (Kd.R_lower (Kd.R_reok rfl h2 (fun k hk => .inr hk)) hA) hb⟩, ?_, below_step h0 hb⟩
  rintro k (rfl | k1) (k2 | k2)
  · exact hne k2
  · have := Kd.R_lt h2 k k2
    omega
  · have := Kd.R_lt h1 k k1
    omega
  · exact ha k k1 k2
set_option maxHeartbeats 16000000 in
set_option maxRecDepth 100000 in
theorem cut_c (w : World) (gm : Nat) (at_ : ByteArray) (hg : w.heap[gm]? = some (.cells #[.string at_] 9 (0, 0))) (k : Nat) (x_ : S29) (key : ByteArray) (hk : ∃ r1 r2 r4, record_Parse.f k x_.f0 = some (r1, r2, key, r4)) : Calls Try.prog 51 (#[.agg #[.string x_.f0, .int .i64 x_.f1, .bool x_.f2]] ++ #[.pointer (some ⟨gm, 0, none⟩)]) w fun en w' => en = .returned (.bool (Op.bytesLess key.toList at_.toList)) ∧ Below w.heap.size w w' := by
  have hu29 := Try.underlying29
  have mixed : Try.prog.follows Departure.mixedOrders = true := by kernel_rfl
  obtain ⟨r1, r2, r4, hp⟩ := hk
  go_enter Try.func51, Try.ntmps51
  go_wp2_with (first
    | ((with_reducible refine gate_dst (N := 2) rfl ?_); refine box_event ?hg (N := 2) ?hd (cs := #[.string x_.f0, .int .i64 x_.f1, .bool x_.f2]) (t := 29) ?hr ?_; (case hd => rfl); (case hg => rfl); (case hr => first | (go_simp; done) | (go_simp; rfl)); intro g2 hg_ wA hbox_ hb_; have BXa := Aside0.mk hbox_; have HBa := Aside0.mk hb_; have BMa := Aside0.mk (blk_below hg hb_); have y0 : wA.cell? ⟨g2, 0, none⟩ = some (.string x_.f0) := (blk_cell BXa.out 0).trans rfl; clear hb_ hbox_ hg_)
    | ((with_reducible refine gate_callee (f := 52) rfl ?_); (try (refine gate_guard (by rfl) ?_; dsimp only)); refine goesL_ (some 11) rfl rfl Try.func52 (by kernel_rfl) rfl #[.string x_.f0] rfl (by (try simp only [List.map_toArray, List.map_cons, List.map_nil]); first | done | rfl) ?_; (refine (record_Parse.calls k x_.f0 r1 r2 key r4 wA hp).mono ?_); rintro en wq ⟨v1_, rfl, hR_, hb_⟩; obtain ⟨Av_, cv_, hv_⟩ := Kd.R_slice hR_; subst hv_; refine ⟨_, rfl, ?_⟩; have HBq := Aside0.mk (below_step HBa.out hb_); have BMq := Aside0.mk (blk_below BMa.out hb_); clear y0; have m0 : wq.cell? ⟨gm, 0, none⟩ = some (.string at_) := (blk_cell BMq.out 0).trans rfl; clear hb_ hR_))
  go_ret
  exact ⟨rfl, HBq.out⟩
theorem cut_all {w4 : World} {gi : Nat} {at_ : ByteArray} (k : Nat) (l : List S29) (key : S29 → ByteArray) (hk : ∀ x ∈ l, ∃ r1 r2 r4, record_Parse.f k x.f0 = some (r1, r2, key x, r4)) (low : S29 → Bool) (hlow : low = fun x => Op.bytesLess (key x).toList at_.toList) (h : w4.heap[gi]? = some (.cells #[.string at_] 9 (0, 0))) : ∀ (W : World) (x_ : S29), Below w4.heap.size w4 W → x_ ∈ l → Calls Try.prog 51 (#[.agg #[.string x_.f0, .int .i64 x_.f1, .bool x_.f2]] ++ #[.pointer (some ⟨gi, 0, none⟩)]) W fun e W' => e = .returned (.bool (low x_)) ∧ Below W.heap.size W W' := by
  intro W x_ hW hx
  rw [hlow]
  exact cut_c W gi at_ (blk_below h hW) k x_ (key x_) (hk x_ hx)
set_option maxHeartbeats 16000000 in
set_option maxRecDepth 100000 in
theorem Cut_v (w : World) (base gb : Nat) (S : Nat → Prop) (mo : Int) (l : List S29) (hX : Box 68 w base S gb mo l) (hbase : base ≤ w.heap.size) (at_ : ByteArray) (hz : l.length < 1000000000) (k : Nat) (key : S29 → ByteArray) (hk : ∀ x ∈ l, ∃ r1 r2 r4, record_Parse.f k x.f0 = some (r1, r2, key x, r4)) (low : S29 → Bool) (hlow : low = fun x => Op.bytesLess (key x).toList at_.toList) :
    Calls Try.prog 21 #[.pointer (some ⟨gb, 0, none⟩), .string at_] w fun en w' => ∃ gx gy S1 S2, en = .returned (.tuple #[.pointer (some ⟨gx, 0, none⟩), .pointer (some ⟨gy, 0, none⟩)]) ∧ Box 68 w' w.heap.size S1 gx mo (l.filter low) ∧ Box 68 w' w.heap.size S2 gy mo (l.filter (fun x => !low x)) ∧ (∀ k, S1 k → ¬ S2 k) ∧ Below w.heap.size w w' := by
  have hu29 := Try.underlying29
  have hu68 := Try.underlying68
  have mixed : Try.prog.follows Departure.mixedOrders = true := by kernel_rfl
  have HX := Aside0.mk hX
  obtain ⟨hS, hSb, A, c, hB, hR⟩ := hX
  have HS := Aside0.mk hS
  have HSB := Aside0.mk hSb
  have BX := Aside0.mk hB
  have HR := Aside0.mk hR
  have HBS := Aside0.mk hbase
  clear hB hR hbase hS hSb
  have LZ := Aside0.mk (show l.length < 1000000000000 by omega)
  have HK := Aside0.mk hk
  have HL := Aside0.mk hlow
  clear hz hk hlow
  go_enter Try.func21, Try.ntmps21
  go_upto_region 1 with (first
    | ((with_reducible refine gate_dst (N := 3) rfl ?_); refine box_event ?hg (N := 3) ?hd (cs := #[.string at_]) (t := 9) ?hr ?_; (case hd => rfl); (case hg => rfl); (case hr => first | (go_simp; done) | (go_simp; rfl)); intro g3 hg_ wA hbox_ hb_; have B3a := Aside0.mk hbox_; have HBa := Aside0.mk hb_; have BXa := Aside0.mk (blk_below BX.out hb_); have HCa := Aside0.mk (Kd.C_below (Kd.R_reads' HR.out).2.2 hb_); have z1 : wA.cell? ⟨gb, 1, none⟩ = some (.slice A l.length c) := (blk_cell BXa.out 1).trans rfl; clear hb_ hbox_ hg_))
  have HF := Aside0.mk (cut_all k l key HK.out low HL.out B3a.out)
  go_upto_region 2 with (first
    | ((with_reducible refine gate_callee (f := 50) rfl ?_); (try (refine gate_guard (by rfl) ?_; dsimp only)); refine goesL_ (some 14) rfl rfl Try.func50 (by kernel_rfl) rfl #[.slice A l.length c, .func (.func 51) #[] #[.pointer (some ⟨g3, 0, none⟩)]] rfl (by (try simp only [List.map_toArray, List.map_cons, List.map_nil]); first | done | rfl) ?_; (refine (part_v wA A c l HCa.out LZ.out low 51 _ Try.func51 (by kernel_rfl) rfl #[.pointer (some ⟨g3, 0, none⟩)] HF.out).mono ?_); rintro en wB ⟨v1, v2, rfl, h1_, h2_, ha_, hb_⟩; obtain ⟨A1, c1, hv1_⟩ := Kd.R_slice h1_; obtain ⟨A2, c2, hv2_⟩ := Kd.R_slice h2_; subst hv1_; subst hv2_; refine ⟨_, rfl, ?_⟩; have HR1 := Aside0.mk h1_; have HR2 := Aside0.mk h2_; have AP := Aside0.mk ha_; have HBB := Aside0.mk (below_step HBa.out hb_); have BXB := Aside0.mk (blk_below BXa.out hb_); have LA := Aside0.mk HBa.out.size; clear h1_ h2_ ha_ hb_ z1))
  have z0 : wB.cell? ⟨gb, 0, none⟩ = some (.int .i64 mo) := (blk_cell BXB.out 0).trans rfl
  have NB := Aside0.mk (show ∀ k, w.heap.size ≤ k → k ≠ gb from fun k hk => by have := (HSB.out gb HS.out).2; omega)
  clear z0
  go_region_held3 (fun W : World => W.cell? ⟨gb, 0, none⟩ = some (.int .i64 mo)) (exact (blk_cell (by with_reducible repeat (first | exact BXB.out | refine blk_drewN ?_ _ | refine blk_drew ?_ | refine blk_alloc ?_ _)) 0).trans rfl) (first | fail)
  all_goals (try go_wp2)
  all_goals go_ret2
  · exact ⟨_, _, _, _, rfl, two_boxes HBB.out HR1.out HR2.out AP.out (by with_reducible repeat (first | exact Below.refl _ _ | refine below_alloc ?_ _ | refine below_drew ?_ | refine pw_below_drewN ?_ _)) (blk_two1 wB _ _) (blk_two2 wB _ _) (Nat.le_refl _) (Nat.le_succ _) (Nat.ne_of_lt (Nat.lt_succ_self _)) LA.out⟩
  · exact ⟨_, _, _, _, rfl, two_boxes HBB.out HR1.out HR2.out AP.out (by with_reducible repeat (first | exact Below.refl _ _ | refine below_alloc ?_ _ | refine below_drew ?_ | refine pw_below_drewN ?_ _)) (blk_two2 wB _ _) (blk_two1 wB _ _) (Nat.le_succ _) (Nat.le_refl _) (Nat.ne_of_gt (Nat.lt_succ_self _)) LA.out⟩
end Go.Proofs.Ytdaikljbljcagaa.Mw
namespace Go.Proofs.Ytdaikljbljcagaa.Mx
open Go Go.RowKit Go.Proofs.Ytdaikljbljcagaa.PAll Go.Proofs.YtdaikljbljcagaaW.PrintWords Go.Proofs.YtdaikljbljcagaaW.PrintLast Go.Proofs.Ytdaikljbljcagaa.Hl Go.Proofs.Ytdaikljbljcagaa.Fv Go.Proofs.Ytdaikljbljcagaa.Mc Go.Proofs.Ytdaikljbljcagaa.Me Go.Proofs.Ytdaikljbljcagaa.Mf Go.Proofs.Ytdaikljbljcagaa.Mi Go.Proofs.Ytdaikljbljcagaa.Mj Go.Proofs.Ytdaikljbljcagaa.Mk Go.Proofs.Ytdaikljbljcagaa.Ml Go.Proofs.Ytdaikljbljcagaa.Mm Go.Proofs.Ytdaikljbljcagaa.Ms Go.Proofs.Ytdaikljbljcagaa.Mt Go.Proofs.Ytdaikljbljcagaa.Mw Go.Proofs.Ytdaikljbljcagaa.Pn Go.Proofs.Ytdaikljbljcagaa.Pq
set_option linter.unusedSimpArgs false
set_option linter.unusedVariables false
theorem new_box {w wv W : World} {mo : Int} {l : List S29} {A : Option Addr} {c g : Nat} (h0 : Below w.heap.size w wv) (h1 : Kd.R k29 29 wv w.heap.size (fun _ => True) (.slice A l.length c) l) (hb : Below wv.heap.size wv W) (b1 : W.heap[g]? = some (.cells #[.int .i64 mo, .slice A l.length c] 68 (0, 0))) (e1 : wv.heap.size ≤ g) :
    Box 68 W w.heap.size (fun k => k = g ∨ (Value.slice A l.length c).ownBlock = some k) g mo l ∧ Below w.heap.size w W := by
  have hw : w.heap.size ≤ wv.heap.size := h0.size
  refine ⟨⟨.inl rfl, ?_, A, c, b1, Kd.R_below (Kd.R_reok rfl h1 (fun k hk => .inr hk)) hb⟩, below_step h0 hb⟩
  intro k hk
  rcases hk with rfl | hk
  · exact ⟨by omega, blk_lt b1⟩
  · have k1 := Kd.R_base h1 k hk
    have k2 := Kd.R_lt h1 k hk
    have k3 := hb.size
    exact ⟨by omega, by omega⟩
set_option maxHeartbeats 16000000 in
set_option maxRecDepth 100000 in
theorem Join_v (w : World) (base gb : Nat) (S : Nat → Prop) (mo : Int) (l : List S29) (hX : Box 68 w base S gb mo l) (hbase : base ≤ w.heap.size) (base2 gb2 : Nat) (S2 : Nat → Prop) (mo2 : Int) (l2 : List S29) (hY : Box 68 w base2 S2 gb2 mo2 l2) (wl : WfI l) (wl2 : WfI l2) (hz : l.length + l2.length < 1000000000) (fl : Bool) (hfl : fl = true ↔ ((newF (namesF l) l2).length : Int) > wrap64 (mo - (l.length : Int))) :
    Calls Try.prog 23 #[.pointer (some ⟨gb, 0, none⟩), .pointer (some ⟨gb2, 0, none⟩)] w fun en w' => ∃ g S', en = .returned (.tuple #[.pointer (if fl = true then none else some ⟨g, 0, none⟩), .int .i64 (if fl = true then 6 else 0)]) ∧ Below w.heap.size w w' ∧ (fl = false → Box 68 w' w.heap.size S' g mo (l ++ newF (namesF l) l2)) := by
  have hu29 := Try.underlying29
  have hu68 := Try.underlying68
  have mixed : Try.prog.follows Departure.mixedOrders = true := by kernel_rfl
  have HX := Aside0.mk hX
  obtain ⟨hS, hSb, A, c, hB, hR⟩ := hX
  have HS := Aside0.mk hS
  have HSB := Aside0.mk hSb
  have BX := Aside0.mk hB
  have HR := Aside0.mk hR
  have HBS := Aside0.mk hbase
  clear hB hR hbase hS hSb
  obtain ⟨-, -, A2, c2, hB2, hR2⟩ := hY
  have BY := Aside0.mk hB2
  have HC2w := Aside0.mk (Kd.R_reads' hR2).2.2
  have WL := Aside0.mk wl
  have WL2 := Aside0.mk wl2
  have LZ := Aside0.mk hz
  have HFL := Aside0.mk hfl
  have CT := Aside0.mk (show Kd.C k29 w.drew A l.length l from Kd.C_below (Kd.R_reads' HR.out).2.2 (below_drew (Below.refl _ _)))
  have CC := Aside0.mk (show l.length ≤ c from (Kd.R_reads' HR.out).2.1)
  have HD := Aside0.mk (show slices_Clone_api_Intent_api_Intent.f l = some l by unfold slices_Clone_api_Intent_api_Intent.f; rw [Option.bind_some, if_pos (by simp; omega), List.nil_append])
  clear hB2 hR2 wl wl2 hz hfl
  go_enter Try.func23, Try.ntmps23
  go_upto_region 1 with (fail)
  go_cut [6] from 8 to 18 (fun v6 wc => ∃ (g : Nat) (S' : Nat → Prop), v6 = .pointer (some ⟨g, 0, none⟩) ∧ Aside0 (Box 68 wc w.heap.size S' g mo l) ∧ Aside0 (Below w.heap.size w wc))
  case first =>
    go_region_held3 (fun W : World => W.cell? ⟨gb, 0, none⟩ = some (.int .i64 mo) ∧ W.cell? ⟨gb, 1, none⟩ = some (.slice A l.length c)) (exact ⟨(blk_cell (by with_reducible repeat (first | exact BX.out | exact BXn.out | refine blk_drewN ?_ _ | refine blk_drew ?_ | refine blk_alloc ?_ _)) 0).trans rfl, (blk_cell (by with_reducible repeat (first | exact BX.out | exact BXn.out | refine blk_drewN ?_ _ | refine blk_drew ?_ | refine blk_alloc ?_ _)) 1).trans rfl⟩) (first
      | (go_at_call 27; (refine (slices_Clone_api_Intent_api_Intent.calls A c l l _ ?s1 ?s2 HD.out).mono ?_); (case s1 => exact CT.out); (case s2 => exact CC.out); rintro en wv ⟨v_, rfl, hR_, hb_⟩; obtain ⟨AR, cR, hv_⟩ := Kd.R_slice hR_; subst hv_; have HR1 := Aside0.mk hR_; have BXn := Aside0.mk (blk_below (blk_drew BX.out) hb_); have HB1 := Aside0.mk (below_step (below_drew (Below.refl w.heap.size w)) hb_); clear hR_ hb_))
    all_goals (try go_wp2)
    all_goals go_meet
    all_goals (case rel => exact ⟨_, _, rfl, Aside0.mk (new_box HB1.out HR1.out (by with_reducible repeat (first | exact Below.refl _ _ | refine below_alloc ?_ _ | refine below_drew ?_ | refine pw_below_drewN ?_ _)) (heap_alloc_new _ _) (Nat.le_refl _)).1, Aside0.mk (new_box HB1.out HR1.out (by with_reducible repeat (first | exact Below.refl _ _ | refine below_alloc ?_ _ | refine below_drew ?_ | refine pw_below_drewN ?_ _)) (heap_alloc_new _ _) (Nat.le_refl _)).2⟩)
  case rest =>
    obtain ⟨g, S', rfl, HXc, HBc⟩ := hcut
    have BYc := Aside0.mk (blk_below BY.out HBc.out)
    have HC2 := Aside0.mk (Kd.C_below HC2w.out HBc.out)
    have y1 : wc.cell? ⟨gb2, 1, none⟩ = some (.slice A2 l2.length c2) := (blk_cell BYc.out 1).trans rfl
    go_upto_region 3 with (first
      | ((with_reducible refine gate_callee (f := 40) rfl ?_); (try (refine gate_guard (by rfl) ?_; dsimp only)); refine goesL_ (some 24) rfl rfl Try.func40 (by kernel_rfl) rfl #[.pointer (some ⟨g, 0, none⟩), .slice A2 l2.length c2] rfl (by (try simp only [List.map_toArray, List.map_cons, List.map_nil]); first | done | rfl) ?_; (refine (add_v wc w.heap.size g S' mo l HXc.out HBc.out.size A2 c2 l2 HC2.out WL.out WL2.out LZ.out _ rfl).mono ?_); rintro en w2 ⟨full, hf_, he_, SN, hx_, hu_⟩; obtain ⟨ev, hev⟩ : ∃ ev : Int, (if full = true then (6 : Int) else 0) = ev := ⟨_, rfl⟩; rw [hev] at he_; subst he_; have HEV := Aside0.mk hev; clear hev; refine ⟨_, rfl, ?_⟩; have HF := Aside0.mk hf_; have HX2 := Aside0.mk hx_; have HU := Aside0.mk hu_; clear hf_ hx_ hu_))
    have HE := Aside0.mk (show full = fl from by rw [Bool.eq_iff_iff, HFL.out]; exact HF.out)
    clear y1
    cases full with
    | true =>
      obtain rfl := HE.out
      obtain rfl : (6 : Int) = ev := HEV.out
      go_wp2
      go_ret2
      exact ⟨rfl, HBc.out.trans HU.out.below⟩
    | false =>
      obtain rfl := HE.out
      obtain rfl : (0 : Int) = ev := HEV.out
      go_wp2
      go_ret2
      exact ⟨g, rfl, HBc.out.trans HU.out.below, SN, HX2.out⟩
end Go.Proofs.Ytdaikljbljcagaa.Mx
namespace Go.Proofs.Ytdaikljbljcagaa.My
open Go Go.RowKit Go.Proofs.Ytdaikljbljcagaa.PAll Go.Proofs.YtdaikljbljcagaaW.PrintWords Go.Proofs.YtdaikljbljcagaaW.PrintLast Go.Proofs.Ytdaikljbljcagaa.Hl Go.Proofs.Ytdaikljbljcagaa.Fv Go.Proofs.Ytdaikljbljcagaa.Mc Go.Proofs.Ytdaikljbljcagaa.Me Go.Proofs.Ytdaikljbljcagaa.Mi Go.Proofs.Ytdaikljbljcagaa.Mj Go.Proofs.Ytdaikljbljcagaa.Mm Go.Proofs.Ytdaikljbljcagaa.Mo Go.Proofs.Ytdaikljbljcagaa.Mw Go.Proofs.Ytdaikljbljcagaa.Mx Go.Proofs.Ytdaikljbljcagaa.Pn Go.Proofs.Ytdaikljbljcagaa.Pq
set_option linter.unusedSimpArgs false
set_option linter.unusedVariables false
section
variable {P : Program} {ops : Array Oper} {o : Oper} {a : Act} {Q : Exit → Act → World → Prop} {Kc : Act → World → Prop} {α : Type}
theorem R_append_step2 (d : Kd α) {w0 W V : World} (base : Nat) (hw : Region.wanted o (yielded ops a.tmps) = true) (s x : Operand) (t e : TypeId) (z : Value) (bytes : Nat)
    (ho : o.op = .call { callee := .builtin .append, args := #[s, x], argTypes := #[t, t] })
    (ht : P.underlying t = some (.slice e)) (hinfo : (P.info? e).map (fun i => (i.zero, i.size, i.bytes)) = some (some z, d.sz, bytes)) (hz : z.cells.size = d.sz) (hs0 : 0 < d.sz) (hb0 : 0 < bytes)
    (v : Value) (xs : List α) (p : α) (cs : List Value) (ok okp : Nat → Prop) (hs : a.eval s = v) (hx : a.eval x = .slice (some ⟨W.heap.size, 0, none⟩) 1 1) (hp : d.M W base okp p cs) (hokp : ∀ k, okp k → ok k ∧ some k ≠ v.ownBlock) (hfresh : ∀ k, W.heap.size ≤ k → ok k)
    (HO : d.R e W base ok v xs) (HB : Below base w0 W) (hbase : base ≤ W.heap.size) (hl : (xs.length + 1) * bytes ≤ 140737488355328)
    (hV : V = W.alloc (.cells cs.toArray e)) (h : ∀ A c w1, d.R e w1 base ok (.slice A (xs ++ [p]).length c) (xs ++ [p]) → Below base w0 w1 → W.grownBy w1 v.ownBlock → Kc (a.put o.dst (.slice A (xs ++ [p]).length c)) w1) :
    if Region.wanted o (yielded ops a.tmps) = true then Oper.wp P o a V Kc Q else Kc (a.put o.dst undef) V := by
  rw [hV]
  exact Kd.R_append_step d base hw s x t e z bytes ho ht hinfo hz hs0 hb0 v xs p cs ok okp hs hx hp hokp hfresh HO HB hbase hl fun v1 w1 ho1 hb1 hg1 _ => by
    obtain ⟨A, c, rfl⟩ := Kd.R_slice ho1
    exact h A c w1 ho1 hb1 hg1
end
theorem box_app {w B : World} {base gb : Nat} {S : Nat → Prop} {mo : Int} {l r : List S29} {A A4 : Option Addr} {c c4 : Nat} (HS : S gb) (HSB : ∀ k, S k → base ≤ k ∧ k < w.heap.size) (HBS : base ≤ w.heap.size) (hB : w.heap[gb]? = some (.cells #[.int .i64 mo, .slice A l.length c] 70 (0, 0))) (hR : Kd.R k29 29 w base S (.slice A l.length c) l) (hb : Below base w B) (hg : w.grownBy B (Value.slice A l.length c).ownBlock) (ho : Kd.R k29 29 B base (fun k => S k ∨ w.heap.size ≤ k) (.slice A4 r.length c4) r) (hBX : B.heap[gb]? = some (.cells #[.int .i64 mo, .slice A l.length c] 70 (0, 0))) :
    Box 70 (B.setCell ⟨gb, 1, none⟩ (.slice A4 r.length c4)) base (fun k => (S k ∨ w.heap.size ≤ k) ∧ k < B.heap.size) gb mo r ∧ Upd w (B.setCell ⟨gb, 1, none⟩ (.slice A4 r.length c4)) base S (fun k => (S k ∨ w.heap.size ≤ k) ∧ k < B.heap.size) := by
  have HK := kept_grown (Kept.of_below (Below.refl _ w) S) hg (fun k_ hk_ => .inl (hR.1 k_ hk_))
  refine ⟨⟨⟨.inl HS, blk_lt hBX⟩, ?_, ?_⟩, ⟨Below.setCell hb (p := ⟨gb, 1, none⟩) (HSB gb HS).1 _, kept_set HK (.inl HS) _, fun k hk => hk.1⟩⟩
  · intro k hk
    refine ⟨?_, by have := hk.2; simpa [World.setCell] using this⟩
    rcases hk.1 with h1 | h1
    · exact (HSB k h1).1
    · exact Nat.le_trans HBS h1
  · exact ⟨A4, c4, blk_put hBX 1 _ rfl, Kd.R_set (Kd.R_mono (Kd.R_bound ho) (fun k hk => ⟨hk.1, hk.2.2.1⟩)) hBX (by decide) 1 _⟩
theorem two_new {w wB W : World} {mo : Int} {g1 g2 : Nat} (h0 : Below w.heap.size w wB) (hb : Below wB.heap.size wB W)
    (b1 : W.heap[g1]? = some (.cells #[.int .i64 mo, .slice none 0 0] 70 (0, 0))) (b2 : W.heap[g2]? = some (.cells #[.int .i64 mo, .slice none 0 0] 70 (0, 0))) (e1 : wB.heap.size ≤ g1) (e2 : wB.heap.size ≤ g2) (hne : g1 ≠ g2) :
    Box 70 W w.heap.size (fun k => k = g1) g1 mo [] ∧ Box 70 W w.heap.size (fun k => k = g2) g2 mo [] ∧ (∀ k, k = g1 → ¬ k = g2) ∧ Below w.heap.size w W := by
  have hw : w.heap.size ≤ wB.heap.size := h0.size
  refine ⟨⟨rfl, ?_, none, 0, b1, Kd.R_nil _ _ _ _ _⟩, ⟨rfl, ?_, none, 0, b2, Kd.R_nil _ _ _ _ _⟩, fun k h1 h2 => hne (h1.symm.trans h2), below_step h0 hb⟩
  · rintro k rfl
    exact ⟨by omega, blk_lt b1⟩
  · rintro k rfl
    exact ⟨by omega, blk_lt b2⟩
set_option maxHeartbeats 16000000 in
set_option maxRecDepth 100000 in
theorem rCut_v (w : World) (base gb : Nat) (S : Nat → Prop) (mo : Int) (l : List S29) (hX : Box 70 w base S gb mo l) (hbase : base ≤ w.heap.size) (at_ : ByteArray) (hz : l.length < 1000000000) (k : Nat) (key : S29 → ByteArray) (hk : ∀ x ∈ l, ∃ r1 r2 r4, shelfmarkref04_Parse.f k x.f0 = some (r1, r2, key x, r4)) (low : S29 → Bool) (hlow : low = fun x => Op.bytesLess (key x).toList at_.toList) :
    Calls Try.prog 22 #[.pointer (some ⟨gb, 0, none⟩), .string at_] w fun en w' => ∃ gx gy S1 S2, en = .returned (.tuple #[.pointer (some ⟨gx, 0, none⟩), .pointer (some ⟨gy, 0, none⟩)]) ∧ Box 70 w' w.heap.size S1 gx mo (l.filter low) ∧ Box 70 w' w.heap.size S2 gy mo (l.filter (fun x => !low x)) ∧ (∀ k, S1 k → ¬ S2 k) ∧ Below w.heap.size w w' := by
  have hu29 := Try.underlying29
  have hu70 := Try.underlying70
  have mixed : Try.prog.follows Departure.mixedOrders = true := by kernel_rfl
  have HX := Aside0.mk hX
  obtain ⟨hS, hSb, A, c, hB, hR⟩ := hX
  have HS := Aside0.mk hS
  have HSB := Aside0.mk hSb
  have BX := Aside0.mk hB
  have HR := Aside0.mk hR
  have HBS := Aside0.mk hbase
  clear hB hR hbase hS hSb
  have hu75 := Try.underlying75
  have LZ := Aside0.mk hz
  have HPA := Aside0.mk hk
  have HLW := Aside0.mk hlow
  have HC := Aside0.mk (Kd.R_reads' HR.out).2.2
  clear hz hk hlow
  go_enter Try.func22, Try.ntmps22
  go_upto_region 1 with (fail)
  go_cut [6, 7] from 9 to 20 (fun v6 v7 wc => ∃ (gx gy : Nat), v6 = .pointer (some ⟨gx, 0, none⟩) ∧ v7 = .pointer (some ⟨gy, 0, none⟩) ∧ Aside0 (Box 70 wc w.heap.size (fun k => k = gx) gx mo [] ∧ Box 70 wc w.heap.size (fun k => k = gy) gy mo [] ∧ (∀ k, k = gx → ¬ k = gy) ∧ Below w.heap.size w wc))
  case first =>
    have z0 : w.cell? ⟨gb, 0, none⟩ = some (.int .i64 mo) := (blk_cell BX.out 0).trans rfl
    clear z0
    go_region_held3 (fun W : World => W.cell? ⟨gb, 0, none⟩ = some (.int .i64 mo)) (exact (blk_cell (by with_reducible repeat (first | exact BX.out | refine blk_drewN ?_ _ | refine blk_drew ?_ | refine blk_alloc ?_ _)) 0).trans rfl) (first | fail)
    all_goals (try go_wp2)
    all_goals go_meet
    all_goals (case rel => first
      | exact ⟨_, _, rfl, rfl, ⟨two_new (Below.refl _ w) (by with_reducible repeat (first | exact Below.refl _ _ | refine below_alloc ?_ _ | refine below_drew ?_ | refine pw_below_drewN ?_ _)) (blk_two1 w _ _) (blk_two2 w _ _) (Nat.le_refl _) (Nat.le_succ _) (Nat.ne_of_lt (Nat.lt_succ_self _))⟩⟩
      | exact ⟨_, _, rfl, rfl, ⟨two_new (Below.refl _ w) (by with_reducible repeat (first | exact Below.refl _ _ | refine below_alloc ?_ _ | refine below_drew ?_ | refine pw_below_drewN ?_ _)) (blk_two2 w _ _) (blk_two1 w _ _) (Nat.le_succ _) (Nat.le_refl _) (Nat.ne_of_gt (Nat.lt_succ_self _))⟩⟩)
  case rest =>
    obtain ⟨gx, gy, rfl, rfl, HN⟩ := hcut
    go_wp2
    go_loopg [8] l.length (fun kq v8 wr => ∃ (j : Nat) (Sx Sy : Nat → Prop), v8 = .int .i64 (j : Int) ∧ Aside0 (j ≤ l.length ∧ l.length - j ≤ kq) ∧ Aside0 (Below w.heap.size w wr) ∧ Aside0 (Box 70 wr w.heap.size Sx gx mo ((l.take j).filter low)) ∧ Aside0 (Box 70 wr w.heap.size Sy gy mo ((l.take j).filter (fun x => !low x))) ∧ Aside0 (∀ k, Sx k → ¬ Sy k))
    case atStart => exact ⟨0, _, _, rfl, ⟨Nat.zero_le _, Nat.le_refl _⟩, ⟨HN.out.2.2.2⟩, ⟨HN.out.1⟩, ⟨HN.out.2.1⟩, ⟨HN.out.2.2.1⟩⟩
    case round =>
      obtain ⟨j, Sx, Sy, rfl, HI, HBr, HXr, HYr, HD⟩ := hrel
      have BXr := Aside0.mk (blk_below BX.out HBr.out)
      by_cases hlt : j < l.length
      · obtain ⟨ad, hA, hx⟩ := at_T29 (Kd.C_below HC.out HBr.out) (j : Int) (by omega) (by omega)
        rw [rd29_at l j hlt, Int.toNat_natCast] at hx
        obtain ⟨p_, hp_⟩ : ∃ p_, p_ = l[j] := ⟨_, rfl⟩
        obtain ⟨kk, hkk⟩ : ∃ kk, kk = key p_ := ⟨_, rfl⟩
        obtain ⟨bb, hbb⟩ : ∃ bb, bb = low p_ := ⟨_, rfl⟩
        have QB := Aside0.mk (show Op.bytesLess kk.toList at_.toList = bb by rw [hbb, hkk, HLW.out])
        have HPx := Aside0.mk (show ∃ r1 r2 r4, shelfmarkref04_Parse.f k p_.f0 = some (r1, r2, kk, r4) by rw [hkk]; exact HPA.out p_ (by rw [hp_]; exact List.getElem_mem hlt))
        have HSx0 := Aside0.mk (show (l.take (j + 1)).filter low = (l.take j).filter low ++ (if bb then [p_] else []) by rw [filter_step low l j hlt, hbb, hp_])
        have HSy0 := Aside0.mk (show (l.take (j + 1)).filter (fun x => !low x) = (l.take j).filter (fun x => !low x) ++ (if bb then [] else [p_]) by rw [filter_step _ l j hlt, hbb, hp_]; cases low l[j] <;> rfl)
        obtain ⟨ox, hox⟩ : ∃ ox, ox = (l.take j).filter low := ⟨_, rfl⟩
        obtain ⟨oy, hoy⟩ : ∃ oy, oy = (l.take j).filter (fun x => !low x) := ⟨_, rfl⟩
        have LOx := Aside0.mk (show ox.length ≤ l.length by rw [hox]; exact Nat.le_trans (List.length_filter_le _ _) (by rw [List.length_take]; omega))
        have LOy := Aside0.mk (show oy.length ≤ l.length by rw [hoy]; exact Nat.le_trans (List.length_filter_le _ _) (by rw [List.length_take]; omega))
        rw [← hox] at HSx0 HXr
        rw [← hoy] at HSy0 HYr
        rw [← hp_] at hx
        have HXc := Aside0.mk hx
        obtain ⟨hx0, hx1, hx2⟩ := hx
        have q1 : decide ((j : Int) < (l.length : Int)) = true := decide_eq_true (by omega)
        have q2 : (j : Int) < (l.length : Int) := by omega
        have HIL := Aside0.mk (show j < l.length from hlt)
        subst hA
        have x1 : wr.cell? ⟨gb, 1, none⟩ = some (.slice (some ad) l.length c) := (blk_cell BXr.out 1).trans rfl
        clear hp_ hlt hkk hbb hox hoy
        cases bb with
        | true =>
          have HSx := Aside0.mk (show (l.take (j + 1)).filter low = ox ++ [p_] by rw [HSx0.out]; rfl)
          have HSy := Aside0.mk (show (l.take (j + 1)).filter (fun x => !low x) = oy by rw [HSy0.out]; exact List.append_nil _)
          have LO := LOx
          have q3 : Op.bytesLess kk.toList at_.toList = true := QB.out
          go_upto_region 6 with (first
            | ((with_reducible refine gate_callee (f := 41) rfl ?_); refine goesL_ (some 38) rfl rfl Try.func41 (by kernel_rfl) rfl #[.string p_.f0] rfl (by (try simp only [List.map_toArray, List.map_cons, List.map_nil]); first | done | rfl) ?_; obtain ⟨r1_, r2_, r4_, hp_⟩ := HPx.out; (refine (shelfmarkref04_Parse.calls k p_.f0 r1_ r2_ kk r4_ wr hp_).mono ?_); rintro en wq ⟨v1_, rfl, hR_, hb_⟩; obtain ⟨Av_, cv_, hv_⟩ := Kd.R_slice hR_; subst hv_; have hfl := field75_2 wq r1_ Av_ r2_.length cv_ kk r4_; refine ⟨_, rfl, ?_⟩; have HBq := Aside0.mk (below_step HBr.out hb_); have HXq := Aside0.mk (HXr.out.below hb_); have HYq := Aside0.mk (HYr.out.below hb_); have BXq := Aside0.mk (blk_below BXr.out hb_); clear x1; have x1 : wq.cell? ⟨gb, 1, none⟩ = some (.slice (some ad) l.length c) := (blk_cell BXq.out 1).trans rfl; obtain ⟨hz0, hz1, hz2⟩ := (show (wq.cell? (ad.add (j * 3)) = some (.string p_.f0) ∧ wq.cell? ⟨(ad.add (j * 3)).block, (ad.add (j * 3)).off + 1, none⟩ = some (.int .i64 p_.f1) ∧ wq.cell? ⟨(ad.add (j * 3)).block, (ad.add (j * 3)).off + 2, none⟩ = some (.bool p_.f2)) from cells3 HXc.out hb_); clear hb_ hR_ hx0 hx1 hx2))
          clear q3 hfl
          obtain ⟨s9, h9, A9, c9, b9, r9⟩ := HXq.out
          have B9 := Aside0.mk b9
          have R9 := Aside0.mk r9
          have S9 := Aside0.mk s9
          have T9 := Aside0.mk h9
          clear b9 r9 s9 h9
          have z1 : wq.cell? ⟨gx, 1, none⟩ = some (.slice A9 ox.length c9) := (blk_cell B9.out 1).trans rfl
          have za : (wq.alloc (.cells #[.string p_.f0, .int .i64 p_.f1, .bool p_.f2] 29)).cell? ⟨gx, 1, none⟩ = some (.slice A9 ox.length c9) := (blk_cell (blk_alloc B9.out _) 1).trans rfl
          have xa : (wq.alloc (.cells #[.string p_.f0, .int .i64 p_.f1, .bool p_.f2] 29)).cell? ⟨gb, 1, none⟩ = some (.slice (some ad) l.length c) := (blk_cell (blk_alloc BXq.out _) 1).trans rfl
          go_region_law (first
            | (refine R_append_step2 k29 (w0 := wq.drew) (W := wq.drew) w.heap.size (by rfl) (.tmp 46) (.tmp 54) 22 29 (.agg #[(.string ⟨#[]⟩), (.int .i64 0), (.bool false)]) 32 rfl Try.underlying22 info29 rfl (by decide) (by omega) (.slice A9 ox.length c9) ox p_ [.string p_.f0, .int .i64 p_.f1, .bool p_.f2] (fun k => Sx k ∨ wq.heap.size ≤ k) (fun _ => False) rfl rfl ?aP (fun _ hk => hk.elim) ?aF ?aO ?aB ?aS ?aL rfl ?_; (case aP => exact k29_mkM _ _ _ p_); (case aB => exact Below.refl _ _); (case aF => exact (fun k_ hk_ => .inr hk_)); (case aO => exact Kd.R_mono (Kd.R_drew R9.out) (fun _ hk_ => .inl hk_)); (case aS => exact HBq.out.size); (case aL => have h1 := LO.out; have h2 := LZ.out; omega); intro AQ cQ wc2 ho hb hg; have HOc := Aside0.mk ho; have HBc := Aside0.mk hb; have HGc := Aside0.mk hg; have BXc := Aside0.mk (blk_grown (blk_drew B9.out) hg (Kd.R_ne R9.out B9.out (by decide))); have yc := blk_frozen BXc.out 1; have zc : wc2.cell? ⟨gx, 1, none⟩ = some (.slice A9 ox.length c9) := (blk_cell BXc.out 1).trans rfl; clear ho hb hg))
          all_goals go_wp2
          all_goals go_roundg (l.length - (j + 1))
          all_goals (try (case measure => have := HI.out.2; have := HIL.out; omega))
          all_goals (case rel =>
            have u_ := box_app (w := wq.drew) (B := wc2) S9.out T9.out HBq.out.size (blk_drew B9.out) (Kd.R_drew R9.out) HBc.out HGc.out HOc.out BXc.out
            obtain ⟨u1, u2⟩ := u_
            simp only [List.length_append, List.length_singleton] at u1 u2
            have d1 := (Upd.of_below (below_drew (Below.refl _ wq)) HBq.out.size).trans u2
            exact ⟨j + 1, _, Sy, by first | rfl | (congr 1; exact Go.IntWalk.wrap64_in _ (by have h1 := LZ.out; have h2 := HIL.out; omega)), ⟨HIL.out, Nat.le_refl _⟩, ⟨HBq.out.trans d1.below⟩, ⟨by rw [HSx.out]; exact u1⟩, ⟨by rw [HSy.out]; exact HYq.out.frame d1.kept (fun k h1 h2 => HD.out k h2 h1)⟩, ⟨d1.apart HD.out (fun k hk => (HYq.out.2.1 k hk).2)⟩⟩)
        | false =>
          have HSx := Aside0.mk (show (l.take (j + 1)).filter low = ox by rw [HSx0.out]; exact List.append_nil _)
          have HSy := Aside0.mk (show (l.take (j + 1)).filter (fun x => !low x) = oy ++ [p_] by rw [HSy0.out]; rfl)
          have LO := LOy
          have q3 : Op.bytesLess kk.toList at_.toList = false := QB.out
          go_upto_region 7 with (first
            | ((with_reducible refine gate_callee (f := 41) rfl ?_); refine goesL_ (some 38) rfl rfl Try.func41 (by kernel_rfl) rfl #[.string p_.f0] rfl (by (try simp only [List.map_toArray, List.map_cons, List.map_nil]); first | done | rfl) ?_; obtain ⟨r1_, r2_, r4_, hp_⟩ := HPx.out; (refine (shelfmarkref04_Parse.calls k p_.f0 r1_ r2_ kk r4_ wr hp_).mono ?_); rintro en wq ⟨v1_, rfl, hR_, hb_⟩; obtain ⟨Av_, cv_, hv_⟩ := Kd.R_slice hR_; subst hv_; have hfl := field75_2 wq r1_ Av_ r2_.length cv_ kk r4_; refine ⟨_, rfl, ?_⟩; have HBq := Aside0.mk (below_step HBr.out hb_); have HXq := Aside0.mk (HXr.out.below hb_); have HYq := Aside0.mk (HYr.out.below hb_); have BXq := Aside0.mk (blk_below BXr.out hb_); clear x1; have x1 : wq.cell? ⟨gb, 1, none⟩ = some (.slice (some ad) l.length c) := (blk_cell BXq.out 1).trans rfl; obtain ⟨hz0, hz1, hz2⟩ := (show (wq.cell? (ad.add (j * 3)) = some (.string p_.f0) ∧ wq.cell? ⟨(ad.add (j * 3)).block, (ad.add (j * 3)).off + 1, none⟩ = some (.int .i64 p_.f1) ∧ wq.cell? ⟨(ad.add (j * 3)).block, (ad.add (j * 3)).off + 2, none⟩ = some (.bool p_.f2)) from cells3 HXc.out hb_); clear hb_ hR_ hx0 hx1 hx2))
          clear q3 hfl
          obtain ⟨s9, h9, A9, c9, b9, r9⟩ := HYq.out
          have B9 := Aside0.mk b9
          have R9 := Aside0.mk r9
          have S9 := Aside0.mk s9
          have T9 := Aside0.mk h9
          clear b9 r9 s9 h9
          have z1 : wq.cell? ⟨gy, 1, none⟩ = some (.slice A9 oy.length c9) := (blk_cell B9.out 1).trans rfl
          have za : (wq.alloc (.cells #[.string p_.f0, .int .i64 p_.f1, .bool p_.f2] 29)).cell? ⟨gy, 1, none⟩ = some (.slice A9 oy.length c9) := (blk_cell (blk_alloc B9.out _) 1).trans rfl
          have xa : (wq.alloc (.cells #[.string p_.f0, .int .i64 p_.f1, .bool p_.f2] 29)).cell? ⟨gb, 1, none⟩ = some (.slice (some ad) l.length c) := (blk_cell (blk_alloc BXq.out _) 1).trans rfl
          go_region_law (first
            | (refine R_append_step2 k29 (w0 := wq.drew) (W := wq.drew) w.heap.size (by rfl) (.tmp 62) (.tmp 70) 22 29 (.agg #[(.string ⟨#[]⟩), (.int .i64 0), (.bool false)]) 32 rfl Try.underlying22 info29 rfl (by decide) (by omega) (.slice A9 oy.length c9) oy p_ [.string p_.f0, .int .i64 p_.f1, .bool p_.f2] (fun k => Sy k ∨ wq.heap.size ≤ k) (fun _ => False) rfl rfl ?aP (fun _ hk => hk.elim) ?aF ?aO ?aB ?aS ?aL rfl ?_; (case aP => exact k29_mkM _ _ _ p_); (case aB => exact Below.refl _ _); (case aF => exact (fun k_ hk_ => .inr hk_)); (case aO => exact Kd.R_mono (Kd.R_drew R9.out) (fun _ hk_ => .inl hk_)); (case aS => exact HBq.out.size); (case aL => have h1 := LO.out; have h2 := LZ.out; omega); intro AQ cQ wc2 ho hb hg; have HOc := Aside0.mk ho; have HBc := Aside0.mk hb; have HGc := Aside0.mk hg; have BXc := Aside0.mk (blk_grown (blk_drew B9.out) hg (Kd.R_ne R9.out B9.out (by decide))); have yc := blk_frozen BXc.out 1; have zc : wc2.cell? ⟨gy, 1, none⟩ = some (.slice A9 oy.length c9) := (blk_cell BXc.out 1).trans rfl; clear ho hb hg))
          all_goals go_wp2
          all_goals go_roundg (l.length - (j + 1))
          all_goals (try (case measure => have := HI.out.2; have := HIL.out; omega))
          all_goals (case rel =>
            have u_ := box_app (w := wq.drew) (B := wc2) S9.out T9.out HBq.out.size (blk_drew B9.out) (Kd.R_drew R9.out) HBc.out HGc.out HOc.out BXc.out
            obtain ⟨u1, u2⟩ := u_
            simp only [List.length_append, List.length_singleton] at u1 u2
            have d1 := (Upd.of_below (below_drew (Below.refl _ wq)) HBq.out.size).trans u2
            exact ⟨j + 1, Sx, _, by first | rfl | (congr 1; exact Go.IntWalk.wrap64_in _ (by have h1 := LZ.out; have h2 := HIL.out; omega)), ⟨HIL.out, Nat.le_refl _⟩, ⟨HBq.out.trans d1.below⟩, ⟨by rw [HSx.out]; exact HXq.out.frame d1.kept HD.out⟩, ⟨by rw [HSy.out]; exact u1⟩, ⟨fun k h1 h2 => d1.apart (fun k h3 h4 => HD.out k h4 h3) (fun k hk => (HXq.out.2.1 k hk).2) k h2 h1⟩⟩)
      · obtain rfl : j = l.length := by have := HI.out.1; omega
        have q1 : decide ((l.length : Int) < (l.length : Int)) = false := decide_eq_false (by omega)
        have x1 : wr.cell? ⟨gb, 1, none⟩ = some (.slice A l.length c) := (blk_cell BXr.out 1).trans rfl
        rw [List.take_length] at HXr HYr
        clear hlt HI
        go_wp2
        go_ret2
        exact ⟨gx, gy, Sx, Sy, rfl, HXr.out, HYr.out, HD.out, HBr.out⟩
end Go.Proofs.Ytdaikljbljcagaa.My
namespace Go.Proofs.Ytdaikljbljcagaa.Mz
open Go Go.RowKit Go.Proofs.Ytdaikljbljcagaa.PAll Go.Proofs.YtdaikljbljcagaaW.PrintWords Go.Proofs.YtdaikljbljcagaaW.PrintLast Go.Proofs.Ytdaikljbljcagaa.Hl Go.Proofs.Ytdaikljbljcagaa.Fv Go.Proofs.Ytdaikljbljcagaa.Mc Go.Proofs.Ytdaikljbljcagaa.Me Go.Proofs.Ytdaikljbljcagaa.Mi Go.Proofs.Ytdaikljbljcagaa.Mj Go.Proofs.Ytdaikljbljcagaa.Mm Go.Proofs.Ytdaikljbljcagaa.Mo Go.Proofs.Ytdaikljbljcagaa.Mw Go.Proofs.Ytdaikljbljcagaa.Mx Go.Proofs.Ytdaikljbljcagaa.My Go.Proofs.Ytdaikljbljcagaa.Pn Go.Proofs.Ytdaikljbljcagaa.Pq
set_option linter.unusedSimpArgs false
set_option linter.unusedVariables false
section
variable {P : Program} {ops : Array Oper} {o : Oper} {a : Act} {Q : Exit → Act → World → Prop} {Kc : Act → World → Prop} {α : Type}
theorem R_append_rows_step2 (d : Kd α) {Rr : α → List Value → Prop} {w0 W : World} (base : Nat) (hw : Region.wanted o (yielded ops a.tmps) = true) (s x : Operand) (t e : TypeId) (z : Value) (bytes : Nat)
    (ho : o.op = .call { callee := .builtin .append, args := #[s, x], argTypes := #[t, t] })
    (ht : P.underlying t = some (.slice e)) (hinfo : (P.info? e).map (fun i => (i.zero, i.size, i.bytes)) = some (some z, d.sz, bytes)) (hz : z.cells.size = d.sz) (hs0 : 0 < d.sz) (hb0 : 0 < bytes)
    (v : Value) (xs ys : List α) (A : Option Addr) (m c : Nat) (ok okp : Nat → Prop) (hs : a.eval s = v) (hx : a.eval x = .slice A m c)
    (HO : d.R e W base ok v xs) (HR : ReadsRow Rr d.sz W A m ys) (hKM : ∀ x cs, Rr x cs → d.M W base okp x cs) (hokp : ∀ k, okp k → ok k ∧ some k ≠ v.ownBlock) (hfresh : ∀ k, W.heap.size ≤ k → ok k)
    (HB : Below base w0 W) (hbase : base ≤ W.heap.size) (hl : (xs.length + m) * bytes ≤ 140737488355328)
    (h : ∀ A c w1, d.R e w1 base ok (.slice A (xs ++ ys).length c) (xs ++ ys) → Below base w0 w1 → W.grownBy w1 v.ownBlock → Kc (a.put o.dst (.slice A (xs ++ ys).length c)) w1) :
    if Region.wanted o (yielded ops a.tmps) = true then Oper.wp P o a W Kc Q else Kc (a.put o.dst undef) W :=
  Kd.R_append_rows_step d base hw s x t e z bytes ho ht hinfo hz hs0 hb0 v xs ys A m c ok okp hs hx HO HR hKM hokp hfresh HB hbase hl fun v1 w1 ho1 hb1 hg1 _ => by
    obtain ⟨A, c, rfl⟩ := Kd.R_slice ho1
    exact h A c w1 ho1 hb1 hg1
end
set_option maxHeartbeats 16000000 in
set_option maxRecDepth 100000 in
theorem rJoin_v (w : World) (base gb : Nat) (S : Nat → Prop) (mo : Int) (l : List S29) (hX : Box 70 w base S gb mo l) (hbase : base ≤ w.heap.size) (base2 gb2 : Nat) (S2 : Nat → Prop) (mo2 : Int) (l2 : List S29) (hY : Box 70 w base2 S2 gb2 mo2 l2) (k : Nat) (hN : ∀ j (h : j < l2.length), shelfmarkref18_Named.f k (onceG l (l2.take j)) l2[j].f0 l2[j].f1 l2[j].f2 = some (namedIn (onceG l (l2.take j)) l2[j])) (hz : l.length + l2.length < 1000000000) (fl : Bool) (hfl : fl = true ↔ ((onceG l l2).length : Int) > mo) :
    Calls Try.prog 24 #[.pointer (some ⟨gb, 0, none⟩), .pointer (some ⟨gb2, 0, none⟩)] w fun en w' => ∃ g S', en = .returned (.tuple #[.pointer (if fl = true then none else some ⟨g, 0, none⟩), .int .i64 (if fl = true then 6 else 0)]) ∧ Below w.heap.size w w' ∧ (fl = false → Box 70 w' w.heap.size S' g mo (onceG l l2)) := by
  have hu29 := Try.underlying29
  have hu70 := Try.underlying70
  have mixed : Try.prog.follows Departure.mixedOrders = true := by kernel_rfl
  have HX := Aside0.mk hX
  obtain ⟨hS, hSb, A, c, hB, hR⟩ := hX
  have HS := Aside0.mk hS
  have HSB := Aside0.mk hSb
  have BX := Aside0.mk hB
  have HR := Aside0.mk hR
  have HBS := Aside0.mk hbase
  clear hB hR hbase hS hSb
  obtain ⟨-, -, A2, c2, hB2, hR2⟩ := hY
  have BY := Aside0.mk hB2
  have HC2w := Aside0.mk (Kd.R_reads' hR2).2.2
  have HNA := Aside0.mk hN
  have LZ := Aside0.mk hz
  have HFL := Aside0.mk hfl
  have z0 : w.cell? ⟨gb, 0, none⟩ = some (.int .i64 mo) := (blk_cell BX.out 0).trans rfl
  clear hB2 hR2 hN hz hfl
  go_enter Try.func24, Try.ntmps24
  go_upto_region 2 with (first
    | ((with_reducible refine gate_dst (N := 13) rfl ?_); refine box_event ?hg (N := 13) ?hd (cs := #[.int .i64 mo, .slice none 0 0]) (t := 70) ?hr ?_; (case hd => rfl); (case hg => rfl); (case hr => first | (go_simp; done) | (go_simp; rfl)); intro gn hg_ wA hbox_ hb_; have BNa := Aside0.mk hbox_; have HBa := Aside0.mk hb_; have BXa := Aside0.mk (blk_below BX.out hb_); have HGN := Aside0.mk (show w.heap.size ≤ gn by omega); clear hb_ hbox_ hg_))
  clear z0
  go_cut [6] from 14 to 25 (fun v6 wc => ∃ (SN : Nat → Prop), v6 = .pointer (some ⟨gn, 0, none⟩) ∧ Aside0 (Box 70 wc w.heap.size SN gn mo l) ∧ Aside0 (Below w.heap.size w wc))
  case first =>
    have x1 : wA.cell? ⟨gb, 1, none⟩ = some (.slice A l.length c) := (blk_cell BXa.out 1).trans rfl
    have x2 : wA.cell? ⟨gn, 1, none⟩ = some (.slice none 0 0) := (blk_cell BNa.out 1).trans rfl
    have CA := Aside0.mk (show Kd.C k29 wA.drew A l.length l from Kd.C_below (Kd.C_below (Kd.R_reads' HR.out).2.2 HBa.out) (below_drew (Below.refl _ _)))
    go_region_law (first
      | (refine R_append_rows_step2 k29 (w0 := wA.drew) (W := wA.drew) w.heap.size (by rfl) (.tmp 18) (.tmp 22) 22 29 (.agg #[(.string ⟨#[]⟩), (.int .i64 0), (.bool false)]) 32 rfl Try.underlying22 info29 rfl (by decide) (by omega) (.slice none 0 0) [] l A l.length c (fun k => k = gn ∨ wA.heap.size ≤ k) (fun _ => False) rfl rfl ?aO ?aR (fun _ _ h => h) (fun _ h => h.elim) ?aF ?aB ?aS ?aL ?_; (case aR => exact CA.out); (case aB => exact Below.refl _ _); (case aF => exact (fun k_ hk_ => .inr hk_)); (case aO => exact Kd.R_nil _ _ _ _ _); (case aS => exact HBa.out.size); (case aL => have h2 := LZ.out; simp only [List.length_nil]; omega); intro AQ cQ wc2 ho hb hg; rw [List.nil_append] at ho ⊢; have HOc := Aside0.mk ho; have HBc := Aside0.mk hb; have HGc := Aside0.mk hg; have BXc := Aside0.mk (blk_grown (blk_drew BNa.out) hg (by intro h; cases h)); have yc := blk_frozen BXc.out 1; have zc : wc2.cell? ⟨gn, 1, none⟩ = some (.slice none 0 0) := (blk_cell BXc.out 1).trans rfl; clear ho hb hg))
    all_goals (try go_wp2)
    all_goals go_meet
    all_goals (case rel =>
      have u_ := box_app (w := wA.drew) (B := wc2) (base := w.heap.size) (S := fun k => k = gn) (l := []) (A := none) (c := 0) rfl (fun k hk => by subst hk; exact ⟨HGN.out, blk_lt BNa.out⟩) HBa.out.size (blk_drew BNa.out) (Kd.R_nil _ _ _ _ _) HBc.out HGc.out HOc.out BXc.out
      obtain ⟨u1, u2⟩ := u_
      exact ⟨_, rfl, ⟨u1⟩, ⟨HBa.out.trans ((below_drew (Below.refl _ wA)).trans u2.below)⟩⟩)
  case rest =>
    obtain ⟨SN, rfl, HXc, HBc⟩ := hcut
    have BYc := Aside0.mk (blk_below BY.out HBc.out)
    have HC2 := Aside0.mk (Kd.C_below HC2w.out HBc.out)
    have y1 : wc.cell? ⟨gb2, 1, none⟩ = some (.slice A2 l2.length c2) := (blk_cell BYc.out 1).trans rfl
    obtain ⟨ev, hev⟩ : ∃ ev : Int, ev = (if ((onceG l l2).length : Int) > mo then (6 : Int) else 0) := ⟨_, rfl⟩
    have HEV := Aside0.mk hev
    clear hev
    go_upto_region 4 with (first
      | ((with_reducible refine gate_callee (f := 42) rfl ?_); (try (refine gate_guard (by rfl) ?_; dsimp only)); refine goesL_ (some 31) rfl rfl Try.func42 (by kernel_rfl) rfl #[.pointer (some ⟨gn, 0, none⟩), .slice A2 l2.length c2] rfl (by (try simp only [List.map_toArray, List.map_cons, List.map_nil]); first | done | rfl) ?_; (refine (radd_v wc w.heap.size gn SN mo l HXc.out HBc.out.size A2 c2 l2 HC2.out k HNA.out LZ.out _ rfl ev HEV.out).mono ?_); rintro en w2 ⟨rfl, S9, hx_, hu_⟩; refine ⟨_, rfl, ?_⟩; have HX2 := Aside0.mk hx_; have HU := Aside0.mk hu_; clear hx_ hu_))
    clear y1
    cases fl with
    | true =>
      obtain rfl : (6 : Int) = ev := by rw [HEV.out, if_pos (HFL.out.1 rfl)]
      go_wp2
      go_ret2
      exact ⟨rfl, HBc.out.trans HU.out.below⟩
    | false =>
      have hn : ¬ ((onceG l l2).length : Int) > mo := fun h => by have := HFL.out.2 h; cases this
      have HNN := Aside0.mk hn
      obtain rfl : (0 : Int) = ev := by rw [HEV.out, if_neg hn]
      clear hn
      go_wp2
      go_ret2
      have hx := HX2.out
      rw [if_neg (Int.not_lt.2 HNN.out)] at hx
      exact ⟨gn, rfl, HBc.out.trans HU.out.below, S9, hx⟩
end Go.Proofs.Ytdaikljbljcagaa.Mz
