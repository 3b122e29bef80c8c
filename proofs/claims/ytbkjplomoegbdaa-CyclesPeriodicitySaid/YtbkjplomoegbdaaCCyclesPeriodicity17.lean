/- Parts of the proof of CyclesPeriodicity, gathered by a program of this claim out of texts that it or the kit's print wrote: lemmas alone, no condition of their own. -/
import Derived.Test.YtbkjplomoegbdaaCCyclesPeriodicity16
import Derived.Test.YtbkjplomoegbdaaCCyclesPeriodicity12
import Derived.Test.YtbkjplomoegbdaaCCyclesPeriodicity8
import Derived.Deep.RegionHeld3
import Derived.Test.YtbkjplomoegbdaaCCyclesPeriodicity13
import Derived.Test.YtbkjplomoegbdaaCCyclesPeriodicity4
import Derived.Test.YtbkjplomoegbdaaCCyclesPeriodicity9
section
namespace Go.Proofs.Ytbkjplomoegbdaa.PB
open Go.RowKit Go.Proofs.YtbkjplomoegbdaaW.PrintWords Go.Proofs.YtbkjplomoegbdaaW.PrintLast Go.Proofs.YtbkjplomoegbdaaW.PrintMore
set_option linter.unusedVariables false
set_option linter.unusedSimpArgs false
set_option maxHeartbeats 2000000 in
set_option maxRecDepth 100000 in
theorem cycle_none (kt kf : Nat) (per : Int) (A1 : Option Addr) (c1 : Nat) (evs : List S97) (A2 : Option Addr) (c2 : Nat) (acts : List S36) (a : Int) (T : List Int) (w : World) (hr1 : Kd.C k97 w A1 evs.length evs) (hc1 : evs.length ≤ c1) (hr2 : Kd.C k36 w A2 acts.length acts) (hc2 : acts.length ≤ c2)
    (ht : railplanref11_Tree.f kt per evs acts = some T) (hf : railplanref11_Fundamental.f kf per evs acts T = some ([], 0)) :
    Calls Try.prog 38 #[.agg #[.int .i64 per, .slice A1 evs.length c1, .slice A2 acts.length c2], .int .i64 a] w fun e w' => e = .returned (.tuple #[.agg #[.slice none 0 0, .slice none 0 0], .bool false]) ∧ Below w.heap.size w w' := by
  have hu26 := Try.underlying26
  have hu41 := Try.underlying41
  have HR1 := Aside0.mk hr1
  have HR2 := Aside0.mk hr2
  have HC1 := Aside0.mk hc1
  have HC2 := Aside0.mk hc2
  have HT := Aside0.mk ht
  have HF := Aside0.mk hf
  have m1 := Kd.C_max hr1
  have m2 := Kd.C_max hr2
  clear hr1 hr2 hc1 hc2 ht hf
  have hb0 : Below w.heap.size w ((w.alloc (.cells #[.int .i64 per, .slice A1 evs.length c1, .slice A2 acts.length c2] 26)).alloc (.cells #[.slice none 0 0, .slice none 0 0] 41)) := below_alloc (below_alloc (Below.refl _ _) _) _
  have hn0 := blk_alloc (blk_new w (.cells #[.int .i64 per, .slice A1 evs.length c1, .slice A2 acts.length c2] 26)) (.cells #[.slice none 0 0, .slice none 0 0] 41)
  have ht0 : ((w.alloc (.cells #[.int .i64 per, .slice A1 evs.length c1, .slice A2 acts.length c2] 26)).alloc (.cells #[.slice none 0 0, .slice none 0 0] 41)).heap[w.heap.size + 1]? = some (.cells #[.slice none 0 0, .slice none 0 0] 41 (0, 0)) := by
    have h := blk_new (w.alloc (.cells #[.int .i64 per, .slice A1 evs.length c1, .slice A2 acts.length c2] 26)) (.cells #[.slice none 0 0, .slice none 0 0] 41)
    rwa [show (w.alloc (.cells #[.int .i64 per, .slice A1 evs.length c1, .slice A2 acts.length c2] 26)).heap.size = w.heap.size + 1 by simp] at h
  go_enter Try.func38, Try.ntmps38
  go_wp2_with fail
  generalize (w.alloc (.cells #[.int .i64 per, .slice A1 evs.length c1, .slice A2 acts.length c2] 26)).alloc (.cells #[.slice none 0 0, .slice none 0 0] 41) = W0 at hb0 hn0 ht0 ⊢
  have HB0 := Aside0.mk (pw_below_drewN hb0 1)
  have HN0 := Aside0.mk hn0
  have HT0 := Aside0.mk ht0
  have q0 : W0.cell? ⟨w.heap.size, 0, none⟩ = some (.int .i64 per) := (blk_cell hn0 0).trans rfl
  have q1 : W0.cell? ⟨w.heap.size, 1, none⟩ = some (.slice A1 evs.length c1) := (blk_cell hn0 1).trans rfl
  have q2 : W0.cell? ⟨w.heap.size, 2, none⟩ = some (.slice A2 acts.length c2) := (blk_cell hn0 2).trans rfl
  clear hb0 hn0 ht0
  go_region_held3 (fun W => W.cell? ⟨w.heap.size, 0, none⟩ = some (.int .i64 per) ∧ W.cell? ⟨w.heap.size, 1, none⟩ = some (.slice A1 evs.length c1) ∧ W.cell? ⟨w.heap.size, 2, none⟩ = some (.slice A2 acts.length c2))
    (first | exact ⟨q0, q1, q2⟩ | exact k0 | go_keep)
    ((first | (go_at_call 32; (with_reducible refine (railplanref11_Tree.calls kt per A1 c1 evs A2 c2 acts T _ ?a1 HC1.out ?a2 HC2.out HT.out).mono ?_); (case a1 => exact Kd.C_below HR1.out HB0.out); (case a2 => exact Kd.C_below HR2.out HB0.out); rintro e w1 ⟨v1, rfl, ho1, hb1⟩; obtain ⟨At, ct, ev⟩ := Kd.R_slice ho1; subst ev; have HO1 := Aside0.mk ho1; have HB1 := Aside0.mk (below_step HB0.out hb1); have HN1 := Aside0.mk (blk_below (blk_drewN HN0.out 1) hb1); have HT1 := Aside0.mk (blk_below (blk_drewN HT0.out 1) hb1); have k0 : w1.cell? ⟨w.heap.size, 0, none⟩ = some (.int .i64 per) ∧ w1.cell? ⟨w.heap.size, 1, none⟩ = some (.slice A1 evs.length c1) ∧ w1.cell? ⟨w.heap.size, 2, none⟩ = some (.slice A2 acts.length c2) := ⟨(blk_cell HN1.out 0).trans rfl, (blk_cell HN1.out 1).trans rfl, (blk_cell HN1.out 2).trans rfl⟩; clear ho1 hb1) | (go_at_call 45; (with_reducible refine (railplanref11_Fundamental.calls kf per A1 c1 evs A2 c2 acts At ct T [] 0 _ ?a1 HC1.out ?a2 HC2.out ?a3 ?a4 HF.out).mono ?_); (case a1 => exact Kd.C_below HR1.out HB1.out); (case a2 => exact Kd.C_below HR2.out HB1.out); (case a3 => exact (Kd.R_reads' HO1.out).2.2); (case a4 => exact (Kd.R_reads' HO1.out).2.1); rintro e w2 ⟨v2, rfl, ho2, hb2⟩; obtain ⟨Ac, cc, ev⟩ := Kd.S_slice ho2; subst ev; have HO2 := Aside0.mk ho2; have HB2 := Aside0.mk (below_step HB1.out hb2); have HN2 := Aside0.mk (blk_below HN1.out hb2); have HT2 := Aside0.mk (blk_below HT1.out hb2); clear k0; have k0 : w2.cell? ⟨w.heap.size, 0, none⟩ = some (.int .i64 per) ∧ w2.cell? ⟨w.heap.size, 1, none⟩ = some (.slice A1 evs.length c1) ∧ w2.cell? ⟨w.heap.size, 2, none⟩ = some (.slice A2 acts.length c2) := ⟨(blk_cell HN2.out 0).trans rfl, (blk_cell HN2.out 1).trans rfl, (blk_cell HN2.out 2).trans rfl⟩; clear ho2 hb2)))
  clear k0 q0 q1 q2
  have d0 : w2.cell? ⟨w.heap.size + 1, 0, none⟩ = some (.slice none 0 0) := (blk_cell HT2.out 0).trans rfl
  have d1 : w2.cell? ⟨w.heap.size + 1, 1, none⟩ = some (.slice none 0 0) := (blk_cell HT2.out 1).trans rfl
  have f0 := blk_frozen HT2.out 0
  have f1 := blk_frozen HT2.out 1
  go_wp2
  have HT3 := blk_put (blk_put HT2.out 0 (.slice none 0 0) rfl) 1 (.slice none 0 0) rfl
  have HB3 := Aside0.mk (below_set (j := 1) (v := .slice none 0 0) (below_set (j := 0) (v := .slice none 0 0) HB2.out (Nat.le_succ w.heap.size)) (Nat.le_succ w.heap.size))
  generalize (w2.setCell ⟨w.heap.size + 1, 0, none⟩ (.slice none 0 0)).setCell ⟨w.heap.size + 1, 1, none⟩ (.slice none 0 0) = W3 at HT3 HB3 ⊢
  have e0 : W3.cell? ⟨w.heap.size + 1, 0, none⟩ = some (.slice none 0 0) := (blk_cell HT3 0).trans rfl
  have e1 : W3.cell? ⟨w.heap.size + 1, 1, none⟩ = some (.slice none 0 0) := (blk_cell HT3 1).trans rfl
  clear d0 d1 f0 f1
  exact bodyPost_ret (v := .tuple #[.agg #[.slice none 0 0, .slice none 0 0], .bool false]) (by simp [results, Try.results38, go_sem, e0, e1]) rfl ⟨rfl, HB3.out⟩
set_option maxHeartbeats 2000000 in
set_option maxRecDepth 100000 in
theorem cycle_some (kt kf : Nat) (per : Int) (A1 : Option Addr) (c1 : Nat) (evs : List S97) (A2 : Option Addr) (c2 : Nat) (acts : List S36) (a : Int) (T : List Int) (r : List S41) (x : Int) (w : World) (hr1 : Kd.C k97 w A1 evs.length evs) (hc1 : evs.length ≤ c1) (hr2 : Kd.C k36 w A2 acts.length acts) (hc2 : acts.length ≤ c2)
    (ht : railplanref11_Tree.f kt per evs acts = some T) (hf : railplanref11_Fundamental.f kf per evs acts T = some (r, 0)) (hrl : 0 < r.length) (hr9 : r.length ≤ 512) (hx : railplankeep_Pick.f a (r.length : Int) = some x) (hx0 : 0 ≤ x) (hx1 : x < (r.length : Int)) :
    Calls Try.prog 38 #[.agg #[.int .i64 per, .slice A1 evs.length c1, .slice A2 acts.length c2], .int .i64 a] w fun e w' => ∃ B0 d0 B1 d1, e = .returned (.tuple #[.agg #[.slice B0 (rd_T41 r x).f0.length d0, .slice B1 (rd_T41 r x).f1.length d1], .bool true]) ∧ ((rd_T41 r x).f0.length ≤ d0 ∧ Kd.C (Kd.int .i64) w' B0 (rd_T41 r x).f0.length (rd_T41 r x).f0) ∧ ((rd_T41 r x).f1.length ≤ d1 ∧ Kd.C (Kd.int .i64) w' B1 (rd_T41 r x).f1.length (rd_T41 r x).f1) ∧ Below w.heap.size w w' := by
  have hu26 := Try.underlying26
  have hu41 := Try.underlying41
  have HR1 := Aside0.mk hr1
  have HR2 := Aside0.mk hr2
  have HC1 := Aside0.mk hc1
  have HC2 := Aside0.mk hc2
  have HT := Aside0.mk ht
  have HF := Aside0.mk hf
  have HX := Aside0.mk hx
  clear hx
  have m1 := Kd.C_max hr1
  have m2 := Kd.C_max hr2
  clear hr1 hr2 hc1 hc2 ht hf
  have hb0 : Below w.heap.size w ((w.alloc (.cells #[.int .i64 per, .slice A1 evs.length c1, .slice A2 acts.length c2] 26)).alloc (.cells #[.slice none 0 0, .slice none 0 0] 41)) := below_alloc (below_alloc (Below.refl _ _) _) _
  have hn0 := blk_alloc (blk_new w (.cells #[.int .i64 per, .slice A1 evs.length c1, .slice A2 acts.length c2] 26)) (.cells #[.slice none 0 0, .slice none 0 0] 41)
  have ht0 : ((w.alloc (.cells #[.int .i64 per, .slice A1 evs.length c1, .slice A2 acts.length c2] 26)).alloc (.cells #[.slice none 0 0, .slice none 0 0] 41)).heap[w.heap.size + 1]? = some (.cells #[.slice none 0 0, .slice none 0 0] 41 (0, 0)) := by
    have h := blk_new (w.alloc (.cells #[.int .i64 per, .slice A1 evs.length c1, .slice A2 acts.length c2] 26)) (.cells #[.slice none 0 0, .slice none 0 0] 41)
    rwa [show (w.alloc (.cells #[.int .i64 per, .slice A1 evs.length c1, .slice A2 acts.length c2] 26)).heap.size = w.heap.size + 1 by simp] at h
  go_enter Try.func38, Try.ntmps38
  go_wp2_with fail
  generalize (w.alloc (.cells #[.int .i64 per, .slice A1 evs.length c1, .slice A2 acts.length c2] 26)).alloc (.cells #[.slice none 0 0, .slice none 0 0] 41) = W0 at hb0 hn0 ht0 ⊢
  have HB0 := Aside0.mk (pw_below_drewN hb0 1)
  have HN0 := Aside0.mk hn0
  have HT0 := Aside0.mk ht0
  have q0 : W0.cell? ⟨w.heap.size, 0, none⟩ = some (.int .i64 per) := (blk_cell hn0 0).trans rfl
  have q1 : W0.cell? ⟨w.heap.size, 1, none⟩ = some (.slice A1 evs.length c1) := (blk_cell hn0 1).trans rfl
  have q2 : W0.cell? ⟨w.heap.size, 2, none⟩ = some (.slice A2 acts.length c2) := (blk_cell hn0 2).trans rfl
  clear hb0 hn0 ht0
  go_region_held3 (fun W => W.cell? ⟨w.heap.size, 0, none⟩ = some (.int .i64 per) ∧ W.cell? ⟨w.heap.size, 1, none⟩ = some (.slice A1 evs.length c1) ∧ W.cell? ⟨w.heap.size, 2, none⟩ = some (.slice A2 acts.length c2))
    (first | exact ⟨q0, q1, q2⟩ | exact k0 | go_keep)
    ((first | (go_at_call 32; (with_reducible refine (railplanref11_Tree.calls kt per A1 c1 evs A2 c2 acts T _ ?a1 HC1.out ?a2 HC2.out HT.out).mono ?_); (case a1 => exact Kd.C_below HR1.out HB0.out); (case a2 => exact Kd.C_below HR2.out HB0.out); rintro e w1 ⟨v1, rfl, ho1, hb1⟩; obtain ⟨At, ct, ev⟩ := Kd.R_slice ho1; subst ev; have HO1 := Aside0.mk ho1; have HB1 := Aside0.mk (below_step HB0.out hb1); have HN1 := Aside0.mk (blk_below (blk_drewN HN0.out 1) hb1); have HT1 := Aside0.mk (blk_below (blk_drewN HT0.out 1) hb1); have k0 : w1.cell? ⟨w.heap.size, 0, none⟩ = some (.int .i64 per) ∧ w1.cell? ⟨w.heap.size, 1, none⟩ = some (.slice A1 evs.length c1) ∧ w1.cell? ⟨w.heap.size, 2, none⟩ = some (.slice A2 acts.length c2) := ⟨(blk_cell HN1.out 0).trans rfl, (blk_cell HN1.out 1).trans rfl, (blk_cell HN1.out 2).trans rfl⟩; clear ho1 hb1) | (go_at_call 45; (with_reducible refine (railplanref11_Fundamental.calls kf per A1 c1 evs A2 c2 acts At ct T r 0 _ ?a1 HC1.out ?a2 HC2.out ?a3 ?a4 HF.out).mono ?_); (case a1 => exact Kd.C_below HR1.out HB1.out); (case a2 => exact Kd.C_below HR2.out HB1.out); (case a3 => exact (Kd.R_reads' HO1.out).2.2); (case a4 => exact (Kd.R_reads' HO1.out).2.1); rintro e w2 ⟨v2, rfl, ho2, hb2⟩; obtain ⟨Ac, cc, ev⟩ := Kd.S_slice ho2; subst ev; have HO2 := Aside0.mk ho2; have HB2 := Aside0.mk (below_step HB1.out hb2); have HN2 := Aside0.mk (blk_below HN1.out hb2); have HT2 := Aside0.mk (blk_below HT1.out hb2); clear k0; have k0 : w2.cell? ⟨w.heap.size, 0, none⟩ = some (.int .i64 per) ∧ w2.cell? ⟨w.heap.size, 1, none⟩ = some (.slice A1 evs.length c1) ∧ w2.cell? ⟨w.heap.size, 2, none⟩ = some (.slice A2 acts.length c2) := ⟨(blk_cell HN2.out 0).trans rfl, (blk_cell HN2.out 1).trans rfl, (blk_cell HN2.out 2).trans rfl⟩; clear ho2 hb2)))
  clear k0 q0 q1 q2
  have d0 : w2.cell? ⟨w.heap.size + 1, 0, none⟩ = some (.slice none 0 0) := (blk_cell HT2.out 0).trans rfl
  have d1 : w2.cell? ⟨w.heap.size + 1, 1, none⟩ = some (.slice none 0 0) := (blk_cell HT2.out 1).trans rfl
  have f0 := blk_frozen HT2.out 0
  have f1 := blk_frozen HT2.out 1
  obtain ⟨hq, hcc, hCc⟩ := Kd.S_reads' HO2.out
  clear hq
  obtain ⟨ad, B0, b0, B1, b1, e1, g0, g1, l0, _, l1, _⟩ := at_T41 hCc x hx0 hx1
  cases e1
  have hlt1 := blk_lt HT1.out
  have hadb : ad.block ≠ w.heap.size + 1 := fun e => by have := Kd.R_base (Kd.S_R HO2.out) ad.block rfl; omega
  have HK := Aside0.mk (Kd.C_kept_own (S := fun k => k = w.heap.size + 1) (Kd.R_bound (Kd.S_R HO2.out)) (fun k hk e => by have := hk.2.1; omega))
  have HAD := Aside0.mk hadb
  have HG := Aside0.mk (And.intro g0 g1)
  have HL := Aside0.mk (And.intro l0 l1)
  clear hadb hlt1
  generalize hc : rd_T41 r x = c at *
  have HC := Aside0.mk hc
  clear l0 l1 hCc hcc hc
  have hr0 : ¬ r.length = 0 := by omega
  go_wp2_with (go_at_call 34; (with_reducible refine (railplankeep_Pick.calls a (r.length : Int) x _ HX.out).mono ?_); rintro e w' ⟨rfl, ⟨nd, rfl⟩⟩)
  have HT3 := blk_put (blk_put (blk_drewN HT2.out nd) 0 (.slice B0 c.f0.length b0) rfl) 1 (.slice B1 c.f1.length b1) rfl
  have HB3 := Aside0.mk (below_set (j := 1) (v := .slice B1 c.f1.length b1) (below_set (j := 0) (v := .slice B0 c.f0.length b0) (pw_below_drewN HB2.out nd) (Nat.le_succ w.heap.size)) (Nat.le_succ w.heap.size))
  have HK3 := HK.out _ ((((Kept.refl w2 (fun k => k = w.heap.size + 1)).drewN nd).setCell (p := ⟨w.heap.size + 1, 0, none⟩) (.inl rfl) (.slice B0 c.f0.length b0)).setCell (p := ⟨w.heap.size + 1, 1, none⟩) (.inl rfl) (.slice B1 c.f1.length b1))
  have far : ∀ p : Addr, p.block = ad.block → (((w2.drewN nd).setCell ⟨w.heap.size + 1, 0, none⟩ (.slice B0 c.f0.length b0)).setCell ⟨w.heap.size + 1, 1, none⟩ (.slice B1 c.f1.length b1)).cell? p = w2.cell? p := fun p hp => by
    have h1 : p.block ≠ w.heap.size + 1 := by rw [hp]; exact HAD.out
    rw [cell_far (p := ⟨w.heap.size + 1, 1, none⟩) h1, cell_far (p := ⟨w.heap.size + 1, 0, none⟩) h1]
    rfl
  have h0 := (far _ (by rw [add_block])).trans HG.out.1
  have h1 := (far ⟨(ad.add (x.toNat * 2)).block, (ad.add (x.toNat * 2)).off + 1, none⟩ (by show (ad.add (x.toNat * 2)).block = _; rw [add_block])).trans HG.out.2
  clear far g0 g1
  generalize ((w2.drewN nd).setCell ⟨w.heap.size + 1, 0, none⟩ (.slice B0 c.f0.length b0)).setCell ⟨w.heap.size + 1, 1, none⟩ (.slice B1 c.f1.length b1) = W3 at HT3 HB3 HK3 h0 h1 ⊢
  have e0 : W3.cell? ⟨w.heap.size + 1, 0, none⟩ = some (.slice B0 c.f0.length b0) := (blk_cell HT3 0).trans rfl
  have e1 : W3.cell? ⟨w.heap.size + 1, 1, none⟩ = some (.slice B1 c.f1.length b1) := (blk_cell HT3 1).trans rfl
  clear d0 d1 f0 f1
  obtain ⟨ad', D0, e0', D1, e1', hh, i0, i1, l0, k0, l1, k1⟩ := at_T41 HK3 x hx0 hx1
  injection hh with hh
  subst hh
  rw [HC.out] at i0 i1 l0 k0 l1 k1
  rw [h0] at i0
  rw [h1] at i1
  injection i0 with i0
  injection i1 with i1
  injection i0 with a1 _ a3
  injection i1 with b1' _ b3
  subst a1 a3 b1' b3
  refine bodyPost_ret (v := .tuple #[.agg #[.slice B0 c.f0.length b0, .slice B1 c.f1.length b1], .bool true]) (by simp [results, Try.results38, go_sem, e0, e1]) rfl ⟨B0, b0, B1, b1, by rw [HC.out], ?_, ?_, HB3.out⟩
  · rw [HC.out]; exact ⟨l0, k0⟩
  · rw [HC.out]; exact ⟨l1, k1⟩
end Go.Proofs.Ytbkjplomoegbdaa.PB
end
section
namespace Go.Proofs.Ytbkjplomoegbdaa.CutLaw
open Go.RowKit Go.Proofs.Ytbkjplomoegbdaa.PB Go.Proofs.Ytbkjplomoegbdaa.Graph Go.Proofs.Ytbkjplomoegbdaa.RefTree Go.Proofs.YtbkjplomoegbdaaW.PrintWords Go.Proofs.YtbkjplomoegbdaaW.PrintLast Go.Proofs.YtbkjplomoegbdaaW.PrintMore
def ints (T : List Nat) : List Int := T.map fun (i : Nat) => (i : Int)
theorem forestGo_of (acts : List S36) : ∀ (T : List Nat) (last : Int) (L : List Nat), (∀ i ∈ T, last < (i : Int) ∧ i < acts.length) → T.Pairwise (· < ·) → wins (edges acts T) L = T.length → forestGo acts (ints T) last L = some (run (edges acts T) L)
  | [], _, _, _, _, _ => rfl
  | i :: t, last, L, hb, hp, hw => by
    obtain ⟨h1, h2⟩ := hb i (by simp)
    have hp' := List.pairwise_cons.1 hp
    have hle := wins_le (edges acts t) (join L (edge acts i).1 (edge acts i).2)
    simp only [edges, List.map_cons, wins, List.length_cons, List.length_map] at hw hle
    have hne : ¬ L.getD (edge acts i).1 0 = L.getD (edge acts i).2 0 := by
      intro h
      rw [if_pos h] at hw
      omega
    rw [if_neg hne] at hw
    have ih := forestGo_of acts t (i : Int) (join L (edge acts i).1 (edge acts i).2) (fun j hj => ⟨by have := hp'.1 j hj; omega, (hb j (by simp [hj])).2⟩) hp'.2 (by simp only [edges]; omega)
    simp only [ints, List.map_cons, forestGo, Int.toNat_natCast]
    rw [if_neg (by omega), if_neg (show ¬ L.getD (acts.getD i z36).f1.toNat 0 = L.getD (acts.getD i z36).f2.toNat 0 from hne)]
    exact ih
theorem forestB_of {per : Int} {n : Nat} {acts : List S36} (hok : netOk per n acts = true) {T : List Nat} (hp : T.Pairwise (· < ·)) (hb : ∀ i ∈ T, i < acts.length) (hw : wins (edges acts T) (List.range n) = T.length)
    (hc : ∀ j, j < acts.length → Conn (edges acts T) (edge acts j).1 (edge acts j).2) : forestB per n acts (ints T) = true := by
  unfold forestB
  rw [hok, forestGo_of acts T (-1) _ (fun i hi => ⟨by omega, hb i hi⟩) hp hw]
  simp only [Bool.true_and, List.all_eq_true, beq_iff_eq]
  intro a ha
  obtain ⟨j, hj, rfl⟩ := List.getElem_of_mem ha
  obtain ⟨_, _, e1, e2, _⟩ := edge_ok hok hj
  have := (run_tells (edges_lt hok hb) e1 e2).2 (hc j hj)
  have he : acts.getD j z36 = acts[j] := by simp [List.getD_eq_getElem?_getD, hj]
  rw [← he]
  exact this
theorem getD_set_true {m : List Bool} {i v : Nat} (h : (m.set i true).getD v false = true) : v = i ∨ m.getD v false = true := by
  by_cases e : i = v
  · exact .inl e.symm
  · simp only [List.getD_eq_getElem?_getD, List.getElem?_set_ne e] at h ⊢
    exact .inr h
theorem contains_l0 (l : List Int) (x : Int) (hl : l.length ≤ 512) : ∀ (d i : Nat), i + d = l.length → x ∈ l.drop i → ∃ j : Nat, Ev (fun k => slices_Index_int_int.l0 k l x (l.length : Int) (i : Int)) (j : Int) := by
  intro d
  induction d with
  | zero =>
    intro i hi hx
    rw [List.drop_eq_nil_of_le (by omega)] at hx
    cases hx
  | succ d ih =>
    intro i hi hx
    have hd : l.drop i = l.getD i 0 :: l.drop (i + 1) := by
      rw [List.drop_eq_getElem_cons (by omega)]
      simp [List.getD_eq_getElem?_getD, show i < l.length by omega]
    have hr : rd l (i : Int) = l.getD i 0 := by unfold rd; rw [Int.toNat_natCast]
    have w1 : wrap64 ((i : Int) + 1) = ((i + 1 : Nat) : Int) := by unfold wrap64; omega
    by_cases c : x = l.getD i 0
    · refine ⟨i, Ev.step (f := fun _ => some (i : Int)) (fun k => ?_) (Ev.now _)⟩
      simp only [slices_Index_int_int.l0]
      rw [if_pos (by omega), if_pos (by omega), if_pos (by omega), hr, if_pos c]
    · rw [hd] at hx
      obtain ⟨j, hj⟩ := ih (i + 1) (by omega) ((List.mem_cons.1 hx).resolve_left c)
      refine ⟨j, Ev.step (fun k => ?_) hj⟩
      simp only [slices_Index_int_int.l0]
      rw [if_pos (by omega), if_pos (by omega), if_pos (by omega), hr, if_neg c, w1]
theorem contains_ev (l : List Int) (x : Int) (hl : l.length ≤ 512) (hx : x ∈ l) : Ev (fun k => slices_Contains_int_int.f k l x) true := by
  obtain ⟨j, hj⟩ := contains_l0 l x hl l.length 0 (by omega) (by simpa using hx)
  unfold slices_Contains_int_int.f slices_Index_int_int.f
  refine Ev.bind hj ?_
  rw [decide_eq_true (by omega)]
  exact Ev.now _
end Go.Proofs.Ytbkjplomoegbdaa.CutLaw
end
