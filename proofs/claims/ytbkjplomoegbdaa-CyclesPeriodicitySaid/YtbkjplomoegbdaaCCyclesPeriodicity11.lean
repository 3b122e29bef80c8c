/- Parts of the proof of CyclesPeriodicity, gathered by a program of this claim out of texts that it or the kit's print wrote: lemmas alone, no condition of their own. -/
import Derived.Test.YtbkjplomoegbdaaCCyclesPeriodicity4
namespace Go.Proofs.Ytbkjplomoegbdaa.PB
open Go.RowKit Go.Proofs.YtbkjplomoegbdaaW.PrintWords Go.Proofs.YtbkjplomoegbdaaW.PrintLast Go.Proofs.YtbkjplomoegbdaaW.PrintMore
attribute [local go_sem] max2_int min2_int max_two min_two max_three min_three max_four min_four
set_option linter.unusedVariables false
set_option linter.unusedSimpArgs false
def railplanref11_merge.l0 : Nat → List Int → Int → Int → Int → Int → Option (Bool × List Int)
 | 0, _, _, _, _, _ => none
 | k + 1, x0, x5, x6, x22, x23 => if x23 < x22 then (if 0 ≤ x23 then (if x23 < (x0.length : Int) then (if (rd x0 x23) = x6 then (railplanref11_merge.l0 k (x0.set (x23 : Int).toNat x5) x5 x6 x22 (wrap64 (x23 + 1))) else (railplanref11_merge.l0 k x0 x5 x6 x22 (wrap64 (x23 + 1)))) else (none)) else (none)) else (some (true, x0))
def railplanref11_merge.f (k : Nat) (l0 : List Int) (a1_0 : Int) (a1_1 : Int) (a1_2 : Int) (a1_3 : Int) (a1_4 : Int) (a1_5 : Int) : Option (Bool × List Int) := if 0 ≤ a1_1 then (if a1_1 < (l0.length : Int) then (if 0 ≤ a1_2 then (if a1_2 < (l0.length : Int) then (if (rd l0 a1_1) = (rd l0 a1_2) then (some (false, l0)) else (railplanref11_merge.l0 k l0 (rd l0 a1_1) (rd l0 a1_2) (l0.length : Int) 0)) else (none)) else (none)) else (none)) else (none)
set_option maxHeartbeats 8000000 in
set_option maxRecDepth 100000 in
theorem railplanref11_merge.calls (k : Nat) (P0_ : Nat → Prop) (u9000_ : Value) (l0 : List Int) (a1_0 : Int) (a1_1 : Int) (a1_2 : Int) (a1_3 : Int) (a1_4 : Int) (a1_5 : Int) (r1 : Bool) (r2 : List Int) (w0 w : World) (hB : Below w0.heap.size w0 w) (ho0 : Kd.R (Kd.int .i64) 3 w w0.heap.size P0_ u9000_ l0) (h : railplanref11_merge.f k l0 a1_0 a1_1 a1_2 a1_3 a1_4 a1_5 = some (r1, r2)) :
  Calls Try.prog 86 #[u9000_, .agg #[.int .i64 a1_0, .int .i64 a1_1, .int .i64 a1_2, .int .i64 a1_3, .int .i64 a1_4, .int .i64 a1_5]] w fun e w' => e = .returned (.bool r1) ∧ Kd.R (Kd.int .i64) 3 w' w0.heap.size (fun k_ => (P0_ k_ ∨ w.heap.size ≤ k_)) u9000_ r2 ∧ Below w0.heap.size w0 w' ∧ Kept w w' (fun k_ => P0_ k_) := by
 have hu36 := Try.underlying36
 have HO0 := Aside0.mk (show Kd.R (Kd.int .i64) 3 w w0.heap.size (fun k_ => (P0_ k_ ∨ w.heap.size ≤ k_)) u9000_ l0 from Kd.R_mono ho0 (fun k_ hk => (.inl hk)))
 have HK := Aside0.mk (Kept.refl w (fun k_ => P0_ k_))
 have HW0 := Aside0.mk hB.size
 have HB := Aside0.mk hB
 clear hB
 have H : (if 0 ≤ a1_1 then (if a1_1 < (l0.length : Int) then (if 0 ≤ a1_2 then (if a1_2 < (l0.length : Int) then (if (rd l0 a1_1) = (rd l0 a1_2) then (some (false, l0)) else (railplanref11_merge.l0 k l0 (rd l0 a1_1) (rd l0 a1_2) (l0.length : Int) 0)) else (none)) else (none)) else (none)) else (none)) = some (r1, r2) := h
 clear h
 by_cases c3 : 0 ≤ a1_1
 ·rw [if_pos c3] at H
  have c3b0 : decide (0 ≤ a1_1) = true := decide_eq_true c3
  clear c3
  by_cases c4 : a1_1 < (l0.length : Int)
  ·rw [if_pos c4] at H
   have c4b0 : decide (a1_1 < (l0.length : Int)) = true := decide_eq_true c4
   clear c4
   by_cases c5 : 0 ≤ a1_2
   ·rw [if_pos c5] at H
    have c5b0 : decide (0 ≤ a1_2) = true := decide_eq_true c5
    clear c5
    by_cases c6 : a1_2 < (l0.length : Int)
    ·rw [if_pos c6] at H
     have c6b0 : decide (a1_2 < (l0.length : Int)) = true := decide_eq_true c6
     clear c6
     by_cases c7 : (rd l0 a1_1) = (rd l0 a1_2)
     ·rw [if_pos c7] at H
      have c7b0 : ((rd l0 a1_1) == (rd l0 a1_2)) = true := beq_iff_eq.mpr c7
      have c7b1 : ((rd l0 a1_1) != (rd l0 a1_2)) = false := bne_eq_false_iff_eq.mpr c7
      clear c7
      simp only [Option.some.injEq, Prod.mk.injEq] at H
      obtain ⟨rfl, rfl⟩ := H
      go_enter Try.func86, Try.ntmps86
      go_wp2_with (first | ((with_reducible refine gate_dst (N := 3) rfl ?_); refine box_event ?hg (N := 3) ?hd (cs := #[.int .i64 a1_0, .int .i64 a1_1, .int .i64 a1_2, .int .i64 a1_3, .int .i64 a1_4, .int .i64 a1_5]) (t := 36) ?hr ?_; (case hd => rfl); (case hg => rfl); (case hr => first | (go_simp; done) | (go_simp; rfl)); intro gb147 hg w8 hbox hb; have n0_ := Aside0.mk (Kd.R_below (by (with_reducible repeat (first | apply Kd.R_alloc | apply Kd.R_drewN | apply Kd.R_drew)); exact HO0.out) hb); have n1_ := Aside0.mk (Kept.below (S := (fun k_ => P0_ k_)) (by repeat (first | (with_reducible first | exact HK.out | apply Kept.alloc | apply Kept.drewN | apply Kept.drew) | exact HK.out)) hb); have n2_ := Aside0.mk (below_step (by repeat (first | (with_reducible first | exact HB.out | apply below_alloc | apply pw_below_drewN | apply below_drew1) | exact HB.out)) hb); have n3_ := Aside0.mk (hbox); have n4_ := Aside0.mk ((by rw [hg]; exact (by first | exact HK.out.1 | exact (show Kept w _ (fun k_ => P0_ k_) from by repeat (first | (with_reducible first | exact HK.out | apply Kept.alloc | apply Kept.drewN | apply Kept.drew) | exact HK.out)).1) : w.heap.size ≤ gb147)); have n5_ := Aside0.mk ((by rw [hg]; exact (below_size (by repeat (first | (with_reducible first | exact HB.out | apply below_alloc | apply pw_below_drewN | apply below_drew1) | exact HB.out))) : w0.heap.size ≤ gb147)); clear HO0; clear HK; clear HB; have HO0 := n0_; have HK := n1_; have HB := n2_; have BK147 := n3_; have GW147 := n4_; have GE147 := n5_; clear n0_ n1_ n2_ n3_ n4_ n5_; clear hb hbox hg; have hcz9_0 : w8.cell? ⟨gb147, 0, none⟩ = some (.int .i64 a1_0) := (blk_cell BK147.out 0).trans rfl; have hcz9_1 : w8.cell? ⟨gb147, 1, none⟩ = some (.int .i64 a1_1) := (blk_cell BK147.out 1).trans rfl; have hcz9_2 : w8.cell? ⟨gb147, 2, none⟩ = some (.int .i64 a1_2) := (blk_cell BK147.out 2).trans rfl; have hcz9_3 : w8.cell? ⟨gb147, 3, none⟩ = some (.int .i64 a1_3) := (blk_cell BK147.out 3).trans rfl; have hcz9_4 : w8.cell? ⟨gb147, 4, none⟩ = some (.int .i64 a1_4) := (blk_cell BK147.out 4).trans rfl; have hcz9_5 : w8.cell? ⟨gb147, 5, none⟩ = some (.int .i64 a1_5) := (blk_cell BK147.out 5).trans rfl; have hfz9_0 := blk_frozen BK147.out 0; have hfz9_1 := blk_frozen BK147.out 1; have hfz9_2 := blk_frozen BK147.out 2; have hfz9_3 := blk_frozen BK147.out 3; have hfz9_4 := blk_frozen BK147.out 4; have hfz9_5 := blk_frozen BK147.out 5; obtain ⟨Ao10, co10, eo10⟩ := Kd.R_slice HO0.out; subst eo10; have p148 : 0 ≤ (a1_1 : Int) := of_decide_eq_true (by first | (with_reducible assumption) | assumption); have q148 : a1_1 < (l0.length : Int) := of_decide_eq_true (by first | (with_reducible assumption) | assumption); obtain ⟨ad148, e148, hx148_0⟩ := Kd.at_int (Kd.R_reads' HO0.out).2.2 a1_1 p148 q148; cases e148; replace p148 := eq_true p148; replace q148 := eq_true q148; have p149 : 0 ≤ (a1_2 : Int) := of_decide_eq_true (by first | (with_reducible assumption) | assumption); have q149 : a1_2 < (l0.length : Int) := of_decide_eq_true (by first | (with_reducible assumption) | assumption); obtain ⟨ad149, e149, hx149_0⟩ := Kd.at_int (Kd.R_reads' HO0.out).2.2 a1_2 p149 q149; obtain rfl : ad148 = ad149 := (by injection e149); replace p149 := eq_true p149; replace q149 := eq_true q149))
      repeat (go_quiet (first | ((with_reducible refine gate_dst (N := 3) rfl ?_); refine box_event ?hg (N := 3) ?hd (cs := #[.int .i64 a1_0, .int .i64 a1_1, .int .i64 a1_2, .int .i64 a1_3, .int .i64 a1_4, .int .i64 a1_5]) (t := 36) ?hr ?_; (case hd => rfl); (case hg => rfl); (case hr => first | (go_simp; done) | (go_simp; rfl)); intro gb147 hg w8 hbox hb; have n0_ := Aside0.mk (Kd.R_below (by (with_reducible repeat (first | apply Kd.R_alloc | apply Kd.R_drewN | apply Kd.R_drew)); exact HO0.out) hb); have n1_ := Aside0.mk (Kept.below (S := (fun k_ => P0_ k_)) (by repeat (first | (with_reducible first | exact HK.out | apply Kept.alloc | apply Kept.drewN | apply Kept.drew) | exact HK.out)) hb); have n2_ := Aside0.mk (below_step (by repeat (first | (with_reducible first | exact HB.out | apply below_alloc | apply pw_below_drewN | apply below_drew1) | exact HB.out)) hb); have n3_ := Aside0.mk (hbox); have n4_ := Aside0.mk ((by rw [hg]; exact (by first | exact HK.out.1 | exact (show Kept w _ (fun k_ => P0_ k_) from by repeat (first | (with_reducible first | exact HK.out | apply Kept.alloc | apply Kept.drewN | apply Kept.drew) | exact HK.out)).1) : w.heap.size ≤ gb147)); have n5_ := Aside0.mk ((by rw [hg]; exact (below_size (by repeat (first | (with_reducible first | exact HB.out | apply below_alloc | apply pw_below_drewN | apply below_drew1) | exact HB.out))) : w0.heap.size ≤ gb147)); clear HO0; clear HK; clear HB; have HO0 := n0_; have HK := n1_; have HB := n2_; have BK147 := n3_; have GW147 := n4_; have GE147 := n5_; clear n0_ n1_ n2_ n3_ n4_ n5_; clear hb hbox hg; have hcz9_0 : w8.cell? ⟨gb147, 0, none⟩ = some (.int .i64 a1_0) := (blk_cell BK147.out 0).trans rfl; have hcz9_1 : w8.cell? ⟨gb147, 1, none⟩ = some (.int .i64 a1_1) := (blk_cell BK147.out 1).trans rfl; have hcz9_2 : w8.cell? ⟨gb147, 2, none⟩ = some (.int .i64 a1_2) := (blk_cell BK147.out 2).trans rfl; have hcz9_3 : w8.cell? ⟨gb147, 3, none⟩ = some (.int .i64 a1_3) := (blk_cell BK147.out 3).trans rfl; have hcz9_4 : w8.cell? ⟨gb147, 4, none⟩ = some (.int .i64 a1_4) := (blk_cell BK147.out 4).trans rfl; have hcz9_5 : w8.cell? ⟨gb147, 5, none⟩ = some (.int .i64 a1_5) := (blk_cell BK147.out 5).trans rfl; have hfz9_0 := blk_frozen BK147.out 0; have hfz9_1 := blk_frozen BK147.out 1; have hfz9_2 := blk_frozen BK147.out 2; have hfz9_3 := blk_frozen BK147.out 3; have hfz9_4 := blk_frozen BK147.out 4; have hfz9_5 := blk_frozen BK147.out 5; obtain ⟨Ao10, co10, eo10⟩ := Kd.R_slice HO0.out; subst eo10; have p148 : 0 ≤ (a1_1 : Int) := of_decide_eq_true (by first | (with_reducible assumption) | assumption); have q148 : a1_1 < (l0.length : Int) := of_decide_eq_true (by first | (with_reducible assumption) | assumption); obtain ⟨ad148, e148, hx148_0⟩ := Kd.at_int (Kd.R_reads' HO0.out).2.2 a1_1 p148 q148; cases e148; replace p148 := eq_true p148; replace q148 := eq_true q148; have p149 : 0 ≤ (a1_2 : Int) := of_decide_eq_true (by first | (with_reducible assumption) | assumption); have q149 : a1_2 < (l0.length : Int) := of_decide_eq_true (by first | (with_reducible assumption) | assumption); obtain ⟨ad149, e149, hx149_0⟩ := Kd.at_int (Kd.R_reads' HO0.out).2.2 a1_2 p149 q149; obtain rfl : ad148 = ad149 := (by injection e149); replace p149 := eq_true p149; replace q149 := eq_true q149)); try go_wp2_with (first | ((with_reducible refine gate_dst (N := 3) rfl ?_); refine box_event ?hg (N := 3) ?hd (cs := #[.int .i64 a1_0, .int .i64 a1_1, .int .i64 a1_2, .int .i64 a1_3, .int .i64 a1_4, .int .i64 a1_5]) (t := 36) ?hr ?_; (case hd => rfl); (case hg => rfl); (case hr => first | (go_simp; done) | (go_simp; rfl)); intro gb147 hg w8 hbox hb; have n0_ := Aside0.mk (Kd.R_below (by (with_reducible repeat (first | apply Kd.R_alloc | apply Kd.R_drewN | apply Kd.R_drew)); exact HO0.out) hb); have n1_ := Aside0.mk (Kept.below (S := (fun k_ => P0_ k_)) (by repeat (first | (with_reducible first | exact HK.out | apply Kept.alloc | apply Kept.drewN | apply Kept.drew) | exact HK.out)) hb); have n2_ := Aside0.mk (below_step (by repeat (first | (with_reducible first | exact HB.out | apply below_alloc | apply pw_below_drewN | apply below_drew1) | exact HB.out)) hb); have n3_ := Aside0.mk (hbox); have n4_ := Aside0.mk ((by rw [hg]; exact (by first | exact HK.out.1 | exact (show Kept w _ (fun k_ => P0_ k_) from by repeat (first | (with_reducible first | exact HK.out | apply Kept.alloc | apply Kept.drewN | apply Kept.drew) | exact HK.out)).1) : w.heap.size ≤ gb147)); have n5_ := Aside0.mk ((by rw [hg]; exact (below_size (by repeat (first | (with_reducible first | exact HB.out | apply below_alloc | apply pw_below_drewN | apply below_drew1) | exact HB.out))) : w0.heap.size ≤ gb147)); clear HO0; clear HK; clear HB; have HO0 := n0_; have HK := n1_; have HB := n2_; have BK147 := n3_; have GW147 := n4_; have GE147 := n5_; clear n0_ n1_ n2_ n3_ n4_ n5_; clear hb hbox hg; have hcz9_0 : w8.cell? ⟨gb147, 0, none⟩ = some (.int .i64 a1_0) := (blk_cell BK147.out 0).trans rfl; have hcz9_1 : w8.cell? ⟨gb147, 1, none⟩ = some (.int .i64 a1_1) := (blk_cell BK147.out 1).trans rfl; have hcz9_2 : w8.cell? ⟨gb147, 2, none⟩ = some (.int .i64 a1_2) := (blk_cell BK147.out 2).trans rfl; have hcz9_3 : w8.cell? ⟨gb147, 3, none⟩ = some (.int .i64 a1_3) := (blk_cell BK147.out 3).trans rfl; have hcz9_4 : w8.cell? ⟨gb147, 4, none⟩ = some (.int .i64 a1_4) := (blk_cell BK147.out 4).trans rfl; have hcz9_5 : w8.cell? ⟨gb147, 5, none⟩ = some (.int .i64 a1_5) := (blk_cell BK147.out 5).trans rfl; have hfz9_0 := blk_frozen BK147.out 0; have hfz9_1 := blk_frozen BK147.out 1; have hfz9_2 := blk_frozen BK147.out 2; have hfz9_3 := blk_frozen BK147.out 3; have hfz9_4 := blk_frozen BK147.out 4; have hfz9_5 := blk_frozen BK147.out 5; obtain ⟨Ao10, co10, eo10⟩ := Kd.R_slice HO0.out; subst eo10; have p148 : 0 ≤ (a1_1 : Int) := of_decide_eq_true (by first | (with_reducible assumption) | assumption); have q148 : a1_1 < (l0.length : Int) := of_decide_eq_true (by first | (with_reducible assumption) | assumption); obtain ⟨ad148, e148, hx148_0⟩ := Kd.at_int (Kd.R_reads' HO0.out).2.2 a1_1 p148 q148; cases e148; replace p148 := eq_true p148; replace q148 := eq_true q148; have p149 : 0 ≤ (a1_2 : Int) := of_decide_eq_true (by first | (with_reducible assumption) | assumption); have q149 : a1_2 < (l0.length : Int) := of_decide_eq_true (by first | (with_reducible assumption) | assumption); obtain ⟨ad149, e149, hx149_0⟩ := Kd.at_int (Kd.R_reads' HO0.out).2.2 a1_2 p149 q149; obtain rfl : ad148 = ad149 := (by injection e149); replace p149 := eq_true p149; replace q149 := eq_true q149)))
      go_ret
      exact ⟨by first | rfl | (simp [errW_none, errW_some] <;> rfl) | (simp [*, errW_none, errW_some] <;> rfl), by (with_reducible repeat (first | apply Kd.R_alloc | apply Kd.R_drewN | apply Kd.R_drew)); exact HO0.out, by repeat (first | (with_reducible first | exact HB.out | apply below_alloc | apply pw_below_drewN | apply below_drew1 | refine below_set ?_ GE147.out) | exact HB.out), by repeat (first | (with_reducible first | exact HK.out | apply Kept.alloc | apply Kept.drewN | apply Kept.drew | refine Kept.setCell ?_ (.inr GW147.out) _) | exact HK.out)⟩
     ·rw [if_neg c7] at H
      have c7b0 : ((rd l0 a1_1) == (rd l0 a1_2)) = false := beq_eq_false_iff_ne.mpr c7
      have c7b1 : ((rd l0 a1_1) != (rd l0 a1_2)) = true := bne_iff_ne.mpr c7
      have H' := Aside0.mk H
      clear H
      go_enter Try.func86, Try.ntmps86
      go_wp2_with (first | ((with_reducible refine gate_dst (N := 3) rfl ?_); refine box_event ?hg (N := 3) ?hd (cs := #[.int .i64 a1_0, .int .i64 a1_1, .int .i64 a1_2, .int .i64 a1_3, .int .i64 a1_4, .int .i64 a1_5]) (t := 36) ?hr ?_; (case hd => rfl); (case hg => rfl); (case hr => first | (go_simp; done) | (go_simp; rfl)); intro gb147 hg w11 hbox hb; have n0_ := Aside0.mk (Kd.R_below (by (with_reducible repeat (first | apply Kd.R_alloc | apply Kd.R_drewN | apply Kd.R_drew)); exact HO0.out) hb); have n1_ := Aside0.mk (Kept.below (S := (fun k_ => P0_ k_)) (by repeat (first | (with_reducible first | exact HK.out | apply Kept.alloc | apply Kept.drewN | apply Kept.drew) | exact HK.out)) hb); have n2_ := Aside0.mk (below_step (by repeat (first | (with_reducible first | exact HB.out | apply below_alloc | apply pw_below_drewN | apply below_drew1) | exact HB.out)) hb); have n3_ := Aside0.mk (hbox); have n4_ := Aside0.mk ((by rw [hg]; exact (by first | exact HK.out.1 | exact (show Kept w _ (fun k_ => P0_ k_) from by repeat (first | (with_reducible first | exact HK.out | apply Kept.alloc | apply Kept.drewN | apply Kept.drew) | exact HK.out)).1) : w.heap.size ≤ gb147)); have n5_ := Aside0.mk ((by rw [hg]; exact (below_size (by repeat (first | (with_reducible first | exact HB.out | apply below_alloc | apply pw_below_drewN | apply below_drew1) | exact HB.out))) : w0.heap.size ≤ gb147)); clear HO0; clear HK; clear HB; have HO0 := n0_; have HK := n1_; have HB := n2_; have BK147 := n3_; have GW147 := n4_; have GE147 := n5_; clear n0_ n1_ n2_ n3_ n4_ n5_; clear hb hbox hg; have hcz12_0 : w11.cell? ⟨gb147, 0, none⟩ = some (.int .i64 a1_0) := (blk_cell BK147.out 0).trans rfl; have hcz12_1 : w11.cell? ⟨gb147, 1, none⟩ = some (.int .i64 a1_1) := (blk_cell BK147.out 1).trans rfl; have hcz12_2 : w11.cell? ⟨gb147, 2, none⟩ = some (.int .i64 a1_2) := (blk_cell BK147.out 2).trans rfl; have hcz12_3 : w11.cell? ⟨gb147, 3, none⟩ = some (.int .i64 a1_3) := (blk_cell BK147.out 3).trans rfl; have hcz12_4 : w11.cell? ⟨gb147, 4, none⟩ = some (.int .i64 a1_4) := (blk_cell BK147.out 4).trans rfl; have hcz12_5 : w11.cell? ⟨gb147, 5, none⟩ = some (.int .i64 a1_5) := (blk_cell BK147.out 5).trans rfl; have hfz12_0 := blk_frozen BK147.out 0; have hfz12_1 := blk_frozen BK147.out 1; have hfz12_2 := blk_frozen BK147.out 2; have hfz12_3 := blk_frozen BK147.out 3; have hfz12_4 := blk_frozen BK147.out 4; have hfz12_5 := blk_frozen BK147.out 5; obtain ⟨Ao13, co13, eo13⟩ := Kd.R_slice HO0.out; subst eo13; have p148 : 0 ≤ (a1_1 : Int) := of_decide_eq_true (by first | (with_reducible assumption) | assumption); have q148 : a1_1 < (l0.length : Int) := of_decide_eq_true (by first | (with_reducible assumption) | assumption); obtain ⟨ad148, e148, hx148_0⟩ := Kd.at_int (Kd.R_reads' HO0.out).2.2 a1_1 p148 q148; cases e148; replace p148 := eq_true p148; replace q148 := eq_true q148; have p149 : 0 ≤ (a1_2 : Int) := of_decide_eq_true (by first | (with_reducible assumption) | assumption); have q149 : a1_2 < (l0.length : Int) := of_decide_eq_true (by first | (with_reducible assumption) | assumption); obtain ⟨ad149, e149, hx149_0⟩ := Kd.at_int (Kd.R_reads' HO0.out).2.2 a1_2 p149 q149; obtain rfl : ad148 = ad149 := (by injection e149); replace p149 := eq_true p149; replace q149 := eq_true q149))
      repeat (go_quiet (first | ((with_reducible refine gate_dst (N := 3) rfl ?_); refine box_event ?hg (N := 3) ?hd (cs := #[.int .i64 a1_0, .int .i64 a1_1, .int .i64 a1_2, .int .i64 a1_3, .int .i64 a1_4, .int .i64 a1_5]) (t := 36) ?hr ?_; (case hd => rfl); (case hg => rfl); (case hr => first | (go_simp; done) | (go_simp; rfl)); intro gb147 hg w11 hbox hb; have n0_ := Aside0.mk (Kd.R_below (by (with_reducible repeat (first | apply Kd.R_alloc | apply Kd.R_drewN | apply Kd.R_drew)); exact HO0.out) hb); have n1_ := Aside0.mk (Kept.below (S := (fun k_ => P0_ k_)) (by repeat (first | (with_reducible first | exact HK.out | apply Kept.alloc | apply Kept.drewN | apply Kept.drew) | exact HK.out)) hb); have n2_ := Aside0.mk (below_step (by repeat (first | (with_reducible first | exact HB.out | apply below_alloc | apply pw_below_drewN | apply below_drew1) | exact HB.out)) hb); have n3_ := Aside0.mk (hbox); have n4_ := Aside0.mk ((by rw [hg]; exact (by first | exact HK.out.1 | exact (show Kept w _ (fun k_ => P0_ k_) from by repeat (first | (with_reducible first | exact HK.out | apply Kept.alloc | apply Kept.drewN | apply Kept.drew) | exact HK.out)).1) : w.heap.size ≤ gb147)); have n5_ := Aside0.mk ((by rw [hg]; exact (below_size (by repeat (first | (with_reducible first | exact HB.out | apply below_alloc | apply pw_below_drewN | apply below_drew1) | exact HB.out))) : w0.heap.size ≤ gb147)); clear HO0; clear HK; clear HB; have HO0 := n0_; have HK := n1_; have HB := n2_; have BK147 := n3_; have GW147 := n4_; have GE147 := n5_; clear n0_ n1_ n2_ n3_ n4_ n5_; clear hb hbox hg; have hcz12_0 : w11.cell? ⟨gb147, 0, none⟩ = some (.int .i64 a1_0) := (blk_cell BK147.out 0).trans rfl; have hcz12_1 : w11.cell? ⟨gb147, 1, none⟩ = some (.int .i64 a1_1) := (blk_cell BK147.out 1).trans rfl; have hcz12_2 : w11.cell? ⟨gb147, 2, none⟩ = some (.int .i64 a1_2) := (blk_cell BK147.out 2).trans rfl; have hcz12_3 : w11.cell? ⟨gb147, 3, none⟩ = some (.int .i64 a1_3) := (blk_cell BK147.out 3).trans rfl; have hcz12_4 : w11.cell? ⟨gb147, 4, none⟩ = some (.int .i64 a1_4) := (blk_cell BK147.out 4).trans rfl; have hcz12_5 : w11.cell? ⟨gb147, 5, none⟩ = some (.int .i64 a1_5) := (blk_cell BK147.out 5).trans rfl; have hfz12_0 := blk_frozen BK147.out 0; have hfz12_1 := blk_frozen BK147.out 1; have hfz12_2 := blk_frozen BK147.out 2; have hfz12_3 := blk_frozen BK147.out 3; have hfz12_4 := blk_frozen BK147.out 4; have hfz12_5 := blk_frozen BK147.out 5; obtain ⟨Ao13, co13, eo13⟩ := Kd.R_slice HO0.out; subst eo13; have p148 : 0 ≤ (a1_1 : Int) := of_decide_eq_true (by first | (with_reducible assumption) | assumption); have q148 : a1_1 < (l0.length : Int) := of_decide_eq_true (by first | (with_reducible assumption) | assumption); obtain ⟨ad148, e148, hx148_0⟩ := Kd.at_int (Kd.R_reads' HO0.out).2.2 a1_1 p148 q148; cases e148; replace p148 := eq_true p148; replace q148 := eq_true q148; have p149 : 0 ≤ (a1_2 : Int) := of_decide_eq_true (by first | (with_reducible assumption) | assumption); have q149 : a1_2 < (l0.length : Int) := of_decide_eq_true (by first | (with_reducible assumption) | assumption); obtain ⟨ad149, e149, hx149_0⟩ := Kd.at_int (Kd.R_reads' HO0.out).2.2 a1_2 p149 q149; obtain rfl : ad148 = ad149 := (by injection e149); replace p149 := eq_true p149; replace q149 := eq_true q149)); try go_wp2_with (first | ((with_reducible refine gate_dst (N := 3) rfl ?_); refine box_event ?hg (N := 3) ?hd (cs := #[.int .i64 a1_0, .int .i64 a1_1, .int .i64 a1_2, .int .i64 a1_3, .int .i64 a1_4, .int .i64 a1_5]) (t := 36) ?hr ?_; (case hd => rfl); (case hg => rfl); (case hr => first | (go_simp; done) | (go_simp; rfl)); intro gb147 hg w11 hbox hb; have n0_ := Aside0.mk (Kd.R_below (by (with_reducible repeat (first | apply Kd.R_alloc | apply Kd.R_drewN | apply Kd.R_drew)); exact HO0.out) hb); have n1_ := Aside0.mk (Kept.below (S := (fun k_ => P0_ k_)) (by repeat (first | (with_reducible first | exact HK.out | apply Kept.alloc | apply Kept.drewN | apply Kept.drew) | exact HK.out)) hb); have n2_ := Aside0.mk (below_step (by repeat (first | (with_reducible first | exact HB.out | apply below_alloc | apply pw_below_drewN | apply below_drew1) | exact HB.out)) hb); have n3_ := Aside0.mk (hbox); have n4_ := Aside0.mk ((by rw [hg]; exact (by first | exact HK.out.1 | exact (show Kept w _ (fun k_ => P0_ k_) from by repeat (first | (with_reducible first | exact HK.out | apply Kept.alloc | apply Kept.drewN | apply Kept.drew) | exact HK.out)).1) : w.heap.size ≤ gb147)); have n5_ := Aside0.mk ((by rw [hg]; exact (below_size (by repeat (first | (with_reducible first | exact HB.out | apply below_alloc | apply pw_below_drewN | apply below_drew1) | exact HB.out))) : w0.heap.size ≤ gb147)); clear HO0; clear HK; clear HB; have HO0 := n0_; have HK := n1_; have HB := n2_; have BK147 := n3_; have GW147 := n4_; have GE147 := n5_; clear n0_ n1_ n2_ n3_ n4_ n5_; clear hb hbox hg; have hcz12_0 : w11.cell? ⟨gb147, 0, none⟩ = some (.int .i64 a1_0) := (blk_cell BK147.out 0).trans rfl; have hcz12_1 : w11.cell? ⟨gb147, 1, none⟩ = some (.int .i64 a1_1) := (blk_cell BK147.out 1).trans rfl; have hcz12_2 : w11.cell? ⟨gb147, 2, none⟩ = some (.int .i64 a1_2) := (blk_cell BK147.out 2).trans rfl; have hcz12_3 : w11.cell? ⟨gb147, 3, none⟩ = some (.int .i64 a1_3) := (blk_cell BK147.out 3).trans rfl; have hcz12_4 : w11.cell? ⟨gb147, 4, none⟩ = some (.int .i64 a1_4) := (blk_cell BK147.out 4).trans rfl; have hcz12_5 : w11.cell? ⟨gb147, 5, none⟩ = some (.int .i64 a1_5) := (blk_cell BK147.out 5).trans rfl; have hfz12_0 := blk_frozen BK147.out 0; have hfz12_1 := blk_frozen BK147.out 1; have hfz12_2 := blk_frozen BK147.out 2; have hfz12_3 := blk_frozen BK147.out 3; have hfz12_4 := blk_frozen BK147.out 4; have hfz12_5 := blk_frozen BK147.out 5; obtain ⟨Ao13, co13, eo13⟩ := Kd.R_slice HO0.out; subst eo13; have p148 : 0 ≤ (a1_1 : Int) := of_decide_eq_true (by first | (with_reducible assumption) | assumption); have q148 : a1_1 < (l0.length : Int) := of_decide_eq_true (by first | (with_reducible assumption) | assumption); obtain ⟨ad148, e148, hx148_0⟩ := Kd.at_int (Kd.R_reads' HO0.out).2.2 a1_1 p148 q148; cases e148; replace p148 := eq_true p148; replace q148 := eq_true q148; have p149 : 0 ≤ (a1_2 : Int) := of_decide_eq_true (by first | (with_reducible assumption) | assumption); have q149 : a1_2 < (l0.length : Int) := of_decide_eq_true (by first | (with_reducible assumption) | assumption); obtain ⟨ad149, e149, hx149_0⟩ := Kd.at_int (Kd.R_reads' HO0.out).2.2 a1_2 p149 q149; obtain rfl : ad148 = ad149 := (by injection e149); replace p149 := eq_true p149; replace q149 := eq_true q149)))
      go_loopg [23] k (fun kq v23 w' => ∃ (x0_1 : List Int) (x23_1 : Int), v23 = .int .i64 x23_1 ∧ Aside0 (railplanref11_merge.l0 kq x0_1 (rd l0 a1_1) (rd l0 a1_2) (l0.length : Int) x23_1 = some (r1, r2)) ∧ Aside0 (kq ≤ k) ∧ Aside0 (Kd.R (Kd.int .i64) 3 w' w0.heap.size (fun k_ => (P0_ k_ ∨ w.heap.size ≤ k_)) (.slice (some ad148) l0.length co13) x0_1) ∧ Aside0 (w'.heap[gb147]? = some (.cells #[.int .i64 a1_0, .int .i64 a1_1, .int .i64 a1_2, .int .i64 a1_3, .int .i64 a1_4, .int .i64 a1_5] 36 (0, 0))) ∧ Aside0 (Kept w w' (fun k_ => P0_ k_)) ∧ Aside0 (Below w0.heap.size w0 w'))
      case atStart => exact ⟨(l0), (0), (by first | rfl | (simp; done) | (simp [*]; done)), H', ⟨Nat.le_refl _⟩, ⟨by (with_reducible repeat (first | apply Kd.R_alloc | apply Kd.R_drewN | apply Kd.R_drew)); exact HO0.out⟩, ⟨by (with_reducible repeat (first | refine blk_drewN ?_ _ | refine blk_drew ?_ | refine blk_alloc ?_ _)); exact BK147.out⟩, ⟨by repeat (first | (with_reducible first | exact HK.out | apply Kept.alloc | apply Kept.drewN | apply Kept.drew | refine Kept.setCell ?_ (.inr GW147.out) _) | exact HK.out)⟩, ⟨by repeat (first | (with_reducible first | exact HB.out | apply below_alloc | apply pw_below_drewN | apply below_drew1 | refine below_set ?_ GE147.out) | exact HB.out)⟩⟩
      case round =>
       clear H'
       try clear p1
       try clear q1
       try clear hx1
       try clear p2
       try clear c3
       try clear c3b0
       try clear c4
       try clear c4b0
       try clear c5
       try clear c5b0
       try clear c6
       try clear c6b0
       try clear c7
       try clear c7b0
       try clear c7b1
       try clear c8
       try clear hcz12_0
       try clear hcz12_1
       try clear hcz12_2
       try clear hcz12_3
       try clear hcz12_4
       try clear hcz12_5
       try clear hcz9_0
       try clear hcz9_1
       try clear hcz9_2
       try clear hcz9_3
       try clear hcz9_4
       try clear hcz9_5
       try clear hfz12_0
       try clear hfz12_1
       try clear hfz12_2
       try clear hfz12_3
       try clear hfz12_4
       try clear hfz12_5
       try clear hfz9_0
       try clear hfz9_1
       try clear hfz9_2
       try clear hfz9_3
       try clear hfz9_4
       try clear hfz9_5
       try clear hx148_0
       try clear hx149_0
       try clear p148
       try clear p149
       try clear q148
       try clear q149
       obtain ⟨x0_1, x23_1, rfl, HA, HK1, HO_0, BK147, HK, HB⟩ := hrel
       have hl0_1 := (Kd.R_reads' HO_0.out).1
       rw [hl0_1] at HO_0
       (try simp only [hl0_1])
       (try simp only [hl0_1] at BK147)
       cases gk with
       | zero => exact absurd HA.out (by simp [railplanref11_merge.l0])
       | succ k1 =>
        have H := HA.out
        clear HA
        simp only [railplanref11_merge.l0] at H
        by_cases c14 : x23_1 < (l0.length : Int)
        ·rw [if_pos c14] at H
         have c14b0 : decide (x23_1 < (l0.length : Int)) = true := decide_eq_true c14
         (try (have c14b0r := c14b0; simp only [hl0_1] at c14b0r))
         clear c14
         by_cases c15 : 0 ≤ x23_1
         ·rw [if_pos c15] at H
          have c15b0 : decide (0 ≤ x23_1) = true := decide_eq_true c15
          clear c15
          by_cases c16 : x23_1 < (x0_1.length : Int)
          ·rw [if_pos c16] at H
           have c16b0 : decide (x23_1 < (x0_1.length : Int)) = true := decide_eq_true c16
           (try (have c16b0r := c16b0; simp only [hl0_1] at c16b0r))
           clear c16
           by_cases c17 : (rd x0_1 x23_1) = (rd l0 a1_2)
           ·rw [if_pos c17] at H
            have c17b0 : ((rd x0_1 x23_1) == (rd l0 a1_2)) = true := beq_iff_eq.mpr c17
            have c17b1 : ((rd x0_1 x23_1) != (rd l0 a1_2)) = false := bne_eq_false_iff_eq.mpr c17
            clear c17
            obtain ⟨y151, hy151⟩ : ∃ y_ : List Int, y_ = (x0_1.set (x23_1 : Int).toNat (rd l0 a1_1)) := ⟨_, rfl⟩
            replace H : (railplanref11_merge.l0 k1 y151 (rd l0 a1_1) (rd l0 a1_2) (l0.length : Int) (wrap64 (x23_1 + 1))) = some (r1, r2) := by first | (rw [hy151]; with_reducible exact H) | (have H2_ := (Option.bind_some _ _).symm.trans H; rw [hy151]; with_reducible exact H2_) | (have H2_ := (Option.bind_some _ _).symm.trans H; with_reducible exact H2_) | with_reducible exact H | (rw [hy151]; exact H) | exact H
            have Ny151 := Aside0.mk hy151
            clear hy151
            have H' := Aside0.mk H
            clear H
            have p150 : 0 ≤ (x23_1 : Int) := of_decide_eq_true (by first | (with_reducible assumption) | assumption)
            have q150 : x23_1 < (x0_1.length : Int) := of_decide_eq_true (by first | (with_reducible assumption) | assumption)
            obtain ⟨ad150, e150, hx150_0⟩ := Kd.at_int (Kd.R_reads' HO_0.out).2.2 x23_1 p150 q150
            obtain rfl : ad148 = ad150 := (by injection e150)
            replace p150 := eq_true p150
            replace q150 := eq_true q150
            have p18 : 0 ≤ (x23_1 : Int) := of_decide_eq_true (by first | (with_reducible assumption) | assumption)
            have q18 : (x23_1 : Int) < ((x0_1.length : Int) : Int) := of_decide_eq_true (by first | (with_reducible assumption) | assumption)
            obtain ⟨go18, co18, eo18, gb18, gl18, cl18, HG18⟩ := Kd.R_form HO_0.out (by first | omega | (have hz_ := (Kd.R_reads' HO_0.out).1; omega))
            (first | cases eo18 | (injection eo18 with ea_ en_ ec_; (first | subst ea_ | (injection ea_ with ea_; subst ea_)); subst ec_; clear en_))
            have GB18 := Aside0.mk gb18
            have GG18 := Aside0.mk HG18
            clear gb18 gl18 HG18
            have HMgo18 := Aside0.mk (show (P0_ go18 ∨ w.heap.size ≤ go18) from (HO_0.out.1 _ rfl))
            (first | simp only [add_plain] at hx148_0 | skip)
            (first | simp only [add_plain] at hx149_0 | skip)
            (first | simp only [add_plain] at hx150_0 | skip)
            obtain ⟨hx18_0, hf18_0⟩ := Kd.R_celln 0 HO_0.out (x23_1 : Int) p18 q18
            replace p18 := eq_true p18
            replace q18 := eq_true q18
            have HP19 := Kd.R_putg HO_0.out (x23_1 : Int) (rd l0 a1_1)
            go_wp2_with (first | ((with_reducible refine gate_store (t := 3) (p := 35) rfl ?_); (try (rw [drewN_self wr]; generalize hq_ : World.drewN wr _ = wr; have n0_ := Aside0.mk (Kd.R_at hq_ HO_0.out); have n1_ := Aside0.mk (blk_at hq_ BK147.out); have n2_ := Aside0.mk (kept_at hq_ HK.out); have n3_ := Aside0.mk (below_at hq_ HB.out); clear hq_ HO_0 BK147 HK HB; have HO_0 := n0_; have BK147 := n1_; have HK := n2_; have HB := n3_; clear n0_ n1_ n2_ n3_; (try (have HP19 := Kd.R_putg HO_0.out (x23_1 : Int) (rd l0 a1_1))))); refine store_event (t := 3) (p := 35) (v := ?vo_w20) (w1 := (wr.setCell ⟨go18, (x23_1 : Int).toNat, none⟩ (.int .i64 (rd l0 a1_1)))) ?hg ?ho ?hn ?hr ?_; (case ho => rfl); (case hg => rfl); (case hn => rfl); (case hr => first | (go_simp; done) | (go_simp; rfl)); intro w20 hw; have hg : wr.grownBy w20 (some go18) := (by rw [hw]; exact HP19.2); have hp_ : Kd.R (Kd.int .i64) 3 w20 w0.heap.size (fun k_ => (P0_ k_ ∨ w.heap.size ≤ k_)) (.slice (some ⟨go18, 0, none⟩) x0_1.length co13) y151 := (by rw [hw, Ny151.out]; exact HP19.1); clear HP19; have n0_ := Aside0.mk (hp_); have n1_ := Aside0.mk (blk_grown (g := gb147) (o := .cells #[.int .i64 a1_0, .int .i64 a1_1, .int .i64 a1_2, .int .i64 a1_3, .int .i64 a1_4, .int .i64 a1_5] 36 (0, 0)) (by (with_reducible repeat (first | refine blk_drewN ?_ _ | refine blk_drew ?_ | refine blk_alloc ?_ _)); exact BK147.out) hg (Kd.R_ne HO_0.out BK147.out (by decide))); have n2_ := Aside0.mk ((by rw [hw]; exact below_set (HB.out) GB18.out : Below w0.heap.size w0 w20)); have n3_ := Aside0.mk (Kept.of_grown (S := (fun k_ => P0_ k_)) hg (by repeat (first | (with_reducible first | exact HK.out | apply Kept.alloc | apply Kept.drewN | apply Kept.drew | refine Kept.setCell ?_ (.inr GW147.out) _) | exact HK.out)) (fun k_ e_ => (HO_0.out.1 k_ e_))); clear HO_0; clear BK147; clear HB; clear HK; have HO_0 := n0_; have BK147 := n1_; have HB := n2_; have HK := n3_; clear n0_ n1_ n2_ n3_; clear hg hw hp_))
            repeat (go_quiet (first | ((with_reducible refine gate_store (t := 3) (p := 35) rfl ?_); (try (rw [drewN_self wr]; generalize hq_ : World.drewN wr _ = wr; have n0_ := Aside0.mk (Kd.R_at hq_ HO_0.out); have n1_ := Aside0.mk (blk_at hq_ BK147.out); have n2_ := Aside0.mk (kept_at hq_ HK.out); have n3_ := Aside0.mk (below_at hq_ HB.out); clear hq_ HO_0 BK147 HK HB; have HO_0 := n0_; have BK147 := n1_; have HK := n2_; have HB := n3_; clear n0_ n1_ n2_ n3_; (try (have HP19 := Kd.R_putg HO_0.out (x23_1 : Int) (rd l0 a1_1))))); refine store_event (t := 3) (p := 35) (v := ?vo_w20) (w1 := (wr.setCell ⟨go18, (x23_1 : Int).toNat, none⟩ (.int .i64 (rd l0 a1_1)))) ?hg ?ho ?hn ?hr ?_; (case ho => rfl); (case hg => rfl); (case hn => rfl); (case hr => first | (go_simp; done) | (go_simp; rfl)); intro w20 hw; have hg : wr.grownBy w20 (some go18) := (by rw [hw]; exact HP19.2); have hp_ : Kd.R (Kd.int .i64) 3 w20 w0.heap.size (fun k_ => (P0_ k_ ∨ w.heap.size ≤ k_)) (.slice (some ⟨go18, 0, none⟩) x0_1.length co13) y151 := (by rw [hw, Ny151.out]; exact HP19.1); clear HP19; have n0_ := Aside0.mk (hp_); have n1_ := Aside0.mk (blk_grown (g := gb147) (o := .cells #[.int .i64 a1_0, .int .i64 a1_1, .int .i64 a1_2, .int .i64 a1_3, .int .i64 a1_4, .int .i64 a1_5] 36 (0, 0)) (by (with_reducible repeat (first | refine blk_drewN ?_ _ | refine blk_drew ?_ | refine blk_alloc ?_ _)); exact BK147.out) hg (Kd.R_ne HO_0.out BK147.out (by decide))); have n2_ := Aside0.mk ((by rw [hw]; exact below_set (HB.out) GB18.out : Below w0.heap.size w0 w20)); have n3_ := Aside0.mk (Kept.of_grown (S := (fun k_ => P0_ k_)) hg (by repeat (first | (with_reducible first | exact HK.out | apply Kept.alloc | apply Kept.drewN | apply Kept.drew | refine Kept.setCell ?_ (.inr GW147.out) _) | exact HK.out)) (fun k_ e_ => (HO_0.out.1 k_ e_))); clear HO_0; clear BK147; clear HB; clear HK; have HO_0 := n0_; have BK147 := n1_; have HB := n2_; have HK := n3_; clear n0_ n1_ n2_ n3_; clear hg hw hp_)); try go_wp2_with (first | ((with_reducible refine gate_store (t := 3) (p := 35) rfl ?_); (try (rw [drewN_self wr]; generalize hq_ : World.drewN wr _ = wr; have n0_ := Aside0.mk (Kd.R_at hq_ HO_0.out); have n1_ := Aside0.mk (blk_at hq_ BK147.out); have n2_ := Aside0.mk (kept_at hq_ HK.out); have n3_ := Aside0.mk (below_at hq_ HB.out); clear hq_ HO_0 BK147 HK HB; have HO_0 := n0_; have BK147 := n1_; have HK := n2_; have HB := n3_; clear n0_ n1_ n2_ n3_; (try (have HP19 := Kd.R_putg HO_0.out (x23_1 : Int) (rd l0 a1_1))))); refine store_event (t := 3) (p := 35) (v := ?vo_w20) (w1 := (wr.setCell ⟨go18, (x23_1 : Int).toNat, none⟩ (.int .i64 (rd l0 a1_1)))) ?hg ?ho ?hn ?hr ?_; (case ho => rfl); (case hg => rfl); (case hn => rfl); (case hr => first | (go_simp; done) | (go_simp; rfl)); intro w20 hw; have hg : wr.grownBy w20 (some go18) := (by rw [hw]; exact HP19.2); have hp_ : Kd.R (Kd.int .i64) 3 w20 w0.heap.size (fun k_ => (P0_ k_ ∨ w.heap.size ≤ k_)) (.slice (some ⟨go18, 0, none⟩) x0_1.length co13) y151 := (by rw [hw, Ny151.out]; exact HP19.1); clear HP19; have n0_ := Aside0.mk (hp_); have n1_ := Aside0.mk (blk_grown (g := gb147) (o := .cells #[.int .i64 a1_0, .int .i64 a1_1, .int .i64 a1_2, .int .i64 a1_3, .int .i64 a1_4, .int .i64 a1_5] 36 (0, 0)) (by (with_reducible repeat (first | refine blk_drewN ?_ _ | refine blk_drew ?_ | refine blk_alloc ?_ _)); exact BK147.out) hg (Kd.R_ne HO_0.out BK147.out (by decide))); have n2_ := Aside0.mk ((by rw [hw]; exact below_set (HB.out) GB18.out : Below w0.heap.size w0 w20)); have n3_ := Aside0.mk (Kept.of_grown (S := (fun k_ => P0_ k_)) hg (by repeat (first | (with_reducible first | exact HK.out | apply Kept.alloc | apply Kept.drewN | apply Kept.drew | refine Kept.setCell ?_ (.inr GW147.out) _) | exact HK.out)) (fun k_ e_ => (HO_0.out.1 k_ e_))); clear HO_0; clear BK147; clear HB; clear HK; have HO_0 := n0_; have BK147 := n1_; have HB := n2_; have HK := n3_; clear n0_ n1_ n2_ n3_; clear hg hw hp_)))
            (try simp only [← hl0_1])
            (try simp only [← add_plain go18 (a1_1 : Int).toNat]); (try simp only [← add_plain go18 (a1_2 : Int).toNat])
            go_roundg k1
            case measure => have := HK1.out; omega
            case rel => exact ⟨(y151), (wrap64 (x23_1 + 1)), (by first | rfl | (simp; done) | (simp [*]; done)), H', ⟨by have := HK1.out; omega⟩, ⟨by (try simp only [hl0_1]); (with_reducible repeat (first | apply Kd.R_alloc | apply Kd.R_drewN | apply Kd.R_drew)); exact HO_0.out⟩, ⟨by (try simp only [hl0_1]); (with_reducible repeat (first | refine blk_drewN ?_ _ | refine blk_drew ?_ | refine blk_alloc ?_ _)); exact BK147.out⟩, ⟨by repeat (first | (with_reducible first | exact HK.out | apply Kept.alloc | apply Kept.drewN | apply Kept.drew | refine Kept.setCell ?_ (.inr GW147.out) _) | exact HK.out)⟩, ⟨by repeat (first | (with_reducible first | exact HB.out | apply below_alloc | apply pw_below_drewN | apply below_drew1 | refine below_set ?_ GE147.out) | exact HB.out)⟩⟩
           ·rw [if_neg c17] at H
            have c17b0 : ((rd x0_1 x23_1) == (rd l0 a1_2)) = false := beq_eq_false_iff_ne.mpr c17
            have c17b1 : ((rd x0_1 x23_1) != (rd l0 a1_2)) = true := bne_iff_ne.mpr c17
            have H' := Aside0.mk H
            clear H
            have p150 : 0 ≤ (x23_1 : Int) := of_decide_eq_true (by first | (with_reducible assumption) | assumption)
            have q150 : x23_1 < (x0_1.length : Int) := of_decide_eq_true (by first | (with_reducible assumption) | assumption)
            obtain ⟨ad150, e150, hx150_0⟩ := Kd.at_int (Kd.R_reads' HO_0.out).2.2 x23_1 p150 q150
            obtain rfl : ad148 = ad150 := (by injection e150)
            replace p150 := eq_true p150
            replace q150 := eq_true q150
            go_wp2
            repeat (go_quiet (fail); try go_wp2)
            (try simp only [← hl0_1])
            (try simp only [← add_plain go18 (a1_1 : Int).toNat]); (try simp only [← add_plain go18 (a1_2 : Int).toNat])
            go_roundg k1
            case measure => have := HK1.out; omega
            case rel => exact ⟨(x0_1), (wrap64 (x23_1 + 1)), (by first | rfl | (simp; done) | (simp [*]; done)), H', ⟨by have := HK1.out; omega⟩, ⟨by (try simp only [hl0_1]); (with_reducible repeat (first | apply Kd.R_alloc | apply Kd.R_drewN | apply Kd.R_drew)); exact HO_0.out⟩, ⟨by (try simp only [hl0_1]); (with_reducible repeat (first | refine blk_drewN ?_ _ | refine blk_drew ?_ | refine blk_alloc ?_ _)); exact BK147.out⟩, ⟨by repeat (first | (with_reducible first | exact HK.out | apply Kept.alloc | apply Kept.drewN | apply Kept.drew | refine Kept.setCell ?_ (.inr GW147.out) _) | exact HK.out)⟩, ⟨by repeat (first | (with_reducible first | exact HB.out | apply below_alloc | apply pw_below_drewN | apply below_drew1 | refine below_set ?_ GE147.out) | exact HB.out)⟩⟩
          ·rw [if_neg c16] at H
           exact absurd H (by simp)
         ·rw [if_neg c15] at H
          exact absurd H (by simp)
        ·rw [if_neg c14] at H
         have c14b0 : decide (x23_1 < (l0.length : Int)) = false := decide_eq_false c14
         (try (have c14b0r := c14b0; simp only [hl0_1] at c14b0r))
         clear c14
         simp only [Option.some.injEq, Prod.mk.injEq] at H
         obtain ⟨rfl, rfl⟩ := H
         go_wp2
         repeat (go_quiet (fail); try go_wp2)
         go_ret
         exact ⟨by first | rfl | (simp [errW_none, errW_some] <;> rfl) | (simp [*, errW_none, errW_some] <;> rfl), (by first | exact (by (with_reducible repeat (first | apply Kd.R_alloc | apply Kd.R_drewN | apply Kd.R_drew)); exact HO_0.out) | (simp only [hl0_1]; exact (by (with_reducible repeat (first | apply Kd.R_alloc | apply Kd.R_drewN | apply Kd.R_drew)); exact HO_0.out))), by repeat (first | (with_reducible first | exact HB.out | apply below_alloc | apply pw_below_drewN | apply below_drew1 | refine below_set ?_ GE147.out) | exact HB.out), by repeat (first | (with_reducible first | exact HK.out | apply Kept.alloc | apply Kept.drewN | apply Kept.drew | refine Kept.setCell ?_ (.inr GW147.out) _) | exact HK.out)⟩
    ·rw [if_neg c6] at H
     exact absurd H (by simp)
   ·rw [if_neg c5] at H
    exact absurd H (by simp)
  ·rw [if_neg c4] at H
   exact absurd H (by simp)
 ·rw [if_neg c3] at H
  exact absurd H (by simp)
end Go.Proofs.Ytbkjplomoegbdaa.PB
