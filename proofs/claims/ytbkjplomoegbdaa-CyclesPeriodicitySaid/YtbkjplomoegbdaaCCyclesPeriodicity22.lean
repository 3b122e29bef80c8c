/- Parts of the proof of CyclesPeriodicity, gathered by a program of this claim out of texts that it or the kit's print wrote: lemmas alone, no condition of their own. -/
import Derived.Test.YtbkjplomoegbdaaCCyclesPeriodicity4
import Derived.Test.YtbkjplomoegbdaaCCyclesPeriodicity21
import Derived.Test.YtbkjplomoegbdaaCCyclesPeriodicity20
namespace Go.Proofs.Ytbkjplomoegbdaa.PB
open Go.RowKit Go.Proofs.YtbkjplomoegbdaaW.PrintWords Go.Proofs.YtbkjplomoegbdaaW.PrintLast Go.Proofs.YtbkjplomoegbdaaW.PrintMore
attribute [local go_sem] max2_int min2_int max_two min_two max_three min_three max_four min_four
set_option linter.unusedVariables false
set_option linter.unusedSimpArgs false
def cycles_Tensions.l0 : Nat → List Int → List Int → List (S36) → Int → Int → Int → List (S97) → List (S36) → Option (List Int × Int)
 | 0, _, _, _, _, _, _, _, _ => none
 | k + 1, x1, x6, x14, x15, x16, x324000, x324001, x324002 => if x16 < x15 then (if 0 ≤ x16 then (if x16 < (x14.length : Int) then (if 0 ≤ ((rd_T36 x14 x16).f1) then (if ((rd_T36 x14 x16).f1) < (x1.length : Int) then (if 0 ≤ ((rd_T36 x14 x16).f2) then (if ((rd_T36 x14 x16).f2) < (x1.length : Int) then ((network_Lasts.f x324000 ((rd_T36 x14 x16).f0) ((rd_T36 x14 x16).f1) ((rd_T36 x14 x16).f2) ((rd_T36 x14 x16).f3) ((rd_T36 x14 x16).f4) ((rd_T36 x14 x16).f5) (rd x1 ((rd_T36 x14 x16).f1)) (rd x1 ((rd_T36 x14 x16).f2))).bind fun t329 => (if x6.length < 17592186044416 then (cycles_Tensions.l0 k x1 (x6 ++ [t329]) x14 x15 (wrap64 (x16 + 1)) x324000 x324001 x324002) else (none))) else (none)) else (none)) else (none)) else (none)) else (none)) else (none)) else (some (x6, 0))
def cycles_Tensions.f (k : Nat) (a0_0 : Int) (l0_1 : List (S97)) (l0_2 : List (S36)) (l1 : List Int) : Option (List Int × Int) := (network_Good.f a0_0 l0_1 l0_2 l1).bind fun t324 => (if t324 = true then (cycles_Tensions.l0 k l1 ([] : List Int) l0_2 (l0_2.length : Int) 0 a0_0 l0_1 l0_2) else (some (([] : List Int), 1)))
def cycles_Tensions.T7 : Bool × List (List Nat × List Nat) := (true, [([], []), ([], []), ([1], [1]), ([], []), ([], []), ([], []), ([5], [5]), ([4, 6], [4, 6]), ([7], [7]), ([], []), ([], []), ([10], [10]), ([9, 11], [9, 11]), ([12], [12]), ([2, 3, 8, 13], [2, 3, 8, 13]), ([14], [14]), ([0, 15, 14], [0, 15]), ([16, 16, 0, 1, 2, 3, 4, 5, 6, 7, 8, 9, 10, 11, 12, 13, 14, 15, 16], [0, 16])])
def cycles_Tensions.B7 : List Nat := [0, 0, 2, 0, 0, 0, 32, 112, 240, 0, 0, 1024, 3584, 7680, 16382, 32766, 65535, 131071]
theorem cycles_Tensions.tab7 : rtab .any (opsOf Try.f42 7) = cycles_Tensions.T7 := by kernel_rfl
theorem cycles_Tensions.bits7 : waitsOk cycles_Tensions.T7.2 cycles_Tensions.B7 = true := by kernel_rfl
set_option maxHeartbeats 8000000 in
set_option maxRecDepth 100000 in
theorem cycles_Tensions.calls (k : Nat) (a0_0 : Int) (A0_1 : Option Addr) (c0_1 : Nat) (l0_1 : List (S97)) (A0_2 : Option Addr) (c0_2 : Nat) (l0_2 : List (S36)) (A1 : Option Addr) (c1 : Nat) (l1 : List Int) (r1 : List Int) (r2 : Int) (w : World) (hr0_1 : Kd.C k97 w A0_1 l0_1.length l0_1) (hc0_1 : l0_1.length ≤ c0_1) (hr0_2 : Kd.C k36 w A0_2 l0_2.length l0_2) (hc0_2 : l0_2.length ≤ c0_2) (hr1 : Kd.C (Kd.int .i64) w A1 l1.length l1) (hc1 : l1.length ≤ c1) (h : cycles_Tensions.f k a0_0 l0_1 l0_2 l1 = some (r1, r2)) :
  Calls Try.prog 42 #[.agg #[.int .i64 a0_0, .slice A0_1 l0_1.length c0_1, .slice A0_2 l0_2.length c0_2], .slice A1 l1.length c1] w fun e w' => ∃ v0_ : Value, e = .returned (.tuple #[v0_, .int .i64 r2]) ∧ Kd.R (Kd.int .i64) 3 w' w.heap.size (fun _ => True) v0_ r1 ∧ Below w.heap.size w w' := by
 have hu26 := Try.underlying26
 have hu36 := Try.underlying36
 have HR0_1 := Aside0.mk hr0_1
 have HC0_1 := Aside0.mk hc0_1
 clear hr0_1 hc0_1
 have HR0_2 := Aside0.mk hr0_2
 have HC0_2 := Aside0.mk hc0_2
 clear hr0_2 hc0_2
 have HR1 := Aside0.mk hr1
 have HC1 := Aside0.mk hc1
 clear hr1 hc1
 have HB := Aside0.mk (Below.refl w.heap.size w)
 have H : ((network_Good.f a0_0 l0_1 l0_2 l1).bind fun t324 => (if t324 = true then (cycles_Tensions.l0 k l1 ([] : List Int) l0_2 (l0_2.length : Int) 0 a0_0 l0_1 l0_2) else (some (([] : List Int), 1)))) = some (r1, r2) := h
 clear h
 replace H := Option.bind_eq_some_iff.mp H
 obtain ⟨t324, A30, H⟩ := H
 replace H : (if t324 = true then (cycles_Tensions.l0 k l1 ([] : List Int) l0_2 (l0_2.length : Int) 0 a0_0 l0_1 l0_2) else (some (([] : List Int), 1))) = some (r1, r2) := H
 have A3 := Aside0.mk A30
 clear A30
 by_cases c4 : t324 = true
 ·subst c4
  have H1 : (cycles_Tensions.l0 k l1 ([] : List Int) l0_2 (l0_2.length : Int) 0 a0_0 l0_1 l0_2) = some (r1, r2) := by rw [if_pos rfl] at H; exact H
  clear H
  have H := H1
  clear H1
  have H' := Aside0.mk H
  clear H
  go_enter Try.func42, Try.ntmps42
  go_wp2_with (first | ((with_reducible refine gate_dst (N := 2) rfl ?_); refine box_event ?hg (N := 2) ?hd (cs := #[.int .i64 a0_0, .slice A0_1 l0_1.length c0_1, .slice A0_2 l0_2.length c0_2]) (t := 26) ?hr ?_; (case hd => rfl); (case hg => rfl); (case hr => first | (go_simp; done) | (go_simp; rfl)); intro gb323 hg w5 hbox hb; have n0_ := Aside0.mk (below_step (by repeat (first | (with_reducible first | exact HB.out | apply below_alloc | apply pw_below_drewN | apply below_drew1) | exact HB.out)) hb); have n1_ := Aside0.mk (hbox); have n2_ := Aside0.mk ((by rw [hg]; exact (below_size (by repeat (first | (with_reducible first | exact HB.out | apply below_alloc | apply pw_below_drewN | apply below_drew1) | exact HB.out))) : w.heap.size ≤ gb323)); have n3_ := Aside0.mk ((by rw [hg]; exact (below_size (by repeat (first | (with_reducible first | exact HB.out | apply below_alloc | apply pw_below_drewN | apply below_drew1) | exact HB.out))) : w.heap.size ≤ gb323)); clear HB; have HB := n0_; have BK323 := n1_; have GW323 := n2_; have GE323 := n3_; clear n0_ n1_ n2_ n3_; clear hb hbox hg; have hcz6_0 : w5.cell? ⟨gb323, 0, none⟩ = some (.int .i64 a0_0) := (blk_cell BK323.out 0).trans rfl; have hcz6_1 : w5.cell? ⟨gb323, 1, none⟩ = some (.slice A0_1 l0_1.length c0_1) := (blk_cell BK323.out 1).trans rfl; have hcz6_2 : w5.cell? ⟨gb323, 2, none⟩ = some (.slice A0_2 l0_2.length c0_2) := (blk_cell BK323.out 2).trans rfl; have hfz6_0 := blk_frozen BK323.out 0; have hfz6_1 := blk_frozen BK323.out 1; have hfz6_2 := blk_frozen BK323.out 2) | ((with_reducible refine gate_callee (f := 93) rfl ?_); refine goesL_ (some 11) rfl rfl Try.func93 (by kernel_rfl) rfl #[.agg #[.int .i64 a0_0, .slice A0_1 l0_1.length c0_1, .slice A0_2 l0_2.length c0_2], .slice A1 l1.length c1] rfl (by (try simp only [List.map_toArray, List.map_cons, List.map_nil]); first | done | rfl | (simp only [List.length_drop, List.length_take]; rfl)) ?_; (with_reducible refine (network_Good.calls a0_0 _ _ l0_1 _ _ l0_2 _ _ l1 true _ ?side1 ?side2 ?side3 ?side4 ?side5 ?side6 A3.out).mono ?_); (case side1 => repeat (first | exact (Kd.C_below HR0_1.out HB.out) | (with_reducible refine Kd.C_alloc ?_ _) | (with_reducible refine Kd.C_drewN ?_ _) | (with_reducible refine Kd.C_drew ?_))); (case side2 => exact HC0_1.out); (case side3 => repeat (first | exact (Kd.C_below HR0_2.out HB.out) | (with_reducible refine Kd.C_alloc ?_ _) | (with_reducible refine Kd.C_drewN ?_ _) | (with_reducible refine Kd.C_drew ?_))); (case side4 => exact HC0_2.out); (case side5 => repeat (first | exact (Kd.C_below HR1.out HB.out) | (with_reducible refine Kd.C_alloc ?_ _) | (with_reducible refine Kd.C_drewN ?_ _) | (with_reducible refine Kd.C_drew ?_))); (case side6 => exact HC1.out); rintro e w7 ⟨rfl, hb⟩; refine ⟨_, rfl, ?_⟩; have n0_ := Aside0.mk (blk_below (g := gb323) (o := .cells #[.int .i64 a0_0, .slice A0_1 l0_1.length c0_1, .slice A0_2 l0_2.length c0_2] 26 (0, 0)) (by (with_reducible repeat (first | refine blk_drewN ?_ _ | refine blk_drew ?_ | refine blk_alloc ?_ _)); exact BK323.out) hb); have n1_ := Aside0.mk (below_step (by repeat (first | (with_reducible first | exact HB.out | apply below_alloc | apply pw_below_drewN | apply below_drew1 | refine below_set ?_ GE323.out) | exact HB.out)) hb); clear BK323; clear HB; have BK323 := n0_; have HB := n1_; clear n0_ n1_; (try clear hb); (try clear hb2); (try clear hk); (try clear hi); have hcz8_0 : w7.cell? ⟨gb323, 0, none⟩ = some (.int .i64 a0_0) := (blk_cell BK323.out 0).trans rfl; have hcz8_1 : w7.cell? ⟨gb323, 1, none⟩ = some (.slice A0_1 l0_1.length c0_1) := (blk_cell BK323.out 1).trans rfl; have hcz8_2 : w7.cell? ⟨gb323, 2, none⟩ = some (.slice A0_2 l0_2.length c0_2) := (blk_cell BK323.out 2).trans rfl; have hfz8_0 := blk_frozen BK323.out 0; have hfz8_1 := blk_frozen BK323.out 1; have hfz8_2 := blk_frozen BK323.out 2))
  go_loopg [6, 16] k (fun kq v6 v16 w' => ∃ (x6_1 : List Int) (x16_1 : Int), v16 = .int .i64 x16_1 ∧ Aside0 (cycles_Tensions.l0 kq l1 x6_1 l0_2 (l0_2.length : Int) x16_1 a0_0 l0_1 l0_2 = some (r1, r2)) ∧ Aside0 (kq ≤ k) ∧ Aside0 (Kd.R (Kd.int .i64) 3 w' w.heap.size (fun _ => True) v6 x6_1) ∧ Aside0 (w'.heap[gb323]? = some (.cells #[.int .i64 a0_0, (.slice A0_1 l0_1.length c0_1), (.slice A0_2 l0_2.length c0_2)] 26 (0, 0))) ∧ Aside0 (Below w.heap.size w w'))
  case atStart => exact ⟨(([] : List Int)), (0), (by first | rfl | (simp; done) | (simp [*]; done)), H', ⟨Nat.le_refl _⟩, ⟨by first | exact Kd.R_nil _ _ _ _ _ | exact Kd.N_nil _ _ _ _ _ | exact Kd.V_nil _ _ _ _ _ | exact Kd.Q_nil _ _ _ _ _ | exact Kd.S_nil _ _ _ _ _⟩, ⟨by (with_reducible repeat (first | refine blk_drewN ?_ _ | refine blk_drew ?_ | refine blk_alloc ?_ _)); exact BK323.out⟩, ⟨by repeat (first | (with_reducible first | exact HB.out | apply below_alloc | apply pw_below_drewN | apply below_drew1 | refine below_set ?_ GE323.out) | exact HB.out)⟩⟩
  case round =>
   clear H'
   try clear c1
   try clear p2
   try clear c4
   try clear hcz6_0
   try clear hcz6_1
   try clear hcz6_2
   try clear hcz8_0
   try clear hcz8_1
   try clear hcz8_2
   try clear hfz6_0
   try clear hfz6_1
   try clear hfz6_2
   try clear hfz8_0
   try clear hfz8_1
   try clear hfz8_2
   obtain ⟨x6_1, x16_1, rfl, HA, HK1, HO_6, BK323, HB⟩ := hrel
   cases gk with
   | zero => exact absurd HA.out (by simp [cycles_Tensions.l0])
   | succ k1 =>
    have H := HA.out
    clear HA
    simp only [cycles_Tensions.l0] at H
    by_cases c9 : x16_1 < (l0_2.length : Int)
    ·rw [if_pos c9] at H
     have c9b0 : decide (x16_1 < (l0_2.length : Int)) = true := decide_eq_true c9
     clear c9
     by_cases c10 : 0 ≤ x16_1
     ·rw [if_pos c10] at H
      have c10b0 : decide (0 ≤ x16_1) = true := decide_eq_true c10
      clear c10
      by_cases c11 : x16_1 < (l0_2.length : Int)
      ·rw [if_pos c11] at H
       have c11b0 : decide (x16_1 < (l0_2.length : Int)) = true := decide_eq_true c11
       clear c11
       by_cases c12 : 0 ≤ ((rd_T36 l0_2 x16_1).f1)
       ·rw [if_pos c12] at H
        have c12b0 : decide (0 ≤ ((rd_T36 l0_2 x16_1).f1)) = true := decide_eq_true c12
        clear c12
        by_cases c13 : ((rd_T36 l0_2 x16_1).f1) < (l1.length : Int)
        ·rw [if_pos c13] at H
         have c13b0 : decide (((rd_T36 l0_2 x16_1).f1) < (l1.length : Int)) = true := decide_eq_true c13
         clear c13
         by_cases c14 : 0 ≤ ((rd_T36 l0_2 x16_1).f2)
         ·rw [if_pos c14] at H
          have c14b0 : decide (0 ≤ ((rd_T36 l0_2 x16_1).f2)) = true := decide_eq_true c14
          clear c14
          by_cases c15 : ((rd_T36 l0_2 x16_1).f2) < (l1.length : Int)
          ·rw [if_pos c15] at H
           have c15b0 : decide (((rd_T36 l0_2 x16_1).f2) < (l1.length : Int)) = true := decide_eq_true c15
           clear c15
           replace H := Option.bind_eq_some_iff.mp H
           obtain ⟨t329, A160, H⟩ := H
           replace H : (if x6_1.length < 17592186044416 then (cycles_Tensions.l0 k1 l1 (x6_1 ++ [t329]) l0_2 (l0_2.length : Int) (wrap64 (x16_1 + 1)) a0_0 l0_1 l0_2) else (none)) = some (r1, r2) := H
           have A16 := Aside0.mk A160
           clear A160
           by_cases c17 : x6_1.length < 17592186044416
           ·rw [if_pos c17] at H
            have LMc17 := Aside0.mk c17
            clear c17
            obtain ⟨y330, hy330⟩ : ∃ y_ : List Int, y_ = (x6_1 ++ [t329]) := ⟨_, rfl⟩
            replace H : (cycles_Tensions.l0 k1 l1 y330 l0_2 (l0_2.length : Int) (wrap64 (x16_1 + 1)) a0_0 l0_1 l0_2) = some (r1, r2) := by first | (rw [hy330]; with_reducible exact H) | (have H2_ := (Option.bind_some _ _).symm.trans H; rw [hy330]; with_reducible exact H2_) | (have H2_ := (Option.bind_some _ _).symm.trans H; with_reducible exact H2_) | with_reducible exact H | (rw [hy330]; exact H) | exact H
            have Ny330 := Aside0.mk hy330
            clear hy330
            have H' := Aside0.mk H
            clear H
            have p325 : 0 ≤ (x16_1 : Int) := of_decide_eq_true (by first | (with_reducible assumption) | assumption)
            have q325 : x16_1 < (l0_2.length : Int) := of_decide_eq_true (by first | (with_reducible assumption) | assumption)
            obtain ⟨ad325, e325, hx325_0, hx325_1, hx325_2, hx325_3, hx325_4, hx325_5⟩ := at_T36 HR0_2.out x16_1 p325 q325
            cases e325
            replace hx325_0 := (HB.out.cell (World.block_lt_of_cell? w _ hx325_0)).trans hx325_0
            replace hx325_1 := (HB.out.cell (World.block_lt_of_cell? w _ hx325_1)).trans hx325_1
            replace hx325_2 := (HB.out.cell (World.block_lt_of_cell? w _ hx325_2)).trans hx325_2
            replace hx325_3 := (HB.out.cell (World.block_lt_of_cell? w _ hx325_3)).trans hx325_3
            replace hx325_4 := (HB.out.cell (World.block_lt_of_cell? w _ hx325_4)).trans hx325_4
            replace hx325_5 := (HB.out.cell (World.block_lt_of_cell? w _ hx325_5)).trans hx325_5
            replace p325 := eq_true p325
            replace q325 := eq_true q325
            try go_wp2_with (first | ((with_reducible refine gate_dst (N := 8) rfl ?_); refine box_event ?hg (N := 8) ?hd (cs := #[.int .i64 0, .int .i64 0, .int .i64 0, .int .i64 0, .int .i64 0, .int .i64 0]) (t := 36) ?hr ?_; (case hd => rfl); (case hg => rfl); (case hr => first | (go_simp; done) | (go_simp; rfl)); intro gb326 hg w18 hbox hb; have n0_ := Aside0.mk (Kd.R_below (by (with_reducible repeat (first | apply Kd.R_alloc | apply Kd.R_drewN | apply Kd.R_drew)); exact HO_6.out) hb); have n1_ := Aside0.mk (blk_below (g := gb323) (o := .cells #[.int .i64 a0_0, .slice A0_1 l0_1.length c0_1, .slice (some ad325) l0_2.length c0_2] 26 (0, 0)) (by (with_reducible repeat (first | refine blk_drewN ?_ _ | refine blk_drew ?_ | refine blk_alloc ?_ _)); exact BK323.out) hb); have n2_ := Aside0.mk (below_step (by repeat (first | (with_reducible first | exact HB.out | apply below_alloc | apply pw_below_drewN | apply below_drew1 | refine below_set ?_ GE323.out) | exact HB.out)) hb); have n3_ := Aside0.mk (hbox); have n4_ := Aside0.mk ((by rw [hg]; exact (below_size (by repeat (first | (with_reducible first | exact HB.out | apply below_alloc | apply pw_below_drewN | apply below_drew1 | refine below_set ?_ GE323.out) | exact HB.out))) : w.heap.size ≤ gb326)); have n5_ := Aside0.mk ((by rw [hg]; exact (below_size (by repeat (first | (with_reducible first | exact HB.out | apply below_alloc | apply pw_below_drewN | apply below_drew1 | refine below_set ?_ GE323.out) | exact HB.out))) : w.heap.size ≤ gb326)); have n6_ := Aside0.mk ((by rw [hg]; exact Nat.ne_of_lt (blk_lt (g := gb323) (o := .cells #[.int .i64 a0_0, .slice A0_1 l0_1.length c0_1, .slice (some ad325) l0_2.length c0_2] 26 (0, 0)) (by (with_reducible repeat (first | refine blk_drewN ?_ _ | refine blk_drew ?_ | refine blk_alloc ?_ _)); exact BK323.out)) : gb323 ≠ gb326)); have n7_ := Aside0.mk ((by rw [hg]; exact Nat.ne_of_gt (blk_lt (g := gb323) (o := .cells #[.int .i64 a0_0, .slice A0_1 l0_1.length c0_1, .slice (some ad325) l0_2.length c0_2] 26 (0, 0)) (by (with_reducible repeat (first | refine blk_drewN ?_ _ | refine blk_drew ?_ | refine blk_alloc ?_ _)); exact BK323.out)) : gb326 ≠ gb323)); clear HO_6; clear BK323; clear HB; have HO_6 := n0_; have BK323 := n1_; have HB := n2_; have BK326 := n3_; have GW326 := n4_; have GE326 := n5_; have NB323_326 := n6_; have NB326_323 := n7_; clear n0_ n1_ n2_ n3_ n4_ n5_ n6_ n7_; clear hb hbox hg; have hnb19 := NB326_323.out; have hnc19 := NB323_326.out; have hcz20_0 : w18.cell? ⟨gb326, 0, none⟩ = some (.int .i64 0) := (blk_cell BK326.out 0).trans rfl; have hcz20_1 : w18.cell? ⟨gb326, 1, none⟩ = some (.int .i64 0) := (blk_cell BK326.out 1).trans rfl; have hcz20_2 : w18.cell? ⟨gb326, 2, none⟩ = some (.int .i64 0) := (blk_cell BK326.out 2).trans rfl; have hcz20_3 : w18.cell? ⟨gb326, 3, none⟩ = some (.int .i64 0) := (blk_cell BK326.out 3).trans rfl; have hcz20_4 : w18.cell? ⟨gb326, 4, none⟩ = some (.int .i64 0) := (blk_cell BK326.out 4).trans rfl; have hcz20_5 : w18.cell? ⟨gb326, 5, none⟩ = some (.int .i64 0) := (blk_cell BK326.out 5).trans rfl; have hfz20_0 := blk_frozen BK326.out 0; have hfz20_1 := blk_frozen BK326.out 1; have hfz20_2 := blk_frozen BK326.out 2; have hfz20_3 := blk_frozen BK326.out 3; have hfz20_4 := blk_frozen BK326.out 4; have hfz20_5 := blk_frozen BK326.out 5))
            have n0_ : Aside0 (Kd.R (Kd.int .i64) 3 ((((((w18.setCell ⟨gb326, 0, none⟩ (.int .i64 ((rd_T36 l0_2 x16_1).f0))).setCell ⟨gb326, 1, none⟩ (.int .i64 ((rd_T36 l0_2 x16_1).f1))).setCell ⟨gb326, 2, none⟩ (.int .i64 ((rd_T36 l0_2 x16_1).f2))).setCell ⟨gb326, 3, none⟩ (.int .i64 ((rd_T36 l0_2 x16_1).f3))).setCell ⟨gb326, 4, none⟩ (.int .i64 ((rd_T36 l0_2 x16_1).f4))).setCell ⟨gb326, 5, none⟩ (.int .i64 ((rd_T36 l0_2 x16_1).f5))) w.heap.size (fun _ => True) u6 x6_1) := ⟨by (with_reducible repeat (first | apply Kd.R_alloc | apply Kd.R_drewN | apply Kd.R_drew)); exact Kd.R_mono (Kd.R_far (p := ⟨gb326, 5, none⟩) (Kd.R_far (p := ⟨gb326, 4, none⟩) (Kd.R_far (p := ⟨gb326, 3, none⟩) (Kd.R_far (p := ⟨gb326, 2, none⟩) (Kd.R_far (p := ⟨gb326, 1, none⟩) (Kd.R_far (p := ⟨gb326, 0, none⟩) (Kd.R_types HO_6.out BK326.out (by decide)) (fun _ hk => hk.2) (.int .i64 ((rd_T36 l0_2 x16_1).f0))) (fun _ hk => hk.2) (.int .i64 ((rd_T36 l0_2 x16_1).f1))) (fun _ hk => hk.2) (.int .i64 ((rd_T36 l0_2 x16_1).f2))) (fun _ hk => hk.2) (.int .i64 ((rd_T36 l0_2 x16_1).f3))) (fun _ hk => hk.2) (.int .i64 ((rd_T36 l0_2 x16_1).f4))) (fun _ hk => hk.2) (.int .i64 ((rd_T36 l0_2 x16_1).f5))) (fun _ hk => trivial)⟩
            have n1_ : Aside0 (((((((w18.setCell ⟨gb326, 0, none⟩ (.int .i64 ((rd_T36 l0_2 x16_1).f0))).setCell ⟨gb326, 1, none⟩ (.int .i64 ((rd_T36 l0_2 x16_1).f1))).setCell ⟨gb326, 2, none⟩ (.int .i64 ((rd_T36 l0_2 x16_1).f2))).setCell ⟨gb326, 3, none⟩ (.int .i64 ((rd_T36 l0_2 x16_1).f3))).setCell ⟨gb326, 4, none⟩ (.int .i64 ((rd_T36 l0_2 x16_1).f4))).setCell ⟨gb326, 5, none⟩ (.int .i64 ((rd_T36 l0_2 x16_1).f5))).heap[gb323]? = some (.cells #[.int .i64 a0_0, .slice A0_1 l0_1.length c0_1, .slice (some ad325) l0_2.length c0_2] 26 (0, 0))) := ⟨by (with_reducible repeat (first | refine blk_drewN ?_ _ | refine blk_drew ?_ | refine blk_alloc ?_ _)); refine blk_far ?_ NB323_326.out _; (with_reducible repeat (first | refine blk_drewN ?_ _ | refine blk_drew ?_ | refine blk_alloc ?_ _)); refine blk_far ?_ NB323_326.out _; (with_reducible repeat (first | refine blk_drewN ?_ _ | refine blk_drew ?_ | refine blk_alloc ?_ _)); refine blk_far ?_ NB323_326.out _; (with_reducible repeat (first | refine blk_drewN ?_ _ | refine blk_drew ?_ | refine blk_alloc ?_ _)); refine blk_far ?_ NB323_326.out _; (with_reducible repeat (first | refine blk_drewN ?_ _ | refine blk_drew ?_ | refine blk_alloc ?_ _)); refine blk_far ?_ NB323_326.out _; (with_reducible repeat (first | refine blk_drewN ?_ _ | refine blk_drew ?_ | refine blk_alloc ?_ _)); refine blk_far ?_ NB323_326.out _; (with_reducible repeat (first | refine blk_drewN ?_ _ | refine blk_drew ?_ | refine blk_alloc ?_ _)); exact BK323.out⟩
            have n2_ : Aside0 (((((((w18.setCell ⟨gb326, 0, none⟩ (.int .i64 ((rd_T36 l0_2 x16_1).f0))).setCell ⟨gb326, 1, none⟩ (.int .i64 ((rd_T36 l0_2 x16_1).f1))).setCell ⟨gb326, 2, none⟩ (.int .i64 ((rd_T36 l0_2 x16_1).f2))).setCell ⟨gb326, 3, none⟩ (.int .i64 ((rd_T36 l0_2 x16_1).f3))).setCell ⟨gb326, 4, none⟩ (.int .i64 ((rd_T36 l0_2 x16_1).f4))).setCell ⟨gb326, 5, none⟩ (.int .i64 ((rd_T36 l0_2 x16_1).f5))).heap[gb326]? = some (.cells #[.int .i64 ((rd_T36 l0_2 x16_1).f0), .int .i64 ((rd_T36 l0_2 x16_1).f1), .int .i64 ((rd_T36 l0_2 x16_1).f2), .int .i64 ((rd_T36 l0_2 x16_1).f3), .int .i64 ((rd_T36 l0_2 x16_1).f4), .int .i64 ((rd_T36 l0_2 x16_1).f5)] 36 (0, 0))) := ⟨by (with_reducible repeat (first | refine blk_drewN ?_ _ | refine blk_drew ?_ | refine blk_alloc ?_ _)); refine blk_put (cs := #[.int .i64 ((rd_T36 l0_2 x16_1).f0), .int .i64 ((rd_T36 l0_2 x16_1).f1), .int .i64 ((rd_T36 l0_2 x16_1).f2), .int .i64 ((rd_T36 l0_2 x16_1).f3), .int .i64 ((rd_T36 l0_2 x16_1).f4), .int .i64 0]) ?_ 5 _ rfl; (with_reducible repeat (first | refine blk_drewN ?_ _ | refine blk_drew ?_ | refine blk_alloc ?_ _)); refine blk_put (cs := #[.int .i64 ((rd_T36 l0_2 x16_1).f0), .int .i64 ((rd_T36 l0_2 x16_1).f1), .int .i64 ((rd_T36 l0_2 x16_1).f2), .int .i64 ((rd_T36 l0_2 x16_1).f3), .int .i64 0, .int .i64 0]) ?_ 4 _ rfl; (with_reducible repeat (first | refine blk_drewN ?_ _ | refine blk_drew ?_ | refine blk_alloc ?_ _)); refine blk_put (cs := #[.int .i64 ((rd_T36 l0_2 x16_1).f0), .int .i64 ((rd_T36 l0_2 x16_1).f1), .int .i64 ((rd_T36 l0_2 x16_1).f2), .int .i64 0, .int .i64 0, .int .i64 0]) ?_ 3 _ rfl; (with_reducible repeat (first | refine blk_drewN ?_ _ | refine blk_drew ?_ | refine blk_alloc ?_ _)); refine blk_put (cs := #[.int .i64 ((rd_T36 l0_2 x16_1).f0), .int .i64 ((rd_T36 l0_2 x16_1).f1), .int .i64 0, .int .i64 0, .int .i64 0, .int .i64 0]) ?_ 2 _ rfl; (with_reducible repeat (first | refine blk_drewN ?_ _ | refine blk_drew ?_ | refine blk_alloc ?_ _)); refine blk_put (cs := #[.int .i64 ((rd_T36 l0_2 x16_1).f0), .int .i64 0, .int .i64 0, .int .i64 0, .int .i64 0, .int .i64 0]) ?_ 1 _ rfl; (with_reducible repeat (first | refine blk_drewN ?_ _ | refine blk_drew ?_ | refine blk_alloc ?_ _)); refine blk_put (cs := #[.int .i64 0, .int .i64 0, .int .i64 0, .int .i64 0, .int .i64 0, .int .i64 0]) ?_ 0 _ rfl; (with_reducible repeat (first | refine blk_drewN ?_ _ | refine blk_drew ?_ | refine blk_alloc ?_ _)); exact BK326.out⟩
            have n3_ : Aside0 (Below w.heap.size w ((((((w18.setCell ⟨gb326, 0, none⟩ (.int .i64 ((rd_T36 l0_2 x16_1).f0))).setCell ⟨gb326, 1, none⟩ (.int .i64 ((rd_T36 l0_2 x16_1).f1))).setCell ⟨gb326, 2, none⟩ (.int .i64 ((rd_T36 l0_2 x16_1).f2))).setCell ⟨gb326, 3, none⟩ (.int .i64 ((rd_T36 l0_2 x16_1).f3))).setCell ⟨gb326, 4, none⟩ (.int .i64 ((rd_T36 l0_2 x16_1).f4))).setCell ⟨gb326, 5, none⟩ (.int .i64 ((rd_T36 l0_2 x16_1).f5)))) := ⟨by repeat (first | (with_reducible first | exact HB.out | apply below_alloc | apply pw_below_drewN | apply below_drew1 | refine below_set ?_ GE323.out | refine below_set ?_ GE326.out) | exact HB.out)⟩
            (try clear HO_6)
            (try clear BK323)
            (try clear BK326)
            (try clear HB)
            generalize ((((((w18.setCell ⟨gb326, 0, none⟩ (.int .i64 ((rd_T36 l0_2 x16_1).f0))).setCell ⟨gb326, 1, none⟩ (.int .i64 ((rd_T36 l0_2 x16_1).f1))).setCell ⟨gb326, 2, none⟩ (.int .i64 ((rd_T36 l0_2 x16_1).f2))).setCell ⟨gb326, 3, none⟩ (.int .i64 ((rd_T36 l0_2 x16_1).f3))).setCell ⟨gb326, 4, none⟩ (.int .i64 ((rd_T36 l0_2 x16_1).f4))).setCell ⟨gb326, 5, none⟩ (.int .i64 ((rd_T36 l0_2 x16_1).f5))) = w21 at n0_ n1_ n2_ n3_ ⊢
            have HO_6 := n0_
            have BK323 := n1_
            have BK326 := n2_
            have HB := n3_
            clear n0_ n1_ n2_ n3_
            have n0_ := Aside0.mk (Kd.R_drew HO_6.out)
            have n1_ := Aside0.mk (blk_drew BK323.out)
            have n2_ := Aside0.mk (blk_drew BK326.out)
            have n3_ := Aside0.mk (below_drew1 HB.out)
            clear HO_6
            clear BK323
            clear BK326
            clear HB
            have HO_6 := n0_
            have BK323 := n1_
            have BK326 := n2_
            have HB := n3_
            clear n0_ n1_ n2_ n3_
            have p327 : 0 ≤ (((rd_T36 l0_2 x16_1).f1) : Int) := of_decide_eq_true (by first | (with_reducible assumption) | assumption)
            have q327 : ((rd_T36 l0_2 x16_1).f1) < (l1.length : Int) := of_decide_eq_true (by first | (with_reducible assumption) | assumption)
            obtain ⟨ad327, e327, hx327_0⟩ := Kd.at_int HR1.out ((rd_T36 l0_2 x16_1).f1) p327 q327
            have hw327_0 := hx327_0
            cases e327
            replace hx327_0 := (HB.out.cell (World.block_lt_of_cell? w _ hx327_0)).trans hx327_0
            replace p327 := eq_true p327
            replace q327 := eq_true q327
            have p328 : 0 ≤ (((rd_T36 l0_2 x16_1).f2) : Int) := of_decide_eq_true (by first | (with_reducible assumption) | assumption)
            have q328 : ((rd_T36 l0_2 x16_1).f2) < (l1.length : Int) := of_decide_eq_true (by first | (with_reducible assumption) | assumption)
            obtain ⟨ad328, e328, hx328_0⟩ := Kd.at_int HR1.out ((rd_T36 l0_2 x16_1).f2) p328 q328
            have hw328_0 := hx328_0
            obtain rfl : ad327 = ad328 := (by injection e328)
            replace hx328_0 := (HB.out.cell (World.block_lt_of_cell? w _ hx328_0)).trans hx328_0
            replace p328 := eq_true p328
            replace q328 := eq_true q328
            refine start_ (n := 18) (S := fun w' => w'.cell? ⟨gb323, 0, none⟩ = some (.int .i64 a0_0) ∧ w'.cell? ⟨gb323, 1, none⟩ = some (.slice A0_1 l0_1.length c0_1) ∧ w'.cell? ⟨gb323, 2, none⟩ = some (.slice (some ad325) l0_2.length c0_2) ∧ w'.cell? ⟨gb326, 0, none⟩ = some (.int .i64 ((rd_T36 l0_2 x16_1).f0)) ∧ w'.cell? ⟨gb326, 1, none⟩ = some (.int .i64 ((rd_T36 l0_2 x16_1).f1)) ∧ w'.cell? ⟨gb326, 2, none⟩ = some (.int .i64 ((rd_T36 l0_2 x16_1).f2)) ∧ w'.cell? ⟨gb326, 3, none⟩ = some (.int .i64 ((rd_T36 l0_2 x16_1).f3)) ∧ w'.cell? ⟨gb326, 4, none⟩ = some (.int .i64 ((rd_T36 l0_2 x16_1).f4)) ∧ w'.cell? ⟨gb326, 5, none⟩ = some (.int .i64 ((rd_T36 l0_2 x16_1).f5)) ∧ w'.cell? (ad327.add (((rd_T36 l0_2 x16_1).f1)).toNat) = some (.int .i64 (rd l1 ((rd_T36 l0_2 x16_1).f1))) ∧ w'.cell? (ad327.add (((rd_T36 l0_2 x16_1).f2)).toNat) = some (.int .i64 (rd l1 ((rd_T36 l0_2 x16_1).f2)))) (ds := []) #[false, false, false, false, false, false, false, false, false, false, false, false, false, false, false, false, false, false] (by kernel_rfl) rfl rfl ⟨(blk_cell BK323.out 0).trans rfl, (blk_cell BK323.out 1).trans rfl, (blk_cell BK323.out 2).trans rfl, (blk_cell BK326.out 0).trans rfl, (blk_cell BK326.out 1).trans rfl, (blk_cell BK326.out 2).trans rfl, (blk_cell BK326.out 3).trans rfl, (blk_cell BK326.out 4).trans rfl, (blk_cell BK326.out 5).trans rfl, ((HB.out.cell (World.block_lt_of_cell? w _ hw327_0)).trans hw327_0), ((HB.out.cell (World.block_lt_of_cell? w _ hw328_0)).trans hw328_0)⟩ (fun hHeld => ?_); refine with_tabW cycles_Tensions.tab7 cycles_Tensions.bits7 (fun HT_ HW_ => ?_)
            generalize w21.drew = w22 at HO_6 BK323 BK326 HB hx327_0 hx328_0 hHeld ⊢
            refine pure_ (i := 0) (N := some 20) (v := ?_) (a' := ?_) #[true, false, false, false, false, false, false, false, false, false, false, false, false, false, false, false, false, false] rfl rfl (any_of HT_.out (by kernel_rfl)) (fun _ _ _ h => h) (Or.inl ⟨by rfl, ?_⟩) ?_ ?_
            rotate_left
            ·intro w'
             go_simp
             first | with_reducible rfl | (rw [if_neg (by simp only [ByteArray.size_append, ByteArray.size_extract, decide_eq_true_eq, eq_iff_iff, iff_true] at *; omega)]; try with_reducible rfl)
            rotate_left
            ·simp only [Act.put, List.setIfInBounds_toArray, List.set_cons_zero, List.set_cons_succ, i64_w, i32_w]
             rfl
            refine pure_ (i := 1) (N := some 21) (v := ?_) (a' := ?_) #[true, true, false, false, false, false, false, false, false, false, false, false, false, false, false, false, false, false] rfl rfl (any_of HT_.out (by kernel_rfl)) (fun _ _ _ h => h) (Or.inl ⟨by rfl, ?_⟩) ?_ ?_
            rotate_left
            ·intro w'
             go_simp
             first | with_reducible rfl | (rw [if_neg (by simp only [ByteArray.size_append, ByteArray.size_extract, decide_eq_true_eq, eq_iff_iff, iff_true] at *; omega)]; try with_reducible rfl)
            rotate_left
            ·simp only [Act.put, List.setIfInBounds_toArray, List.set_cons_zero, List.set_cons_succ, i64_w, i32_w]
             rfl
            refine pure_ (i := 4) (N := some 24) (v := ?_) (a' := ?_) #[true, true, false, false, true, false, false, false, false, false, false, false, false, false, false, false, false, false] rfl rfl (any_of HT_.out (by kernel_rfl)) (fun _ _ _ h => h) (Or.inl ⟨by rfl, ?_⟩) ?_ ?_
            rotate_left
            ·intro w'
             go_simp
             first | with_reducible rfl | (rw [if_neg (by simp only [ByteArray.size_append, ByteArray.size_extract, decide_eq_true_eq, eq_iff_iff, iff_true] at *; omega)]; try with_reducible rfl)
            rotate_left
            ·simp only [Act.put, List.setIfInBounds_toArray, List.set_cons_zero, List.set_cons_succ, i64_w, i32_w]
             rfl
            refine pure_ (i := 5) (N := some 25) (v := ?_) (a' := ?_) #[true, true, false, false, true, true, false, false, false, false, false, false, false, false, false, false, false, false] rfl rfl (any_of HT_.out (by kernel_rfl)) (fun _ _ _ h => h) (Or.inl ⟨by rfl, ?_⟩) ?_ ?_
            rotate_left
            ·intro w'
             go_simp
             first | with_reducible rfl | (rw [if_neg (by simp only [ByteArray.size_append, ByteArray.size_extract, decide_eq_true_eq, eq_iff_iff, iff_true] at *; omega)]; try with_reducible rfl)
            rotate_left
            ·simp only [Act.put, List.setIfInBounds_toArray, List.set_cons_zero, List.set_cons_succ, i64_w, i32_w]
             rfl
            refine pure_ (i := 9) (N := some 29) (v := ?_) (a' := ?_) #[true, true, false, false, true, true, false, false, false, true, false, false, false, false, false, false, false, false] rfl rfl (any_of HT_.out (by kernel_rfl)) (fun _ _ _ h => h) (Or.inl ⟨by rfl, ?_⟩) ?_ ?_
            rotate_left
            ·intro w'
             go_simp
             first | with_reducible rfl | (rw [if_neg (by simp only [ByteArray.size_append, ByteArray.size_extract, decide_eq_true_eq, eq_iff_iff, iff_true] at *; omega)]; try with_reducible rfl)
            rotate_left
            ·simp only [Act.put, List.setIfInBounds_toArray, List.set_cons_zero, List.set_cons_succ, i64_w, i32_w]
             rfl
            refine pure_ (i := 10) (N := some 30) (v := ?_) (a' := ?_) #[true, true, false, false, true, true, false, false, false, true, true, false, false, false, false, false, false, false] rfl rfl (any_of HT_.out (by kernel_rfl)) (fun _ _ _ h => h) (Or.inl ⟨by rfl, ?_⟩) ?_ ?_
            rotate_left
            ·intro w'
             go_simp
             first | with_reducible rfl | (rw [if_neg (by simp only [ByteArray.size_append, ByteArray.size_extract, decide_eq_true_eq, eq_iff_iff, iff_true] at *; omega)]; try with_reducible rfl)
            rotate_left
            ·simp only [Act.put, List.setIfInBounds_toArray, List.set_cons_zero, List.set_cons_succ, i64_w, i32_w]
             rfl
            refine take_ (i := 2) (N := some 22) (v := ?_) (a' := ?_) #[true, true, true, false, true, true, false, false, false, true, true, false, false, false, false, false, false, false] rfl rfl (take_ofW HT_.out HW_.out (by kernel_rfl)) (fun _ _ _ h => h) (Or.inl ⟨by rfl, ?_⟩) hHeld ?_ ?_
            rotate_left
            ·rintro w' ⟨s0, s1, s2, s3, s4, s5, s6, s7, s8, s9, s10⟩
             go_simp
             first | with_reducible rfl | (rw [if_neg (by simp only [ByteArray.size_append, ByteArray.size_extract, decide_eq_true_eq, eq_iff_iff, iff_true] at *; omega)]; try with_reducible rfl)
            rotate_left
            ·simp only [Act.put, List.setIfInBounds_toArray, List.set_cons_zero, List.set_cons_succ, i64_w, i32_w]
             rfl
            refine take_ (i := 3) (N := some 23) (v := ?_) (a' := ?_) #[true, true, true, true, true, true, false, false, false, true, true, false, false, false, false, false, false, false] rfl rfl (take_ofW HT_.out HW_.out (by kernel_rfl)) (fun _ _ _ h => h) (Or.inl ⟨by rfl, ?_⟩) hHeld ?_ ?_
            rotate_left
            ·rintro w' ⟨s0, s1, s2, s3, s4, s5, s6, s7, s8, s9, s10⟩
             go_simp
             first | with_reducible rfl | (rw [if_neg (by simp only [ByteArray.size_append, ByteArray.size_extract, decide_eq_true_eq, eq_iff_iff, iff_true] at *; omega)]; try with_reducible rfl)
            rotate_left
            ·simp only [Act.put, List.setIfInBounds_toArray, List.set_cons_zero, List.set_cons_succ, i64_w, i32_w]
             rfl
            refine take_ (i := 6) (N := some 26) (v := ?_) (a' := ?_) #[true, true, true, true, true, true, true, false, false, true, true, false, false, false, false, false, false, false] rfl rfl (take_ofW HT_.out HW_.out (by kernel_rfl)) (fun _ _ _ h => h) (Or.inl ⟨by rfl, ?_⟩) hHeld ?_ ?_
            rotate_left
            ·rintro w' ⟨s0, s1, s2, s3, s4, s5, s6, s7, s8, s9, s10⟩
             go_simp
             first | with_reducible rfl | (rw [if_neg (by simp only [ByteArray.size_append, ByteArray.size_extract, decide_eq_true_eq, eq_iff_iff, iff_true] at *; omega)]; try with_reducible rfl)
            rotate_left
            ·simp only [Act.put, List.setIfInBounds_toArray, List.set_cons_zero, List.set_cons_succ, i64_w, i32_w]
             rfl
            refine pure_ (i := 7) (N := some 27) (v := ?_) (a' := ?_) #[true, true, true, true, true, true, true, true, false, true, true, false, false, false, false, false, false, false] rfl rfl (any_of HT_.out (by kernel_rfl)) (fun _ _ _ h => h) (Or.inl ⟨by rfl, ?_⟩) ?_ ?_
            rotate_left
            ·intro w'
             go_simp
             first | with_reducible rfl | (rw [if_neg (by simp only [ByteArray.size_append, ByteArray.size_extract, decide_eq_true_eq, eq_iff_iff, iff_true] at *; omega)]; try with_reducible rfl)
            rotate_left
            ·simp only [Act.put, List.setIfInBounds_toArray, List.set_cons_zero, List.set_cons_succ, i64_w, i32_w]
             rfl
            refine take_ (i := 8) (N := some 28) (v := ?_) (a' := ?_) #[true, true, true, true, true, true, true, true, true, true, true, false, false, false, false, false, false, false] rfl rfl (take_ofW HT_.out HW_.out (by kernel_rfl)) (fun _ _ _ h => h) (Or.inl ⟨by rfl, ?_⟩) hHeld ?_ ?_
            rotate_left
            ·rintro w' ⟨s0, s1, s2, s3, s4, s5, s6, s7, s8, s9, s10⟩
             go_simp
             first | with_reducible rfl | (rw [if_neg (by simp only [ByteArray.size_append, ByteArray.size_extract, decide_eq_true_eq, eq_iff_iff, iff_true] at *; omega)]; try with_reducible rfl)
            rotate_left
            ·simp only [Act.put, List.setIfInBounds_toArray, List.set_cons_zero, List.set_cons_succ, i64_w, i32_w]
             rfl
            refine take_ (i := 11) (N := some 31) (v := ?_) (a' := ?_) #[true, true, true, true, true, true, true, true, true, true, true, true, false, false, false, false, false, false] rfl rfl (take_ofW HT_.out HW_.out (by kernel_rfl)) (fun _ _ _ h => h) (Or.inl ⟨by rfl, ?_⟩) hHeld ?_ ?_
            rotate_left
            ·rintro w' ⟨s0, s1, s2, s3, s4, s5, s6, s7, s8, s9, s10⟩
             go_simp
             first | with_reducible rfl | (rw [if_neg (by simp only [ByteArray.size_append, ByteArray.size_extract, decide_eq_true_eq, eq_iff_iff, iff_true] at *; omega)]; try with_reducible rfl)
            rotate_left
            ·simp only [Act.put, List.setIfInBounds_toArray, List.set_cons_zero, List.set_cons_succ, i64_w, i32_w]
             rfl
            refine pure_ (i := 12) (N := some 32) (v := ?_) (a' := ?_) #[true, true, true, true, true, true, true, true, true, true, true, true, true, false, false, false, false, false] rfl rfl (any_of HT_.out (by kernel_rfl)) (fun _ _ _ h => h) (Or.inl ⟨by rfl, ?_⟩) ?_ ?_
            rotate_left
            ·intro w'
             go_simp
             first | with_reducible rfl | (rw [if_neg (by simp only [ByteArray.size_append, ByteArray.size_extract, decide_eq_true_eq, eq_iff_iff, iff_true] at *; omega)]; try with_reducible rfl)
            rotate_left
            ·simp only [Act.put, List.setIfInBounds_toArray, List.set_cons_zero, List.set_cons_succ, i64_w, i32_w]
             rfl
            refine take_ (i := 13) (N := some 33) (v := ?_) (a' := ?_) #[true, true, true, true, true, true, true, true, true, true, true, true, true, true, false, false, false, false] rfl rfl (take_ofW HT_.out HW_.out (by kernel_rfl)) (fun _ _ _ h => h) (Or.inl ⟨by rfl, ?_⟩) hHeld ?_ ?_
            rotate_left
            ·rintro w' ⟨s0, s1, s2, s3, s4, s5, s6, s7, s8, s9, s10⟩
             go_simp
             first | with_reducible rfl | (rw [if_neg (by simp only [ByteArray.size_append, ByteArray.size_extract, decide_eq_true_eq, eq_iff_iff, iff_true] at *; omega)]; try with_reducible rfl)
            rotate_left
            ·simp only [Act.put, List.setIfInBounds_toArray, List.set_cons_zero, List.set_cons_succ, i64_w, i32_w]
             rfl
            refine one_ (i := 14) (N := some 34) #[true, true, true, true, true, true, true, true, true, true, true, true, true, true, true, false, false, false] rfl rfl (one_of HT_.out (by kernel_rfl)) (by decide) (fun K hK => ?_)
            refine goes_ Try.func94 (by kernel_rfl) rfl #[.int .i64 a0_0, .agg #[.int .i64 ((rd_T36 l0_2 x16_1).f0), .int .i64 ((rd_T36 l0_2 x16_1).f1), .int .i64 ((rd_T36 l0_2 x16_1).f2), .int .i64 ((rd_T36 l0_2 x16_1).f3), .int .i64 ((rd_T36 l0_2 x16_1).f4), .int .i64 ((rd_T36 l0_2 x16_1).f5)], .int .i64 (rd l1 ((rd_T36 l0_2 x16_1).f1)), .int .i64 (rd l1 ((rd_T36 l0_2 x16_1).f2))] (by rfl) rfl rfl (by (try simp only [List.map_toArray, List.map_cons, List.map_nil]); first | done | rfl | (simp only [List.length_drop, List.length_take]; rfl)) ?_
            with_reducible refine (network_Lasts.calls a0_0 ((rd_T36 l0_2 x16_1).f0) ((rd_T36 l0_2 x16_1).f1) ((rd_T36 l0_2 x16_1).f2) ((rd_T36 l0_2 x16_1).f3) ((rd_T36 l0_2 x16_1).f4) ((rd_T36 l0_2 x16_1).f5) (rd l1 ((rd_T36 l0_2 x16_1).f1)) (rd l1 ((rd_T36 l0_2 x16_1).f2)) t329 _ A16.out).mono ?_
            rintro e w23 ⟨rfl, hb⟩
            refine ⟨_, rfl, ?_⟩
            have n0_ := Aside0.mk (Kd.R_below (by (with_reducible repeat (first | apply Kd.R_alloc | apply Kd.R_drewN | apply Kd.R_drew)); exact HO_6.out) hb)
            have n1_ := Aside0.mk (blk_below (g := gb323) (o := .cells #[.int .i64 a0_0, .slice A0_1 l0_1.length c0_1, .slice (some ad325) l0_2.length c0_2] 26 (0, 0)) (by (with_reducible repeat (first | refine blk_drewN ?_ _ | refine blk_drew ?_ | refine blk_alloc ?_ _)); exact BK323.out) hb)
            have n2_ := Aside0.mk (blk_below (g := gb326) (o := .cells #[.int .i64 ((rd_T36 l0_2 x16_1).f0), .int .i64 ((rd_T36 l0_2 x16_1).f1), .int .i64 ((rd_T36 l0_2 x16_1).f2), .int .i64 ((rd_T36 l0_2 x16_1).f3), .int .i64 ((rd_T36 l0_2 x16_1).f4), .int .i64 ((rd_T36 l0_2 x16_1).f5)] 36 (0, 0)) (by (with_reducible repeat (first | refine blk_drewN ?_ _ | refine blk_drew ?_ | refine blk_alloc ?_ _)); exact BK326.out) hb)
            have n3_ := Aside0.mk (below_step (by repeat (first | (with_reducible first | exact HB.out | apply below_alloc | apply pw_below_drewN | apply below_drew1 | refine below_set ?_ GE323.out | refine below_set ?_ GE326.out) | exact HB.out)) hb)
            clear HO_6
            clear BK323
            clear BK326
            clear HB
            have HO_6 := n0_
            have BK323 := n1_
            have BK326 := n2_
            have HB := n3_
            clear n0_ n1_ n2_ n3_
            (try clear hb)
            (try clear hb2)
            (try clear hk)
            (try clear hi)
            refine hK.out _ _ ⟨(blk_cell BK323.out 0).trans rfl, (blk_cell BK323.out 1).trans rfl, (blk_cell BK323.out 2).trans rfl, (blk_cell BK326.out 0).trans rfl, (blk_cell BK326.out 1).trans rfl, (blk_cell BK326.out 2).trans rfl, (blk_cell BK326.out 3).trans rfl, (blk_cell BK326.out 4).trans rfl, (blk_cell BK326.out 5).trans rfl, ((HB.out.cell (World.block_lt_of_cell? w _ hw327_0)).trans hw327_0), ((HB.out.cell (World.block_lt_of_cell? w _ hw328_0)).trans hw328_0)⟩ (fun hHeld => ?_)
            clear hK K
            refine norm_ (a' := ?_) ?_ ?_
            rotate_left
            ·show Act.put _ (some 34) _ = _
             simp only [Act.put, List.setIfInBounds_toArray, List.set_cons_zero, List.set_cons_succ, i64_w, i32_w]
             rfl
            refine one_ (i := 15) (N := some 35) #[true, true, true, true, true, true, true, true, true, true, true, true, true, true, true, true, false, false] rfl rfl (one_of HT_.out (by kernel_rfl)) (by decide) (fun K hK => ?_)
            refine value_ (w1 := ?_) (v := ?_) (by rfl) rfl ?_ ?_
            rotate_left 2
            ·go_simp
             constructor
             ·rfl
             ·rfl
            refine hK.out _ _ ⟨(blk_cell (blk_alloc BK323.out _) 0).trans rfl, (blk_cell (blk_alloc BK323.out _) 1).trans rfl, (blk_cell (blk_alloc BK323.out _) 2).trans rfl, (blk_cell (blk_alloc BK326.out _) 0).trans rfl, (blk_cell (blk_alloc BK326.out _) 1).trans rfl, (blk_cell (blk_alloc BK326.out _) 2).trans rfl, (blk_cell (blk_alloc BK326.out _) 3).trans rfl, (blk_cell (blk_alloc BK326.out _) 4).trans rfl, (blk_cell (blk_alloc BK326.out _) 5).trans rfl, (World.cell?_alloc_lt _ _ _ (World.block_lt_of_cell? _ _ (((HB.out.cell (World.block_lt_of_cell? w _ hw327_0)).trans hw327_0)))).trans (((HB.out.cell (World.block_lt_of_cell? w _ hw327_0)).trans hw327_0)), (World.cell?_alloc_lt _ _ _ (World.block_lt_of_cell? _ _ (((HB.out.cell (World.block_lt_of_cell? w _ hw328_0)).trans hw328_0)))).trans (((HB.out.cell (World.block_lt_of_cell? w _ hw328_0)).trans hw328_0))⟩ (fun hHeld => ?_)
            clear hK K
            refine norm_ (a' := ?_) ?_ ?_
            rotate_left
            ·show Act.put _ (some 35) _ = _
             simp only [Act.put, List.setIfInBounds_toArray, List.set_cons_zero, List.set_cons_succ, i64_w, i32_w]
             rfl
            refine one_ (i := 16) (N := some 36) #[true, true, true, true, true, true, true, true, true, true, true, true, true, true, true, true, true, false] rfl rfl (one_of HT_.out (by kernel_rfl)) (by decide) (fun K hK => ?_)
            refine Kd.R_append_step (Kd.int .i64) (w0 := w) w.heap.size (by rfl) (.tmp 20) (.tmp 35) 22 3 (.int .i64 0) 8 rfl Try.underlying22 info3 rfl (by decide) (by omega) u6 x6_1 t329 [.int .i64 t329] (fun _ => True) (fun _ => False) rfl rfl ?aP (fun _ hk => hk.elim) ?aF ?aO ?aB ?aS ?aL ?_
            (case aP => exact rfl)
            (case aB => exact (by repeat (first | (with_reducible first | exact HB.out | apply below_alloc | apply pw_below_drewN | apply below_drew1 | refine below_set ?_ GE323.out | refine below_set ?_ GE326.out) | exact HB.out)))
            (case aF => exact (fun _ _ => trivial))
            (case aO => exact (by (with_reducible repeat (first | apply Kd.R_alloc | apply Kd.R_drewN | apply Kd.R_drew)); exact HO_6.out))
            (case aS => exact (below_size (by repeat (first | (with_reducible first | exact HB.out | apply below_alloc | apply pw_below_drewN | apply below_drew1 | refine below_set ?_ GE323.out | refine below_set ?_ GE326.out) | exact HB.out))))
            (case aL => have := LMc17.out; omega)
            intro v331 w24 ho hb hg hat
            rw [← Ny330.out] at ho
            have n0_ := Aside0.mk (blk_grown (g := gb323) (o := .cells #[.int .i64 a0_0, .slice A0_1 l0_1.length c0_1, .slice (some ad325) l0_2.length c0_2] 26 (0, 0)) (by (with_reducible repeat (first | refine blk_drewN ?_ _ | refine blk_drew ?_ | refine blk_alloc ?_ _)); exact BK323.out) hg (Kd.R_ne HO_6.out BK323.out (by decide)))
            have n1_ := Aside0.mk (blk_grown (g := gb326) (o := .cells #[.int .i64 ((rd_T36 l0_2 x16_1).f0), .int .i64 ((rd_T36 l0_2 x16_1).f1), .int .i64 ((rd_T36 l0_2 x16_1).f2), .int .i64 ((rd_T36 l0_2 x16_1).f3), .int .i64 ((rd_T36 l0_2 x16_1).f4), .int .i64 ((rd_T36 l0_2 x16_1).f5)] 36 (0, 0)) (by (with_reducible repeat (first | refine blk_drewN ?_ _ | refine blk_drew ?_ | refine blk_alloc ?_ _)); exact BK326.out) hg (Kd.R_ne HO_6.out BK326.out (by decide)))
            have n2_ := Aside0.mk (hb)
            have n3_ := Aside0.mk (ho)
            clear BK323
            clear BK326
            clear HB
            clear HO_6
            have BK323 := n0_
            have BK326 := n1_
            have HB := n2_
            have HO332 := n3_
            clear n0_ n1_ n2_ n3_
            clear ho hb hg hat
            refine hK.out _ _ ⟨(blk_cell BK323.out 0).trans rfl, (blk_cell BK323.out 1).trans rfl, (blk_cell BK323.out 2).trans rfl, (blk_cell BK326.out 0).trans rfl, (blk_cell BK326.out 1).trans rfl, (blk_cell BK326.out 2).trans rfl, (blk_cell BK326.out 3).trans rfl, (blk_cell BK326.out 4).trans rfl, (blk_cell BK326.out 5).trans rfl, ((HB.out.cell (World.block_lt_of_cell? w _ hw327_0)).trans hw327_0), ((HB.out.cell (World.block_lt_of_cell? w _ hw328_0)).trans hw328_0)⟩ (fun hHeld => ?_)
            clear hK K
            refine norm_ (a' := ?_) ?_ ?_
            rotate_left
            ·show Act.put _ (some 36) _ = _
             simp only [Act.put, List.setIfInBounds_toArray, List.set_cons_zero, List.set_cons_succ, i64_w, i32_w]
             rfl
            refine pure_ (i := 17) (N := some 6) (v := ?_) (a' := ?_) #[true, true, true, true, true, true, true, true, true, true, true, true, true, true, true, true, true, true] rfl rfl (any_of HT_.out (by kernel_rfl)) (fun _ _ _ h => h) (Or.inl ⟨by rfl, ?_⟩) ?_ ?_
            rotate_left
            ·intro w'
             go_simp
             first | with_reducible rfl | (rw [if_neg (by simp only [ByteArray.size_append, ByteArray.size_extract, decide_eq_true_eq, eq_iff_iff, iff_true] at *; omega)]; try with_reducible rfl)
            rotate_left
            ·simp only [Act.put, List.setIfInBounds_toArray, List.set_cons_zero, List.set_cons_succ, i64_w, i32_w]
             rfl
            refine done_ (done_of HT_.out (by kernel_rfl)) ?_
            try go_wp2
            go_roundg k1
            case measure => have := HK1.out; omega
            case rel => exact ⟨(y330), (wrap64 (x16_1 + 1)), (by first | rfl | (simp; done) | (simp [*]; done)), H', ⟨by have := HK1.out; omega⟩, ⟨by (with_reducible repeat (first | apply Kd.R_alloc | apply Kd.R_drewN | apply Kd.R_drew)); exact HO332.out⟩, ⟨by (with_reducible repeat (first | refine blk_drewN ?_ _ | refine blk_drew ?_ | refine blk_alloc ?_ _)); exact BK323.out⟩, ⟨by repeat (first | (with_reducible first | exact HB.out | apply below_alloc | apply pw_below_drewN | apply below_drew1 | refine below_set ?_ GE323.out | refine below_set ?_ GE326.out) | exact HB.out)⟩⟩
           ·rw [if_neg c17] at H
            exact absurd H (by simp)
          ·rw [if_neg c15] at H
           exact absurd H (by simp)
         ·rw [if_neg c14] at H
          exact absurd H (by simp)
        ·rw [if_neg c13] at H
         exact absurd H (by simp)
       ·rw [if_neg c12] at H
        exact absurd H (by simp)
      ·rw [if_neg c11] at H
       exact absurd H (by simp)
     ·rw [if_neg c10] at H
      exact absurd H (by simp)
    ·rw [if_neg c9] at H
     have c9b0 : decide (x16_1 < (l0_2.length : Int)) = false := decide_eq_false c9
     clear c9
     simp only [Option.some.injEq, Prod.mk.injEq] at H
     obtain ⟨rfl, rfl⟩ := H
     go_wp2
     go_ret2
     exact ⟨_, by first | rfl | (simp [errW_none, errW_some] <;> rfl) | (simp [*, errW_none, errW_some] <;> rfl), by (with_reducible repeat (first | apply Kd.R_alloc | apply Kd.R_drewN | apply Kd.R_drew)); exact HO_6.out, by repeat (first | (with_reducible first | exact HB.out | apply below_alloc | apply pw_below_drewN | apply below_drew1 | refine below_set ?_ GE323.out) | exact HB.out)⟩
 ·replace c4 := Bool.eq_false_iff.mpr c4
  subst c4
  have H1 : (some (([] : List Int), 1)) = some (r1, r2) := by rw [if_neg (show ¬ (false = true) by decide)] at H; exact H
  clear H
  have H := H1
  clear H1
  simp only [Option.some.injEq, Prod.mk.injEq] at H
  obtain ⟨rfl, rfl⟩ := H
  go_enter Try.func42, Try.ntmps42
  go_wp2_with (first | ((with_reducible refine gate_dst (N := 2) rfl ?_); refine box_event ?hg (N := 2) ?hd (cs := #[.int .i64 a0_0, .slice A0_1 l0_1.length c0_1, .slice A0_2 l0_2.length c0_2]) (t := 26) ?hr ?_; (case hd => rfl); (case hg => rfl); (case hr => first | (go_simp; done) | (go_simp; rfl)); intro gb323 hg w25 hbox hb; have n0_ := Aside0.mk (below_step (by repeat (first | (with_reducible first | exact HB.out | apply below_alloc | apply pw_below_drewN | apply below_drew1) | exact HB.out)) hb); have n1_ := Aside0.mk (hbox); have n2_ := Aside0.mk ((by rw [hg]; exact (below_size (by repeat (first | (with_reducible first | exact HB.out | apply below_alloc | apply pw_below_drewN | apply below_drew1) | exact HB.out))) : w.heap.size ≤ gb323)); have n3_ := Aside0.mk ((by rw [hg]; exact (below_size (by repeat (first | (with_reducible first | exact HB.out | apply below_alloc | apply pw_below_drewN | apply below_drew1) | exact HB.out))) : w.heap.size ≤ gb323)); clear HB; have HB := n0_; have BK323 := n1_; have GW323 := n2_; have GE323 := n3_; clear n0_ n1_ n2_ n3_; clear hb hbox hg; have hcz26_0 : w25.cell? ⟨gb323, 0, none⟩ = some (.int .i64 a0_0) := (blk_cell BK323.out 0).trans rfl; have hcz26_1 : w25.cell? ⟨gb323, 1, none⟩ = some (.slice A0_1 l0_1.length c0_1) := (blk_cell BK323.out 1).trans rfl; have hcz26_2 : w25.cell? ⟨gb323, 2, none⟩ = some (.slice A0_2 l0_2.length c0_2) := (blk_cell BK323.out 2).trans rfl; have hfz26_0 := blk_frozen BK323.out 0; have hfz26_1 := blk_frozen BK323.out 1; have hfz26_2 := blk_frozen BK323.out 2) | ((with_reducible refine gate_callee (f := 93) rfl ?_); refine goesL_ (some 11) rfl rfl Try.func93 (by kernel_rfl) rfl #[.agg #[.int .i64 a0_0, .slice A0_1 l0_1.length c0_1, .slice A0_2 l0_2.length c0_2], .slice A1 l1.length c1] rfl (by (try simp only [List.map_toArray, List.map_cons, List.map_nil]); first | done | rfl | (simp only [List.length_drop, List.length_take]; rfl)) ?_; (with_reducible refine (network_Good.calls a0_0 _ _ l0_1 _ _ l0_2 _ _ l1 false _ ?side1 ?side2 ?side3 ?side4 ?side5 ?side6 A3.out).mono ?_); (case side1 => repeat (first | exact (Kd.C_below HR0_1.out HB.out) | (with_reducible refine Kd.C_alloc ?_ _) | (with_reducible refine Kd.C_drewN ?_ _) | (with_reducible refine Kd.C_drew ?_))); (case side2 => exact HC0_1.out); (case side3 => repeat (first | exact (Kd.C_below HR0_2.out HB.out) | (with_reducible refine Kd.C_alloc ?_ _) | (with_reducible refine Kd.C_drewN ?_ _) | (with_reducible refine Kd.C_drew ?_))); (case side4 => exact HC0_2.out); (case side5 => repeat (first | exact (Kd.C_below HR1.out HB.out) | (with_reducible refine Kd.C_alloc ?_ _) | (with_reducible refine Kd.C_drewN ?_ _) | (with_reducible refine Kd.C_drew ?_))); (case side6 => exact HC1.out); rintro e w27 ⟨rfl, hb⟩; refine ⟨_, rfl, ?_⟩; have n0_ := Aside0.mk (blk_below (g := gb323) (o := .cells #[.int .i64 a0_0, .slice A0_1 l0_1.length c0_1, .slice A0_2 l0_2.length c0_2] 26 (0, 0)) (by (with_reducible repeat (first | refine blk_drewN ?_ _ | refine blk_drew ?_ | refine blk_alloc ?_ _)); exact BK323.out) hb); have n1_ := Aside0.mk (below_step (by repeat (first | (with_reducible first | exact HB.out | apply below_alloc | apply pw_below_drewN | apply below_drew1 | refine below_set ?_ GE323.out) | exact HB.out)) hb); clear BK323; clear HB; have BK323 := n0_; have HB := n1_; clear n0_ n1_; (try clear hb); (try clear hb2); (try clear hk); (try clear hi)))
  go_ret2
  exact ⟨_, by first | rfl | (simp [errW_none, errW_some] <;> rfl) | (simp [*, errW_none, errW_some] <;> rfl), by first | exact Kd.R_nil _ _ _ _ _ | exact Kd.N_nil _ _ _ _ _ | exact Kd.V_nil _ _ _ _ _ | exact Kd.Q_nil _ _ _ _ _ | exact Kd.S_nil _ _ _ _ _, by repeat (first | (with_reducible first | exact HB.out | apply below_alloc | apply pw_below_drewN | apply below_drew1 | refine below_set ?_ GE323.out) | exact HB.out)⟩
end Go.Proofs.Ytbkjplomoegbdaa.PB
