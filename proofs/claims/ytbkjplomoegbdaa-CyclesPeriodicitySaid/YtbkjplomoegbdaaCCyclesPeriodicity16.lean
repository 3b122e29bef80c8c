/- Parts of the proof of CyclesPeriodicity, gathered by a program of this claim out of texts that it or the kit's print wrote: lemmas alone, no condition of their own. -/
import Derived.Test.YtbkjplomoegbdaaCCyclesPeriodicity4
import Derived.Test.YtbkjplomoegbdaaCCyclesPeriodicity15
import Derived.Test.YtbkjplomoegbdaaCCyclesPeriodicity14
namespace Go.Proofs.Ytbkjplomoegbdaa.PB
open Go.RowKit Go.Proofs.YtbkjplomoegbdaaW.PrintWords Go.Proofs.YtbkjplomoegbdaaW.PrintLast Go.Proofs.YtbkjplomoegbdaaW.PrintMore
attribute [local go_sem] max2_int min2_int max_two min_two max_three min_three max_four min_four
set_option linter.unusedVariables false
set_option linter.unusedSimpArgs false
def railplanref11_Fundamental.l0 : Nat → List Int → List (S41) → Int → Int → List (S97) → List (S36) → Option ((List (S41)) × Int)
 | 0, _, _, _, _, _, _ => none
 | k + 1, x1, x6, x7, x255000, x255001, x255002 => if x7 < (x255002.length : Int) then ((railplanref11_has.f k x1 x7).bind fun t256 => (if t256 = true then (railplanref11_Fundamental.l0 k x1 x6 (wrap64 (x7 + 1)) x255000 x255001 x255002) else (if 0 ≤ x7 then ((railplanref11_path.f x255000 x255001 x255002 x1 ((rd_T36 x255002 x7).f2) ((rd_T36 x255002 x7).f1)).bind fun bt259 => ((some (([x7] : List Int) : List Int)).bind fun y266 => (if y266.length + bt259.1.length < 17592186044416 then ((some (([1] : List Int) : List Int)).bind fun y272 => (if y272.length + bt259.2.1.length < 17592186044416 then (if x6.length < 2932031007402 then (railplanref11_Fundamental.l0 k x1 (x6 ++ [(⟨(y266 ++ bt259.1), (y272 ++ bt259.2.1)⟩ : S41)]) (wrap64 (x7 + 1)) x255000 x255001 x255002) else (none)) else (none))) else (none)))) else (none)))) else (some (x6, 0))
def railplanref11_Fundamental.f (k : Nat) (a0_0 : Int) (l0_1 : List (S97)) (l0_2 : List (S36)) (l1 : List Int) : Option ((List (S41)) × Int) := (railplanref11_Forest.f a0_0 l0_1 l0_2 l1).bind fun t255 => (if t255 = true then (railplanref11_Fundamental.l0 k l1 ([] : List (S41)) 0 a0_0 l0_1 l0_2) else (some (([] : List (S41)), 1)))
def railplanref11_Fundamental.T8 : Bool × List (List Nat × List Nat) := (true, [([], []), ([], []), ([], []), ([2], [2]), ([], []), ([3, 4], [3, 4]), ([5], [5]), ([6], [6]), ([], []), ([8], [8]), ([], []), ([9, 10], [9, 10]), ([11], [11]), ([12], [12]), ([0, 1, 7, 13], [0, 1, 7, 13]), ([14], [14]), ([15], [15]), ([15], [15]), ([15], [15]), ([16, 14, 0, 1, 2, 3, 4, 5, 6, 7, 8, 9, 10, 11, 12, 13, 14, 15, 16], [16]), ([17, 19, 0, 1, 2, 3, 4, 5, 6, 7, 8, 9, 10, 11, 12, 13, 14, 15, 16, 17, 19], [17]), ([18, 20, 0, 1, 2, 3, 4, 5, 6, 7, 8, 9, 10, 11, 12, 13, 14, 15, 16, 17, 18, 19, 20], [18])])
def railplanref11_Fundamental.B8 : List Nat := [0, 0, 0, 4, 0, 28, 60, 124, 0, 256, 0, 1792, 3840, 7936, 16383, 32767, 65535, 65535, 65535, 131071, 786431, 2097151]
theorem railplanref11_Fundamental.tab8 : rtab .any (opsOf Try.f45 8) = railplanref11_Fundamental.T8 := by kernel_rfl
theorem railplanref11_Fundamental.bits8 : waitsOk railplanref11_Fundamental.T8.2 railplanref11_Fundamental.B8 = true := by kernel_rfl
set_option maxHeartbeats 8000000 in
set_option maxRecDepth 100000 in
theorem railplanref11_Fundamental.calls (k : Nat) (a0_0 : Int) (A0_1 : Option Addr) (c0_1 : Nat) (l0_1 : List (S97)) (A0_2 : Option Addr) (c0_2 : Nat) (l0_2 : List (S36)) (A1 : Option Addr) (c1 : Nat) (l1 : List Int) (r1 : List (S41)) (r2 : Int) (w : World) (hr0_1 : Kd.C k97 w A0_1 l0_1.length l0_1) (hc0_1 : l0_1.length ≤ c0_1) (hr0_2 : Kd.C k36 w A0_2 l0_2.length l0_2) (hc0_2 : l0_2.length ≤ c0_2) (hr1 : Kd.C (Kd.int .i64) w A1 l1.length l1) (hc1 : l1.length ≤ c1) (h : railplanref11_Fundamental.f k a0_0 l0_1 l0_2 l1 = some (r1, r2)) :
  Calls Try.prog 45 #[.agg #[.int .i64 a0_0, .slice A0_1 l0_1.length c0_1, .slice A0_2 l0_2.length c0_2], .slice A1 l1.length c1] w fun e w' => ∃ v0_ : Value, e = .returned (.tuple #[v0_, .int .i64 r2]) ∧ Kd.S k41 41 w' w.heap.size (fun _ => True) v0_ r1 ∧ Below w.heap.size w w' := by
 have hu26 := Try.underlying26
 have hu41 := Try.underlying41
 have HR0_1 := Aside0.mk hr0_1
 have HC0_1 := Aside0.mk hc0_1
 clear hr0_1 hc0_1
 have HR0_2 := Aside0.mk hr0_2
 have HC0_2 := Aside0.mk hc0_2
 clear hr0_2 hc0_2
 have HR1 := Aside0.mk hr1
 have HC1 := Aside0.mk hc1
 clear hr1 hc1
 have HB := Aside0.mk (Below.refl w.heap.size w)
 have H : ((railplanref11_Forest.f a0_0 l0_1 l0_2 l1).bind fun t255 => (if t255 = true then (railplanref11_Fundamental.l0 k l1 ([] : List (S41)) 0 a0_0 l0_1 l0_2) else (some (([] : List (S41)), 1)))) = some (r1, r2) := h
 clear h
 replace H := Option.bind_eq_some_iff.mp H
 obtain ⟨t255, A30, H⟩ := H
 replace H : (if t255 = true then (railplanref11_Fundamental.l0 k l1 ([] : List (S41)) 0 a0_0 l0_1 l0_2) else (some (([] : List (S41)), 1))) = some (r1, r2) := H
 have A3 := Aside0.mk A30
 clear A30
 by_cases c4 : t255 = true
 ·subst c4
  have H1 : (railplanref11_Fundamental.l0 k l1 ([] : List (S41)) 0 a0_0 l0_1 l0_2) = some (r1, r2) := by rw [if_pos rfl] at H; exact H
  clear H
  have H := H1
  clear H1
  have H' := Aside0.mk H
  clear H
  go_enter Try.func45, Try.ntmps45
  go_wp2_with (first | ((with_reducible refine gate_dst (N := 2) rfl ?_); refine box_event ?hg (N := 2) ?hd (cs := #[.int .i64 a0_0, .slice A0_1 l0_1.length c0_1, .slice A0_2 l0_2.length c0_2]) (t := 26) ?hr ?_; (case hd => rfl); (case hg => rfl); (case hr => first | (go_simp; done) | (go_simp; rfl)); intro gb254 hg w5 hbox hb; have n0_ := Aside0.mk (below_step (by repeat (first | (with_reducible first | exact HB.out | apply below_alloc | apply pw_below_drewN | apply below_drew1) | exact HB.out)) hb); have n1_ := Aside0.mk (hbox); have n2_ := Aside0.mk ((by rw [hg]; exact (below_size (by repeat (first | (with_reducible first | exact HB.out | apply below_alloc | apply pw_below_drewN | apply below_drew1) | exact HB.out))) : w.heap.size ≤ gb254)); have n3_ := Aside0.mk ((by rw [hg]; exact (below_size (by repeat (first | (with_reducible first | exact HB.out | apply below_alloc | apply pw_below_drewN | apply below_drew1) | exact HB.out))) : w.heap.size ≤ gb254)); clear HB; have HB := n0_; have BK254 := n1_; have GW254 := n2_; have GE254 := n3_; clear n0_ n1_ n2_ n3_; clear hb hbox hg; have hcz6_0 : w5.cell? ⟨gb254, 0, none⟩ = some (.int .i64 a0_0) := (blk_cell BK254.out 0).trans rfl; have hcz6_1 : w5.cell? ⟨gb254, 1, none⟩ = some (.slice A0_1 l0_1.length c0_1) := (blk_cell BK254.out 1).trans rfl; have hcz6_2 : w5.cell? ⟨gb254, 2, none⟩ = some (.slice A0_2 l0_2.length c0_2) := (blk_cell BK254.out 2).trans rfl; have hfz6_0 := blk_frozen BK254.out 0; have hfz6_1 := blk_frozen BK254.out 1; have hfz6_2 := blk_frozen BK254.out 2) | ((with_reducible refine gate_callee (f := 52) rfl ?_); refine goesL_ (some 13) rfl rfl Try.func52 (by kernel_rfl) rfl #[.agg #[.int .i64 a0_0, .slice A0_1 l0_1.length c0_1, .slice A0_2 l0_2.length c0_2], .slice A1 l1.length c1] rfl (by (try simp only [List.map_toArray, List.map_cons, List.map_nil]); first | done | rfl | (simp only [List.length_drop, List.length_take]; rfl)) ?_; (with_reducible refine (railplanref11_Forest.calls a0_0 _ _ l0_1 _ _ l0_2 _ _ l1 true _ ?side1 ?side2 ?side3 ?side4 ?side5 ?side6 A3.out).mono ?_); (case side1 => repeat (first | exact (Kd.C_below HR0_1.out HB.out) | (with_reducible refine Kd.C_alloc ?_ _) | (with_reducible refine Kd.C_drewN ?_ _) | (with_reducible refine Kd.C_drew ?_))); (case side2 => exact HC0_1.out); (case side3 => repeat (first | exact (Kd.C_below HR0_2.out HB.out) | (with_reducible refine Kd.C_alloc ?_ _) | (with_reducible refine Kd.C_drewN ?_ _) | (with_reducible refine Kd.C_drew ?_))); (case side4 => exact HC0_2.out); (case side5 => repeat (first | exact (Kd.C_below HR1.out HB.out) | (with_reducible refine Kd.C_alloc ?_ _) | (with_reducible refine Kd.C_drewN ?_ _) | (with_reducible refine Kd.C_drew ?_))); (case side6 => exact HC1.out); rintro e w7 ⟨rfl, hb⟩; refine ⟨_, rfl, ?_⟩; have n0_ := Aside0.mk (blk_below (g := gb254) (o := .cells #[.int .i64 a0_0, .slice A0_1 l0_1.length c0_1, .slice A0_2 l0_2.length c0_2] 26 (0, 0)) (by (with_reducible repeat (first | refine blk_drewN ?_ _ | refine blk_drew ?_ | refine blk_alloc ?_ _)); exact BK254.out) hb); have n1_ := Aside0.mk (below_step (by repeat (first | (with_reducible first | exact HB.out | apply below_alloc | apply pw_below_drewN | apply below_drew1 | refine below_set ?_ GE254.out) | exact HB.out)) hb); clear BK254; clear HB; have BK254 := n0_; have HB := n1_; clear n0_ n1_; (try clear hb); (try clear hb2); (try clear hk); (try clear hi)))
  go_loopg [6, 7] k (fun kq v6 v7 w' => ∃ (x6_1 : List (S41)) (x7_1 : Int), v7 = .int .i64 x7_1 ∧ Aside0 (railplanref11_Fundamental.l0 kq l1 x6_1 x7_1 a0_0 l0_1 l0_2 = some (r1, r2)) ∧ Aside0 (kq ≤ k) ∧ Aside0 (Kd.S k41 41 w' w.heap.size (fun _ => True) v6 x6_1) ∧ Aside0 (w'.heap[gb254]? = some (.cells #[.int .i64 a0_0, (.slice A0_1 l0_1.length c0_1), (.slice A0_2 l0_2.length c0_2)] 26 (0, 0))) ∧ Aside0 (Below w.heap.size w w'))
  case atStart => exact ⟨(([] : List (S41))), (0), (by first | rfl | (simp; done) | (simp [*]; done)), H', ⟨Nat.le_refl _⟩, ⟨by first | exact Kd.S_nil _ _ _ _ _ | exact Kd.N_nil _ _ _ _ _ | exact Kd.V_nil _ _ _ _ _ | exact Kd.Q_nil _ _ _ _ _ | exact Kd.R_nil _ _ _ _ _⟩, ⟨by (with_reducible repeat (first | refine blk_drewN ?_ _ | refine blk_drew ?_ | refine blk_alloc ?_ _)); exact BK254.out⟩, ⟨by repeat (first | (with_reducible first | exact HB.out | apply below_alloc | apply pw_below_drewN | apply below_drew1 | refine below_set ?_ GE254.out) | exact HB.out)⟩⟩
  case round =>
   clear H'
   try clear c1
   try clear p2
   try clear c4
   try clear c5
   try clear hcz6_0
   try clear hcz6_1
   try clear hcz6_2
   try clear hfz6_0
   try clear hfz6_1
   try clear hfz6_2
   obtain ⟨x6_1, x7_1, rfl, HA, HK1, HO_6, BK254, HB⟩ := hrel
   cases gk with
   | zero => exact absurd HA.out (by simp [railplanref11_Fundamental.l0])
   | succ k1 =>
    have H := HA.out
    clear HA
    simp only [railplanref11_Fundamental.l0] at H
    by_cases c8 : x7_1 < (l0_2.length : Int)
    ·rw [if_pos c8] at H
     have c8b0 : decide (x7_1 < (l0_2.length : Int)) = true := decide_eq_true c8
     clear c8
     replace H := Option.bind_eq_some_iff.mp H
     obtain ⟨t256, A90, H⟩ := H
     replace H : (if t256 = true then (railplanref11_Fundamental.l0 k1 l1 x6_1 (wrap64 (x7_1 + 1)) a0_0 l0_1 l0_2) else (if 0 ≤ x7_1 then ((railplanref11_path.f a0_0 l0_1 l0_2 l1 ((rd_T36 l0_2 x7_1).f2) ((rd_T36 l0_2 x7_1).f1)).bind fun bt259 => ((some (([x7_1] : List Int) : List Int)).bind fun y266 => (if y266.length + bt259.1.length < 17592186044416 then ((some (([1] : List Int) : List Int)).bind fun y272 => (if y272.length + bt259.2.1.length < 17592186044416 then (if x6_1.length < 2932031007402 then (railplanref11_Fundamental.l0 k1 l1 (x6_1 ++ [(⟨(y266 ++ bt259.1), (y272 ++ bt259.2.1)⟩ : S41)]) (wrap64 (x7_1 + 1)) a0_0 l0_1 l0_2) else (none)) else (none))) else (none)))) else (none))) = some (r1, r2) := H
     have A9 := Aside0.mk A90
     clear A90
     by_cases c10 : t256 = true
     ·subst c10
      have H1 : (railplanref11_Fundamental.l0 k1 l1 x6_1 (wrap64 (x7_1 + 1)) a0_0 l0_1 l0_2) = some (r1, r2) := by rw [if_pos rfl] at H; exact H
      clear H
      have H := H1
      clear H1
      have H' := Aside0.mk H
      clear H
      have hcz11_0 : wr.cell? ⟨gb254, 0, none⟩ = some (.int .i64 a0_0) := (blk_cell BK254.out 0).trans rfl
      have hcz11_1 : wr.cell? ⟨gb254, 1, none⟩ = some (.slice A0_1 l0_1.length c0_1) := (blk_cell BK254.out 1).trans rfl
      have hcz11_2 : wr.cell? ⟨gb254, 2, none⟩ = some (.slice A0_2 l0_2.length c0_2) := (blk_cell BK254.out 2).trans rfl
      have hfz11_0 := blk_frozen BK254.out 0
      have hfz11_1 := blk_frozen BK254.out 1
      have hfz11_2 := blk_frozen BK254.out 2
      go_wp2_with (first | ((with_reducible refine gate_callee (f := 96) rfl ?_); refine goesL_ (some 24) rfl rfl Try.func96 (by kernel_rfl) rfl #[.slice A1 l1.length c1, .int .i64 x7_1] rfl (by (try simp only [List.map_toArray, List.map_cons, List.map_nil]); first | done | rfl | (simp only [List.length_drop, List.length_take]; rfl)) ?_; (with_reducible refine (railplanref11_has.calls k1 _ _ l1 x7_1 true _ ?side1 ?side2 A9.out).mono ?_); (case side1 => repeat (first | exact (Kd.C_below HR1.out HB.out) | (with_reducible refine Kd.C_alloc ?_ _) | (with_reducible refine Kd.C_drewN ?_ _) | (with_reducible refine Kd.C_drew ?_))); (case side2 => exact HC1.out); rintro e w' ⟨rfl, ⟨nd, rfl⟩⟩; refine ⟨_, rfl, ?_⟩))
      go_roundg k1
      case measure => have := HK1.out; omega
      case rel => exact ⟨(x6_1), (wrap64 (x7_1 + 1)), (by first | rfl | (simp; done) | (simp [*]; done)), H', ⟨by have := HK1.out; omega⟩, ⟨by (with_reducible repeat (first | apply Kd.S_alloc | apply Kd.S_drewN | apply Kd.S_drew)); exact HO_6.out⟩, ⟨by (with_reducible repeat (first | refine blk_drewN ?_ _ | refine blk_drew ?_ | refine blk_alloc ?_ _)); exact BK254.out⟩, ⟨by repeat (first | (with_reducible first | exact HB.out | apply below_alloc | apply pw_below_drewN | apply below_drew1 | refine below_set ?_ GE254.out) | exact HB.out)⟩⟩
     ·replace c10 := Bool.eq_false_iff.mpr c10
      subst c10
      have H1 : (if 0 ≤ x7_1 then ((railplanref11_path.f a0_0 l0_1 l0_2 l1 ((rd_T36 l0_2 x7_1).f2) ((rd_T36 l0_2 x7_1).f1)).bind fun bt259 => ((some (([x7_1] : List Int) : List Int)).bind fun y266 => (if y266.length + bt259.1.length < 17592186044416 then ((some (([1] : List Int) : List Int)).bind fun y272 => (if y272.length + bt259.2.1.length < 17592186044416 then (if x6_1.length < 2932031007402 then (railplanref11_Fundamental.l0 k1 l1 (x6_1 ++ [(⟨(y266 ++ bt259.1), (y272 ++ bt259.2.1)⟩ : S41)]) (wrap64 (x7_1 + 1)) a0_0 l0_1 l0_2) else (none)) else (none))) else (none)))) else (none)) = some (r1, r2) := by rw [if_neg (show ¬ (false = true) by decide)] at H; exact H
      clear H
      have H := H1
      clear H1
      by_cases c12 : 0 ≤ x7_1
      ·rw [if_pos c12] at H
       have c12b0 : decide (0 ≤ x7_1) = true := decide_eq_true c12
       clear c12
       replace H := Option.bind_eq_some_iff.mp H
       obtain ⟨⟨t259, t262, t265⟩, A130, H⟩ := H
       replace H : ((some (([x7_1] : List Int) : List Int)).bind fun y266 => (if y266.length + t259.length < 17592186044416 then ((some (([1] : List Int) : List Int)).bind fun y272 => (if y272.length + t262.length < 17592186044416 then (if x6_1.length < 2932031007402 then (railplanref11_Fundamental.l0 k1 l1 (x6_1 ++ [(⟨(y266 ++ t259), (y272 ++ t262)⟩ : S41)]) (wrap64 (x7_1 + 1)) a0_0 l0_1 l0_2) else (none)) else (none))) else (none))) = some (r1, r2) := H
       have A13 := Aside0.mk A130
       clear A130
       obtain ⟨y266, hy266⟩ : ∃ y_ : List Int, y_ = (([x7_1] : List Int)) := ⟨_, rfl⟩
       replace H : (if y266.length + t259.length < 17592186044416 then ((some (([1] : List Int) : List Int)).bind fun y272 => (if y272.length + t262.length < 17592186044416 then (if x6_1.length < 2932031007402 then (railplanref11_Fundamental.l0 k1 l1 (x6_1 ++ [(⟨(y266 ++ t259), (y272 ++ t262)⟩ : S41)]) (wrap64 (x7_1 + 1)) a0_0 l0_1 l0_2) else (none)) else (none))) else (none)) = some (r1, r2) := by first | (rw [hy266]; with_reducible exact H) | (have H2_ := (Option.bind_some _ _).symm.trans H; rw [hy266]; with_reducible exact H2_) | (have H2_ := (Option.bind_some _ _).symm.trans H; with_reducible exact H2_) | with_reducible exact H | (rw [hy266]; exact H) | exact H
       have Ny266 := Aside0.mk hy266
       clear hy266
       by_cases c14 : y266.length + t259.length < 17592186044416
       ·rw [if_pos c14] at H
        have LMc14 := Aside0.mk c14
        clear c14
        obtain ⟨y269, hy269⟩ : ∃ y_ : List Int, y_ = (y266 ++ t259) := ⟨_, rfl⟩
        replace H : ((some (([1] : List Int) : List Int)).bind fun y272 => (if y272.length + t262.length < 17592186044416 then (if x6_1.length < 2932031007402 then (railplanref11_Fundamental.l0 k1 l1 (x6_1 ++ [(⟨y269, (y272 ++ t262)⟩ : S41)]) (wrap64 (x7_1 + 1)) a0_0 l0_1 l0_2) else (none)) else (none))) = some (r1, r2) := by first | (rw [hy269]; with_reducible exact H) | (have H2_ := (Option.bind_some _ _).symm.trans H; rw [hy269]; with_reducible exact H2_) | (have H2_ := (Option.bind_some _ _).symm.trans H; with_reducible exact H2_) | with_reducible exact H | (rw [hy269]; exact H) | exact H
        have Ny269 := Aside0.mk hy269
        clear hy269
        obtain ⟨y272, hy272⟩ : ∃ y_ : List Int, y_ = (([1] : List Int)) := ⟨_, rfl⟩
        replace H : (if y272.length + t262.length < 17592186044416 then (if x6_1.length < 2932031007402 then (railplanref11_Fundamental.l0 k1 l1 (x6_1 ++ [(⟨y269, (y272 ++ t262)⟩ : S41)]) (wrap64 (x7_1 + 1)) a0_0 l0_1 l0_2) else (none)) else (none)) = some (r1, r2) := by first | (rw [hy272]; with_reducible exact H) | (have H2_ := (Option.bind_some _ _).symm.trans H; rw [hy272]; with_reducible exact H2_) | (have H2_ := (Option.bind_some _ _).symm.trans H; with_reducible exact H2_) | with_reducible exact H | (rw [hy272]; exact H) | exact H
        have Ny272 := Aside0.mk hy272
        clear hy272
        by_cases c15 : y272.length + t262.length < 17592186044416
        ·rw [if_pos c15] at H
         have LMc15 := Aside0.mk c15
         clear c15
         obtain ⟨y275, hy275⟩ : ∃ y_ : List Int, y_ = (y272 ++ t262) := ⟨_, rfl⟩
         replace H : (if x6_1.length < 2932031007402 then (railplanref11_Fundamental.l0 k1 l1 (x6_1 ++ [(⟨y269, y275⟩ : S41)]) (wrap64 (x7_1 + 1)) a0_0 l0_1 l0_2) else (none)) = some (r1, r2) := by first | (rw [hy275]; with_reducible exact H) | (have H2_ := (Option.bind_some _ _).symm.trans H; rw [hy275]; with_reducible exact H2_) | (have H2_ := (Option.bind_some _ _).symm.trans H; with_reducible exact H2_) | with_reducible exact H | (rw [hy275]; exact H) | exact H
         have Ny275 := Aside0.mk hy275
         clear hy275
         by_cases c16 : x6_1.length < 2932031007402
         ·rw [if_pos c16] at H
          have LMc16 := Aside0.mk c16
          clear c16
          obtain ⟨y278, hy278⟩ : ∃ y_ : List (S41), y_ = (x6_1 ++ [(⟨y269, y275⟩ : S41)]) := ⟨_, rfl⟩
          replace H : (railplanref11_Fundamental.l0 k1 l1 y278 (wrap64 (x7_1 + 1)) a0_0 l0_1 l0_2) = some (r1, r2) := by first | (rw [hy278]; with_reducible exact H) | (have H2_ := (Option.bind_some _ _).symm.trans H; rw [hy278]; with_reducible exact H2_) | (have H2_ := (Option.bind_some _ _).symm.trans H; with_reducible exact H2_) | with_reducible exact H | (rw [hy278]; exact H) | exact H
          have Ny278 := Aside0.mk hy278
          clear hy278
          have H' := Aside0.mk H
          clear H
          have hcz17_0 : wr.cell? ⟨gb254, 0, none⟩ = some (.int .i64 a0_0) := (blk_cell BK254.out 0).trans rfl
          have hcz17_1 : wr.cell? ⟨gb254, 1, none⟩ = some (.slice A0_1 l0_1.length c0_1) := (blk_cell BK254.out 1).trans rfl
          have hcz17_2 : wr.cell? ⟨gb254, 2, none⟩ = some (.slice A0_2 l0_2.length c0_2) := (blk_cell BK254.out 2).trans rfl
          have hfz17_0 := blk_frozen BK254.out 0
          have hfz17_1 := blk_frozen BK254.out 1
          have hfz17_2 := blk_frozen BK254.out 2
          try go_wp2_with (first | ((with_reducible refine gate_callee (f := 96) rfl ?_); refine goesL_ (some 24) rfl rfl Try.func96 (by kernel_rfl) rfl #[.slice A1 l1.length c1, .int .i64 x7_1] rfl (by (try simp only [List.map_toArray, List.map_cons, List.map_nil]); first | done | rfl | (simp only [List.length_drop, List.length_take]; rfl)) ?_; (with_reducible refine (railplanref11_has.calls k1 _ _ l1 x7_1 false _ ?side1 ?side2 A9.out).mono ?_); (case side1 => repeat (first | exact (Kd.C_below HR1.out HB.out) | (with_reducible refine Kd.C_alloc ?_ _) | (with_reducible refine Kd.C_drewN ?_ _) | (with_reducible refine Kd.C_drew ?_))); (case side2 => exact HC1.out); rintro e w' ⟨rfl, ⟨nd, rfl⟩⟩; refine ⟨_, rfl, ?_⟩))
          (try (rw [drewN_self wr]; generalize hq_ : World.drewN wr _ = wr; have n0_ : Aside0 (Kd.S k41 41 wr w.heap.size (fun _ => True) u6 x6_1) := ⟨by rw [← hq_]; exact (by (with_reducible repeat (first | apply Kd.S_alloc | apply Kd.S_drewN | apply Kd.S_drew)); exact HO_6.out)⟩; have n1_ : Aside0 (wr.heap[gb254]? = some (.cells #[.int .i64 a0_0, .slice A0_1 l0_1.length c0_1, .slice A0_2 l0_2.length c0_2] 26 (0, 0))) := ⟨by rw [← hq_]; exact (by (with_reducible repeat (first | refine blk_drewN ?_ _ | refine blk_drew ?_ | refine blk_alloc ?_ _)); exact BK254.out)⟩; have n2_ : Aside0 (Below w.heap.size w wr) := ⟨by rw [← hq_]; exact (by repeat (first | (with_reducible first | exact HB.out | apply below_alloc | apply pw_below_drewN | apply below_drew1 | refine below_set ?_ GE254.out) | exact HB.out))⟩; clear HO_6 BK254 HB hq_; have HO_6 := n0_; have BK254 := n1_; have HB := n2_; clear n0_ n1_ n2_))
          have n0_ := Aside0.mk (Kd.S_drew HO_6.out)
          have n1_ := Aside0.mk (blk_drew BK254.out)
          have n2_ := Aside0.mk (below_drew1 HB.out)
          clear HO_6
          clear BK254
          clear HB
          have HO_6 := n0_
          have BK254 := n1_
          have HB := n2_
          clear n0_ n1_ n2_
          have p257 : 0 ≤ (x7_1 : Int) := of_decide_eq_true (by first | (with_reducible assumption) | assumption)
          have q257 : x7_1 < (l0_2.length : Int) := of_decide_eq_true (by first | (with_reducible assumption) | assumption)
          obtain ⟨ad257, e257, hx257_0, hx257_1, hx257_2, hx257_3, hx257_4, hx257_5⟩ := at_T36 HR0_2.out x7_1 p257 q257
          have hw257_5 := hx257_5
          have hw257_4 := hx257_4
          have hw257_3 := hx257_3
          have hw257_2 := hx257_2
          have hw257_1 := hx257_1
          have hw257_0 := hx257_0
          cases e257
          replace hx257_0 := (HB.out.cell (World.block_lt_of_cell? w _ hx257_0)).trans hx257_0
          replace hx257_1 := (HB.out.cell (World.block_lt_of_cell? w _ hx257_1)).trans hx257_1
          replace hx257_2 := (HB.out.cell (World.block_lt_of_cell? w _ hx257_2)).trans hx257_2
          replace hx257_3 := (HB.out.cell (World.block_lt_of_cell? w _ hx257_3)).trans hx257_3
          replace hx257_4 := (HB.out.cell (World.block_lt_of_cell? w _ hx257_4)).trans hx257_4
          replace hx257_5 := (HB.out.cell (World.block_lt_of_cell? w _ hx257_5)).trans hx257_5
          replace p257 := eq_true p257
          replace q257 := eq_true q257
          have p258 : 0 ≤ (x7_1 : Int) := of_decide_eq_true (by first | (with_reducible assumption) | assumption)
          have q258 : x7_1 < (l0_2.length : Int) := of_decide_eq_true (by first | (with_reducible assumption) | assumption)
          obtain ⟨ad258, e258, hx258_0, hx258_1, hx258_2, hx258_3, hx258_4, hx258_5⟩ := at_T36 HR0_2.out x7_1 p258 q258
          have hw258_5 := hx258_5
          have hw258_4 := hx258_4
          have hw258_3 := hx258_3
          have hw258_2 := hx258_2
          have hw258_1 := hx258_1
          have hw258_0 := hx258_0
          obtain rfl : ad257 = ad258 := (by injection e258)
          replace hx258_0 := (HB.out.cell (World.block_lt_of_cell? w _ hx258_0)).trans hx258_0
          replace hx258_1 := (HB.out.cell (World.block_lt_of_cell? w _ hx258_1)).trans hx258_1
          replace hx258_2 := (HB.out.cell (World.block_lt_of_cell? w _ hx258_2)).trans hx258_2
          replace hx258_3 := (HB.out.cell (World.block_lt_of_cell? w _ hx258_3)).trans hx258_3
          replace hx258_4 := (HB.out.cell (World.block_lt_of_cell? w _ hx258_4)).trans hx258_4
          replace hx258_5 := (HB.out.cell (World.block_lt_of_cell? w _ hx258_5)).trans hx258_5
          replace p258 := eq_true p258
          replace q258 := eq_true q258
          refine start_ (n := 22) (S := fun w' => w'.cell? ⟨gb254, 0, none⟩ = some (.int .i64 a0_0) ∧ w'.cell? ⟨gb254, 1, none⟩ = some (.slice A0_1 l0_1.length c0_1) ∧ w'.cell? ⟨gb254, 2, none⟩ = some (.slice (some ad257) l0_2.length c0_2) ∧ w'.cell? (ad257.add ((x7_1).toNat * 6)) = some (.int .i64 ((rd_T36 l0_2 x7_1).f0)) ∧ w'.cell? ⟨(ad257.add ((x7_1).toNat * 6)).block, (ad257.add ((x7_1).toNat * 6)).off + 1, none⟩ = some (.int .i64 ((rd_T36 l0_2 x7_1).f1)) ∧ w'.cell? ⟨(ad257.add ((x7_1).toNat * 6)).block, (ad257.add ((x7_1).toNat * 6)).off + 2, none⟩ = some (.int .i64 ((rd_T36 l0_2 x7_1).f2)) ∧ w'.cell? ⟨(ad257.add ((x7_1).toNat * 6)).block, (ad257.add ((x7_1).toNat * 6)).off + 3, none⟩ = some (.int .i64 ((rd_T36 l0_2 x7_1).f3)) ∧ w'.cell? ⟨(ad257.add ((x7_1).toNat * 6)).block, (ad257.add ((x7_1).toNat * 6)).off + 4, none⟩ = some (.int .i64 ((rd_T36 l0_2 x7_1).f4)) ∧ w'.cell? ⟨(ad257.add ((x7_1).toNat * 6)).block, (ad257.add ((x7_1).toNat * 6)).off + 5, none⟩ = some (.int .i64 ((rd_T36 l0_2 x7_1).f5)) ∧ w'.cell? (ad257.add ((x7_1).toNat * 6)) = some (.int .i64 ((rd_T36 l0_2 x7_1).f0)) ∧ w'.cell? ⟨(ad257.add ((x7_1).toNat * 6)).block, (ad257.add ((x7_1).toNat * 6)).off + 1, none⟩ = some (.int .i64 ((rd_T36 l0_2 x7_1).f1)) ∧ w'.cell? ⟨(ad257.add ((x7_1).toNat * 6)).block, (ad257.add ((x7_1).toNat * 6)).off + 2, none⟩ = some (.int .i64 ((rd_T36 l0_2 x7_1).f2)) ∧ w'.cell? ⟨(ad257.add ((x7_1).toNat * 6)).block, (ad257.add ((x7_1).toNat * 6)).off + 3, none⟩ = some (.int .i64 ((rd_T36 l0_2 x7_1).f3)) ∧ w'.cell? ⟨(ad257.add ((x7_1).toNat * 6)).block, (ad257.add ((x7_1).toNat * 6)).off + 4, none⟩ = some (.int .i64 ((rd_T36 l0_2 x7_1).f4)) ∧ w'.cell? ⟨(ad257.add ((x7_1).toNat * 6)).block, (ad257.add ((x7_1).toNat * 6)).off + 5, none⟩ = some (.int .i64 ((rd_T36 l0_2 x7_1).f5))) (ds := []) #[false, false, false, false, false, false, false, false, false, false, false, false, false, false, false, false, false, false, false, false, false, false] (by kernel_rfl) rfl rfl ⟨(blk_cell BK254.out 0).trans rfl, (blk_cell BK254.out 1).trans rfl, (blk_cell BK254.out 2).trans rfl, ((HB.out.cell (World.block_lt_of_cell? w _ hw257_0)).trans hw257_0), ((HB.out.cell (World.block_lt_of_cell? w _ hw257_1)).trans hw257_1), ((HB.out.cell (World.block_lt_of_cell? w _ hw257_2)).trans hw257_2), ((HB.out.cell (World.block_lt_of_cell? w _ hw257_3)).trans hw257_3), ((HB.out.cell (World.block_lt_of_cell? w _ hw257_4)).trans hw257_4), ((HB.out.cell (World.block_lt_of_cell? w _ hw257_5)).trans hw257_5), ((HB.out.cell (World.block_lt_of_cell? w _ hw258_0)).trans hw258_0), ((HB.out.cell (World.block_lt_of_cell? w _ hw258_1)).trans hw258_1), ((HB.out.cell (World.block_lt_of_cell? w _ hw258_2)).trans hw258_2), ((HB.out.cell (World.block_lt_of_cell? w _ hw258_3)).trans hw258_3), ((HB.out.cell (World.block_lt_of_cell? w _ hw258_4)).trans hw258_4), ((HB.out.cell (World.block_lt_of_cell? w _ hw258_5)).trans hw258_5)⟩ (fun hHeld => ?_); refine with_tabW railplanref11_Fundamental.tab8 railplanref11_Fundamental.bits8 (fun HT_ HW_ => ?_)
          generalize wr.drew = w18 at HO_6 BK254 HB hx257_0 hx257_1 hx257_2 hx257_3 hx257_4 hx257_5 hx258_0 hx258_1 hx258_2 hx258_3 hx258_4 hx258_5 hHeld ⊢
          refine pure_ (i := 1) (N := some 27) (v := ?_) (a' := ?_) #[false, true, false, false, false, false, false, false, false, false, false, false, false, false, false, false, false, false, false, false, false, false] rfl rfl (any_of HT_.out (by kernel_rfl)) (fun _ _ _ h => h) (Or.inl ⟨by rfl, ?_⟩) ?_ ?_
          rotate_left
          ·intro w'
           go_simp
           first | with_reducible rfl | (rw [if_neg (by simp only [ByteArray.size_append, ByteArray.size_extract, decide_eq_true_eq, eq_iff_iff, iff_true] at *; omega)]; try with_reducible rfl)
          rotate_left
          ·simp only [Act.put, List.setIfInBounds_toArray, List.set_cons_zero, List.set_cons_succ, i64_w, i32_w]
           rfl
          refine pure_ (i := 2) (N := some 28) (v := ?_) (a' := ?_) #[false, true, true, false, false, false, false, false, false, false, false, false, false, false, false, false, false, false, false, false, false, false] rfl rfl (any_of HT_.out (by kernel_rfl)) (fun _ _ _ h => h) (Or.inl ⟨by rfl, ?_⟩) ?_ ?_
          rotate_left
          ·intro w'
           go_simp
           first | with_reducible rfl | (rw [if_neg (by simp only [ByteArray.size_append, ByteArray.size_extract, decide_eq_true_eq, eq_iff_iff, iff_true] at *; omega)]; try with_reducible rfl)
          rotate_left
          ·simp only [Act.put, List.setIfInBounds_toArray, List.set_cons_zero, List.set_cons_succ, i64_w, i32_w]
           rfl
          refine pure_ (i := 4) (N := some 30) (v := ?_) (a' := ?_) #[false, true, true, false, true, false, false, false, false, false, false, false, false, false, false, false, false, false, false, false, false, false] rfl rfl (any_of HT_.out (by kernel_rfl)) (fun _ _ _ h => h) (Or.inl ⟨by rfl, ?_⟩) ?_ ?_
          rotate_left
          ·intro w'
           go_simp
           first | with_reducible rfl | (rw [if_neg (by simp only [ByteArray.size_append, ByteArray.size_extract, decide_eq_true_eq, eq_iff_iff, iff_true] at *; omega)]; try with_reducible rfl)
          rotate_left
          ·simp only [Act.put, List.setIfInBounds_toArray, List.set_cons_zero, List.set_cons_succ, i64_w, i32_w]
           rfl
          refine pure_ (i := 8) (N := some 34) (v := ?_) (a' := ?_) #[false, true, true, false, true, false, false, false, true, false, false, false, false, false, false, false, false, false, false, false, false, false] rfl rfl (any_of HT_.out (by kernel_rfl)) (fun _ _ _ h => h) (Or.inl ⟨by rfl, ?_⟩) ?_ ?_
          rotate_left
          ·intro w'
           go_simp
           first | with_reducible rfl | (rw [if_neg (by simp only [ByteArray.size_append, ByteArray.size_extract, decide_eq_true_eq, eq_iff_iff, iff_true] at *; omega)]; try with_reducible rfl)
          rotate_left
          ·simp only [Act.put, List.setIfInBounds_toArray, List.set_cons_zero, List.set_cons_succ, i64_w, i32_w]
           rfl
          refine pure_ (i := 10) (N := some 36) (v := ?_) (a' := ?_) #[false, true, true, false, true, false, false, false, true, false, true, false, false, false, false, false, false, false, false, false, false, false] rfl rfl (any_of HT_.out (by kernel_rfl)) (fun _ _ _ h => h) (Or.inl ⟨by rfl, ?_⟩) ?_ ?_
          rotate_left
          ·intro w'
           go_simp
           first | with_reducible rfl | (rw [if_neg (by simp only [ByteArray.size_append, ByteArray.size_extract, decide_eq_true_eq, eq_iff_iff, iff_true] at *; omega)]; try with_reducible rfl)
          rotate_left
          ·simp only [Act.put, List.setIfInBounds_toArray, List.set_cons_zero, List.set_cons_succ, i64_w, i32_w]
           rfl
          refine take_ (i := 0) (N := some 26) (v := ?_) (a' := ?_) #[true, true, true, false, true, false, false, false, true, false, true, false, false, false, false, false, false, false, false, false, false, false] rfl rfl (take_ofW HT_.out HW_.out (by kernel_rfl)) (fun _ _ _ h => h) (Or.inl ⟨by rfl, ?_⟩) hHeld ?_ ?_
          rotate_left
          ·rintro w' ⟨s0, s1, s2, s3, s4, s5, s6, s7, s8, s9, s10, s11, s12, s13, s14⟩
           go_simp
           first | with_reducible rfl | (rw [if_neg (by simp only [ByteArray.size_append, ByteArray.size_extract, decide_eq_true_eq, eq_iff_iff, iff_true] at *; omega)]; try with_reducible rfl)
          rotate_left
          ·simp only [Act.put, List.setIfInBounds_toArray, List.set_cons_zero, List.set_cons_succ, i64_w, i32_w]
           rfl
          refine take_ (i := 3) (N := some 29) (v := ?_) (a' := ?_) #[true, true, true, true, true, false, false, false, true, false, true, false, false, false, false, false, false, false, false, false, false, false] rfl rfl (take_ofW HT_.out HW_.out (by kernel_rfl)) (fun _ _ _ h => h) (Or.inl ⟨by rfl, ?_⟩) hHeld ?_ ?_
          rotate_left
          ·rintro w' ⟨s0, s1, s2, s3, s4, s5, s6, s7, s8, s9, s10, s11, s12, s13, s14⟩
           go_simp
           first | with_reducible rfl | (rw [if_neg (by simp only [ByteArray.size_append, ByteArray.size_extract, decide_eq_true_eq, eq_iff_iff, iff_true] at *; omega)]; try with_reducible rfl)
          rotate_left
          ·simp only [Act.put, List.setIfInBounds_toArray, List.set_cons_zero, List.set_cons_succ, i64_w, i32_w]
           rfl
          refine pure_ (i := 5) (N := some 31) (v := ?_) (a' := ?_) #[true, true, true, true, true, true, false, false, true, false, true, false, false, false, false, false, false, false, false, false, false, false] rfl rfl (any_of HT_.out (by kernel_rfl)) (fun _ _ _ h => h) (Or.inl ⟨by rfl, ?_⟩) ?_ ?_
          rotate_left
          ·intro w'
           go_simp
           first | with_reducible rfl | (rw [if_neg (by simp only [ByteArray.size_append, ByteArray.size_extract, decide_eq_true_eq, eq_iff_iff, iff_true] at *; omega)]; try with_reducible rfl)
          rotate_left
          ·simp only [Act.put, List.setIfInBounds_toArray, List.set_cons_zero, List.set_cons_succ, i64_w, i32_w]
           rfl
          refine pure_ (i := 6) (N := some 32) (v := ?_) (a' := ?_) #[true, true, true, true, true, true, true, false, true, false, true, false, false, false, false, false, false, false, false, false, false, false] rfl rfl (any_of HT_.out (by kernel_rfl)) (fun _ _ _ h => h) (Or.inl ⟨by rfl, ?_⟩) ?_ ?_
          rotate_left
          ·intro w'
           go_simp
           first | with_reducible rfl | (rw [if_neg (by simp only [ByteArray.size_append, ByteArray.size_extract, decide_eq_true_eq, eq_iff_iff, iff_true] at *; omega)]; try with_reducible rfl)
          rotate_left
          ·simp only [Act.put, List.setIfInBounds_toArray, List.set_cons_zero, List.set_cons_succ, i64_w, i32_w]
           rfl
          refine take_ (i := 7) (N := some 33) (v := ?_) (a' := ?_) #[true, true, true, true, true, true, true, true, true, false, true, false, false, false, false, false, false, false, false, false, false, false] rfl rfl (take_ofW HT_.out HW_.out (by kernel_rfl)) (fun _ _ _ h => h) (Or.inl ⟨by rfl, ?_⟩) hHeld ?_ ?_
          rotate_left
          ·rintro w' ⟨s0, s1, s2, s3, s4, s5, s6, s7, s8, s9, s10, s11, s12, s13, s14⟩
           go_simp
           first | with_reducible rfl | (rw [if_neg (by simp only [ByteArray.size_append, ByteArray.size_extract, decide_eq_true_eq, eq_iff_iff, iff_true] at *; omega)]; try with_reducible rfl)
          rotate_left
          ·simp only [Act.put, List.setIfInBounds_toArray, List.set_cons_zero, List.set_cons_succ, i64_w, i32_w]
           rfl
          refine take_ (i := 9) (N := some 35) (v := ?_) (a' := ?_) #[true, true, true, true, true, true, true, true, true, true, true, false, false, false, false, false, false, false, false, false, false, false] rfl rfl (take_ofW HT_.out HW_.out (by kernel_rfl)) (fun _ _ _ h => h) (Or.inl ⟨by rfl, ?_⟩) hHeld ?_ ?_
          rotate_left
          ·rintro w' ⟨s0, s1, s2, s3, s4, s5, s6, s7, s8, s9, s10, s11, s12, s13, s14⟩
           go_simp
           first | with_reducible rfl | (rw [if_neg (by simp only [ByteArray.size_append, ByteArray.size_extract, decide_eq_true_eq, eq_iff_iff, iff_true] at *; omega)]; try with_reducible rfl)
          rotate_left
          ·simp only [Act.put, List.setIfInBounds_toArray, List.set_cons_zero, List.set_cons_succ, i64_w, i32_w]
           rfl
          refine pure_ (i := 11) (N := some 37) (v := ?_) (a' := ?_) #[true, true, true, true, true, true, true, true, true, true, true, true, false, false, false, false, false, false, false, false, false, false] rfl rfl (any_of HT_.out (by kernel_rfl)) (fun _ _ _ h => h) (Or.inl ⟨by rfl, ?_⟩) ?_ ?_
          rotate_left
          ·intro w'
           go_simp
           first | with_reducible rfl | (rw [if_neg (by simp only [ByteArray.size_append, ByteArray.size_extract, decide_eq_true_eq, eq_iff_iff, iff_true] at *; omega)]; try with_reducible rfl)
          rotate_left
          ·simp only [Act.put, List.setIfInBounds_toArray, List.set_cons_zero, List.set_cons_succ, i64_w, i32_w]
           rfl
          refine pure_ (i := 12) (N := some 38) (v := ?_) (a' := ?_) #[true, true, true, true, true, true, true, true, true, true, true, true, true, false, false, false, false, false, false, false, false, false] rfl rfl (any_of HT_.out (by kernel_rfl)) (fun _ _ _ h => h) (Or.inl ⟨by rfl, ?_⟩) ?_ ?_
          rotate_left
          ·intro w'
           go_simp
           first | with_reducible rfl | (rw [if_neg (by simp only [ByteArray.size_append, ByteArray.size_extract, decide_eq_true_eq, eq_iff_iff, iff_true] at *; omega)]; try with_reducible rfl)
          rotate_left
          ·simp only [Act.put, List.setIfInBounds_toArray, List.set_cons_zero, List.set_cons_succ, i64_w, i32_w]
           rfl
          refine take_ (i := 13) (N := some 39) (v := ?_) (a' := ?_) #[true, true, true, true, true, true, true, true, true, true, true, true, true, true, false, false, false, false, false, false, false, false] rfl rfl (take_ofW HT_.out HW_.out (by kernel_rfl)) (fun _ _ _ h => h) (Or.inl ⟨by rfl, ?_⟩) hHeld ?_ ?_
          rotate_left
          ·rintro w' ⟨s0, s1, s2, s3, s4, s5, s6, s7, s8, s9, s10, s11, s12, s13, s14⟩
           go_simp
           first | with_reducible rfl | (rw [if_neg (by simp only [ByteArray.size_append, ByteArray.size_extract, decide_eq_true_eq, eq_iff_iff, iff_true] at *; omega)]; try with_reducible rfl)
          rotate_left
          ·simp only [Act.put, List.setIfInBounds_toArray, List.set_cons_zero, List.set_cons_succ, i64_w, i32_w]
           rfl
          refine one_ (i := 14) (N := some 40) #[true, true, true, true, true, true, true, true, true, true, true, true, true, true, true, false, false, false, false, false, false, false] rfl rfl (one_of HT_.out (by kernel_rfl)) (by decide) (fun K hK => ?_)
          refine goes_ Try.func97 (by kernel_rfl) rfl #[.agg #[.int .i64 a0_0, .slice A0_1 l0_1.length c0_1, .slice (some ad257) l0_2.length c0_2], .slice A1 l1.length c1, .int .i64 ((rd_T36 l0_2 x7_1).f2), .int .i64 ((rd_T36 l0_2 x7_1).f1)] (by rfl) rfl rfl (by (try simp only [List.map_toArray, List.map_cons, List.map_nil]); first | done | rfl | (simp only [List.length_drop, List.length_take]; rfl)) ?_
          with_reducible refine (railplanref11_path.calls a0_0 _ _ l0_1 _ _ l0_2 _ _ l1 ((rd_T36 l0_2 x7_1).f2) ((rd_T36 l0_2 x7_1).f1) t259 t262 t265 _ ?side1 ?side2 ?side3 ?side4 ?side5 ?side6 A13.out).mono ?_
          (case side1 => repeat (first | exact (Kd.C_below HR0_1.out HB.out) | (with_reducible refine Kd.C_alloc ?_ _) | (with_reducible refine Kd.C_drewN ?_ _) | (with_reducible refine Kd.C_drew ?_)))
          (case side2 => exact HC0_1.out)
          (case side3 => repeat (first | exact (Kd.C_below HR0_2.out HB.out) | (with_reducible refine Kd.C_alloc ?_ _) | (with_reducible refine Kd.C_drewN ?_ _) | (with_reducible refine Kd.C_drew ?_)))
          (case side4 => exact HC0_2.out)
          (case side5 => repeat (first | exact (Kd.C_below HR1.out HB.out) | (with_reducible refine Kd.C_alloc ?_ _) | (with_reducible refine Kd.C_drewN ?_ _) | (with_reducible refine Kd.C_drew ?_)))
          (case side6 => exact HC1.out)
          rintro e w19 ⟨v260, v263, rfl, ho0, ho1, hb⟩
          refine ⟨_, rfl, ?_⟩
          have n0_ := Aside0.mk (Kd.S_mono (Kd.S_told (Kd.S_told (Kd.S_old (by (with_reducible repeat (first | apply Kd.S_alloc | apply Kd.S_drewN | apply Kd.S_drew)); exact HO_6.out) hb) (Kd.R_base ho0)) (Kd.R_base ho1)) (fun _ h_ => h_.1))
          have n1_ := Aside0.mk (Kd.R_lower ho0 (below_size (by repeat (first | (with_reducible first | exact HB.out | apply below_alloc | apply pw_below_drewN | apply below_drew1 | refine below_set ?_ GE254.out) | exact HB.out))))
          have n2_ := Aside0.mk (Kd.R_lower ho1 (below_size (by repeat (first | (with_reducible first | exact HB.out | apply below_alloc | apply pw_below_drewN | apply below_drew1 | refine below_set ?_ GE254.out) | exact HB.out))))
          have n3_ := Aside0.mk (blk_below (g := gb254) (o := .cells #[.int .i64 a0_0, .slice A0_1 l0_1.length c0_1, .slice (some ad257) l0_2.length c0_2] 26 (0, 0)) (by (with_reducible repeat (first | refine blk_drewN ?_ _ | refine blk_drew ?_ | refine blk_alloc ?_ _)); exact BK254.out) hb)
          have n4_ := Aside0.mk (below_step (by repeat (first | (with_reducible first | exact HB.out | apply below_alloc | apply pw_below_drewN | apply below_drew1 | refine below_set ?_ GE254.out) | exact HB.out)) hb)
          clear HO_6
          clear BK254
          clear HB
          have HO_6 := n0_
          have HO261 := n1_
          have HO264 := n2_
          have BK254 := n3_
          have HB := n4_
          clear n0_ n1_ n2_ n3_ n4_
          (try clear hb)
          (try clear hb2)
          (try clear hk)
          (try clear hi)
          (try clear ho0)
          (try clear ho1)
          refine hK.out _ _ ⟨(blk_cell BK254.out 0).trans rfl, (blk_cell BK254.out 1).trans rfl, (blk_cell BK254.out 2).trans rfl, ((HB.out.cell (World.block_lt_of_cell? w _ hw257_0)).trans hw257_0), ((HB.out.cell (World.block_lt_of_cell? w _ hw257_1)).trans hw257_1), ((HB.out.cell (World.block_lt_of_cell? w _ hw257_2)).trans hw257_2), ((HB.out.cell (World.block_lt_of_cell? w _ hw257_3)).trans hw257_3), ((HB.out.cell (World.block_lt_of_cell? w _ hw257_4)).trans hw257_4), ((HB.out.cell (World.block_lt_of_cell? w _ hw257_5)).trans hw257_5), ((HB.out.cell (World.block_lt_of_cell? w _ hw258_0)).trans hw258_0), ((HB.out.cell (World.block_lt_of_cell? w _ hw258_1)).trans hw258_1), ((HB.out.cell (World.block_lt_of_cell? w _ hw258_2)).trans hw258_2), ((HB.out.cell (World.block_lt_of_cell? w _ hw258_3)).trans hw258_3), ((HB.out.cell (World.block_lt_of_cell? w _ hw258_4)).trans hw258_4), ((HB.out.cell (World.block_lt_of_cell? w _ hw258_5)).trans hw258_5)⟩ (fun hHeld => ?_)
          clear hK K
          refine norm_ (a' := ?_) ?_ ?_
          rotate_left
          ·show Act.put _ (some 40) _ = _
           simp only [Act.put, List.setIfInBounds_toArray, List.set_cons_zero, List.set_cons_succ, i64_w, i32_w]
           rfl
          refine pure_ (i := 15) (N := some 25) (v := ?_) (a' := ?_) #[true, true, true, true, true, true, true, true, true, true, true, true, true, true, true, true, false, false, false, false, false, false] rfl rfl (any_of HT_.out (by kernel_rfl)) (fun _ _ _ h => h) (Or.inl ⟨by rfl, ?_⟩) ?_ ?_
          rotate_left
          ·intro w'
           go_simp
           first | with_reducible rfl | (rw [if_neg (by simp only [ByteArray.size_append, ByteArray.size_extract, decide_eq_true_eq, eq_iff_iff, iff_true] at *; omega)]; try with_reducible rfl)
          rotate_left
          ·simp only [Act.put, List.setIfInBounds_toArray, List.set_cons_zero, List.set_cons_succ, i64_w, i32_w]
           rfl
          refine pure_ (i := 16) (N := some 41) (v := ?_) (a' := ?_) #[true, true, true, true, true, true, true, true, true, true, true, true, true, true, true, true, true, false, false, false, false, false] rfl rfl (any_of HT_.out (by kernel_rfl)) (fun _ _ _ h => h) (Or.inl ⟨by rfl, ?_⟩) ?_ ?_
          rotate_left
          ·intro w'
           go_simp
           first | with_reducible rfl | (rw [if_neg (by simp only [ByteArray.size_append, ByteArray.size_extract, decide_eq_true_eq, eq_iff_iff, iff_true] at *; omega)]; try with_reducible rfl)
          rotate_left
          ·simp only [Act.put, List.setIfInBounds_toArray, List.set_cons_zero, List.set_cons_succ, i64_w, i32_w]
           rfl
          refine pure_ (i := 17) (N := some 42) (v := ?_) (a' := ?_) #[true, true, true, true, true, true, true, true, true, true, true, true, true, true, true, true, true, true, false, false, false, false] rfl rfl (any_of HT_.out (by kernel_rfl)) (fun _ _ _ h => h) (Or.inl ⟨by rfl, ?_⟩) ?_ ?_
          rotate_left
          ·intro w'
           go_simp
           first | with_reducible rfl | (rw [if_neg (by simp only [ByteArray.size_append, ByteArray.size_extract, decide_eq_true_eq, eq_iff_iff, iff_true] at *; omega)]; try with_reducible rfl)
          rotate_left
          ·simp only [Act.put, List.setIfInBounds_toArray, List.set_cons_zero, List.set_cons_succ, i64_w, i32_w]
           rfl
          refine pure_ (i := 18) (N := some 43) (v := ?_) (a' := ?_) #[true, true, true, true, true, true, true, true, true, true, true, true, true, true, true, true, true, true, true, false, false, false] rfl rfl (any_of HT_.out (by kernel_rfl)) (fun _ _ _ h => h) (Or.inl ⟨by rfl, ?_⟩) ?_ ?_
          rotate_left
          ·intro w'
           go_simp
           first | with_reducible rfl | (rw [if_neg (by simp only [ByteArray.size_append, ByteArray.size_extract, decide_eq_true_eq, eq_iff_iff, iff_true] at *; omega)]; try with_reducible rfl)
          rotate_left
          ·simp only [Act.put, List.setIfInBounds_toArray, List.set_cons_zero, List.set_cons_succ, i64_w, i32_w]
           rfl
          refine pure_ (i := 19) (N := some 8) (v := ?_) (a' := ?_) #[true, true, true, true, true, true, true, true, true, true, true, true, true, true, true, true, true, true, true, true, false, false] rfl rfl (any_of HT_.out (by kernel_rfl)) (fun _ _ _ h => h) (Or.inl ⟨by rfl, ?_⟩) ?_ ?_
          rotate_left
          ·intro w'
           go_simp
           first | with_reducible rfl | (rw [if_neg (by simp only [ByteArray.size_append, ByteArray.size_extract, decide_eq_true_eq, eq_iff_iff, iff_true] at *; omega)]; try with_reducible rfl)
          rotate_left
          ·simp only [Act.put, List.setIfInBounds_toArray, List.set_cons_zero, List.set_cons_succ, i64_w, i32_w]
           rfl
          refine pure_ (i := 20) (N := some 9) (v := ?_) (a' := ?_) #[true, true, true, true, true, true, true, true, true, true, true, true, true, true, true, true, true, true, true, true, true, false] rfl rfl (any_of HT_.out (by kernel_rfl)) (fun _ _ _ h => h) (Or.inl ⟨by rfl, ?_⟩) ?_ ?_
          rotate_left
          ·intro w'
           go_simp
           first | with_reducible rfl | (rw [if_neg (by simp only [ByteArray.size_append, ByteArray.size_extract, decide_eq_true_eq, eq_iff_iff, iff_true] at *; omega)]; try with_reducible rfl)
          rotate_left
          ·simp only [Act.put, List.setIfInBounds_toArray, List.set_cons_zero, List.set_cons_succ, i64_w, i32_w]
           rfl
          refine pure_ (i := 21) (N := some 10) (v := ?_) (a' := ?_) #[true, true, true, true, true, true, true, true, true, true, true, true, true, true, true, true, true, true, true, true, true, true] rfl rfl (any_of HT_.out (by kernel_rfl)) (fun _ _ _ h => h) (Or.inl ⟨by rfl, ?_⟩) ?_ ?_
          rotate_left
          ·intro w'
           go_simp
           first | with_reducible rfl | (rw [if_neg (by simp only [ByteArray.size_append, ByteArray.size_extract, decide_eq_true_eq, eq_iff_iff, iff_true] at *; omega)]; try with_reducible rfl)
          rotate_left
          ·simp only [Act.put, List.setIfInBounds_toArray, List.set_cons_zero, List.set_cons_succ, i64_w, i32_w]
           rfl
          refine done_ (done_of HT_.out (by kernel_rfl)) ?_
          try go_wp2_with (first | ((with_reducible refine gate_dst (N := 46) rfl ?_); refine Kd.R_lit (Kd.int .i64) _ 3 ?hg (N := 46) ?hd (xs := ([x7_1] : List Int)) (inner := [.int .i64 x7_1]) (ok := fun _ => True) (okp := fun _ => True) ?hr ?hp (fun _ hk => hk) trivial (Below.refl _ _) (Nat.le_refl _) (by simp) ?_; (case hd => rfl); (case hg => rfl); (case hr => first | (go_simp; done) | (go_simp; rfl)); (case hp => exact (Reps.one (show Kd.M (Kd.int .i64) _ _ _ x7_1 [.int .i64 x7_1] from rfl) (Reps.none _ _))); intro v267 w20 ho21 hb hg_ hnew_; clear hg_ hnew_; (first | rw [← Ny266.out] at ho21 | (simp only [Int.reduceToNat] at ho21; rw [← Ny266.out] at ho21)); have n0_ := Aside0.mk (Kd.S_elder' (by (with_reducible repeat (first | apply Kd.S_alloc | apply Kd.S_drewN | apply Kd.S_drew)); exact HO_6.out) (Kd.R_base ho21) hb); have n1_ := Aside0.mk (Kd.R_elder' (by (with_reducible repeat (first | apply Kd.R_alloc | apply Kd.R_drewN | apply Kd.R_drew)); exact HO261.out) (Kd.R_base ho21) hb); have n2_ := Aside0.mk (Kd.R_elder' (by (with_reducible repeat (first | apply Kd.R_alloc | apply Kd.R_drewN | apply Kd.R_drew)); exact HO264.out) (Kd.R_base ho21) hb); have n3_ := Aside0.mk (Kd.R_lower (Kd.R_new' (Kd.R_new' ho21 (Kd.R_lt (by (with_reducible repeat (first | apply Kd.R_alloc | apply Kd.R_drewN | apply Kd.R_drew)); exact HO261.out))) (Kd.R_lt (by (with_reducible repeat (first | apply Kd.R_alloc | apply Kd.R_drewN | apply Kd.R_drew)); exact HO264.out))) (below_size (by repeat (first | (with_reducible first | exact HB.out | apply below_alloc | apply pw_below_drewN | apply below_drew1 | refine below_set ?_ GE254.out) | exact HB.out)))); have n4_ := Aside0.mk (blk_below (g := gb254) (o := .cells #[.int .i64 a0_0, .slice A0_1 l0_1.length c0_1, .slice (some ad257) l0_2.length c0_2] 26 (0, 0)) (by (with_reducible repeat (first | refine blk_drewN ?_ _ | refine blk_drew ?_ | refine blk_alloc ?_ _)); exact BK254.out) hb); have n5_ := Aside0.mk (below_step (by repeat (first | (with_reducible first | exact HB.out | apply below_alloc | apply pw_below_drewN | apply below_drew1 | refine below_set ?_ GE254.out) | exact HB.out)) hb); clear HO_6; clear HO261; clear HO264; clear BK254; clear HB; have HO_6 := n0_; have HO261 := n1_; have HO264 := n2_; have HO268 := n3_; have BK254 := n4_; have HB := n5_; clear n0_ n1_ n2_ n3_ n4_ n5_; clear hb ho21; obtain ⟨Ao23, co23, eo23⟩ := Kd.R_slice HO261.out; subst eo23) | ((with_reducible refine gate_builtin (b := .append) (xs := #[.tmp 46, .tmp 47]) rfl ?_); at_builtin; refine Kd.R_append_rows (Kd.int .i64) (w0 := w) w.heap.size rfl (.tmp 46) (.tmp 47) 22 3 (.int .i64 0) 8 rfl Try.underlying22 info3 rfl (by decide) (by omega) v267 y266 t259 _ _ _ (fun k_ => some k_ ≠ (.slice Ao23 t259.length co23 : Value).ownBlock ∧ some k_ ≠ (v263 : Value).ownBlock) (fun _ => False) rfl rfl ?aO ?aR (fun _ _ h => h) (fun _ h => h.elim) ?aF ?aB ?aS ?aL ?_; (case aR => repeat (first | exact (Kd.R_reads' HO261.out).2.2 | (with_reducible refine Kd.C_alloc ?_ _) | (with_reducible refine Kd.C_drewN ?_ _) | (with_reducible refine Kd.C_drew ?_))); (case aB => exact (by repeat (first | (with_reducible first | exact HB.out | apply below_alloc | apply pw_below_drewN | apply below_drew1 | refine below_set ?_ GE254.out) | exact HB.out))); (case aF => exact (fun k_ hk => ⟨Kd.fresh' (Kd.R_lt (by (with_reducible repeat (first | apply Kd.R_alloc | apply Kd.R_drewN | apply Kd.R_drew)); exact HO261.out)) k_ hk, Kd.fresh' (Kd.R_lt (by (with_reducible repeat (first | apply Kd.R_alloc | apply Kd.R_drewN | apply Kd.R_drew)); exact HO264.out)) k_ hk⟩)); (case aO => exact (by (with_reducible repeat (first | apply Kd.R_alloc | apply Kd.R_drewN | apply Kd.R_drew)); exact Kd.R_mono HO268.out (fun _ hk => ⟨hk.1.2, hk.2⟩))); (case aS => exact (below_size (by repeat (first | (with_reducible first | exact HB.out | apply below_alloc | apply pw_below_drewN | apply below_drew1 | refine below_set ?_ GE254.out) | exact HB.out)))); (case aL => have := LMc14.out; omega); intro v270 w22 ho hb hg hat; rw [← Ny269.out] at ho; have n0_ := Aside0.mk (Kd.S_after (ok := (fun k_ => some k_ ≠ (.slice Ao23 t259.length co23 : Value).ownBlock ∧ some k_ ≠ (v263 : Value).ownBlock)) (by (with_reducible repeat (first | apply Kd.S_alloc | apply Kd.S_drewN | apply Kd.S_drew)); exact Kd.S_mono HO_6.out (fun _ hk => ⟨⟨hk.1.1.2, hk.1.2⟩, hk.2⟩)) hg hat); have n1_ := Aside0.mk (blk_grown (g := gb254) (o := .cells #[.int .i64 a0_0, .slice A0_1 l0_1.length c0_1, .slice (some ad257) l0_2.length c0_2] 26 (0, 0)) (by (with_reducible repeat (first | refine blk_drewN ?_ _ | refine blk_drew ?_ | refine blk_alloc ?_ _)); exact BK254.out) hg (Kd.R_ne HO268.out BK254.out (by decide))); have n2_ := Aside0.mk (Kd.R_after (ok := (fun k_ => some k_ ≠ (v263 : Value).ownBlock)) (by (with_reducible repeat (first | apply Kd.R_alloc | apply Kd.R_drewN | apply Kd.R_drew)); exact HO261.out) hg hat); have n3_ := Aside0.mk (Kd.R_after (ok := (fun k_ => some k_ ≠ (.slice Ao23 t259.length co23 : Value).ownBlock)) (by (with_reducible repeat (first | apply Kd.R_alloc | apply Kd.R_drewN | apply Kd.R_drew)); exact HO264.out) hg hat); have n4_ := Aside0.mk (hb); have n5_ := Aside0.mk (ho); clear HO_6; clear BK254; clear HO261; clear HO264; clear HB; clear HO268; have HO_6 := n0_; have BK254 := n1_; have HO261 := n2_; have HO264 := n3_; have HB := n4_; have HO271 := n5_; clear n0_ n1_ n2_ n3_ n4_ n5_; clear ho hb hg hat) | ((with_reducible refine gate_dst (N := 49) rfl ?_); refine Kd.R_lit (Kd.int .i64) _ 3 ?hg (N := 49) ?hd (xs := ([1] : List Int)) (inner := [.int .i64 1]) (ok := fun _ => True) (okp := fun _ => True) ?hr ?hp (fun _ hk => hk) trivial (Below.refl _ _) (Nat.le_refl _) (by simp) ?_; (case hd => rfl); (case hg => rfl); (case hr => first | (go_simp; done) | (go_simp; rfl)); (case hp => exact (Reps.one (show Kd.M (Kd.int .i64) _ _ _ 1 [.int .i64 1] from rfl) (Reps.none _ _))); intro v273 w24 ho25 hb hg_ hnew_; clear hg_ hnew_; (first | rw [← Ny272.out] at ho25 | (simp only [Int.reduceToNat] at ho25; rw [← Ny272.out] at ho25)); have n0_ := Aside0.mk (Kd.S_elder' (by (with_reducible repeat (first | apply Kd.S_alloc | apply Kd.S_drewN | apply Kd.S_drew)); exact HO_6.out) (Kd.R_base ho25) hb); have n1_ := Aside0.mk (Kd.R_elder' (by (with_reducible repeat (first | apply Kd.R_alloc | apply Kd.R_drewN | apply Kd.R_drew)); exact HO261.out) (Kd.R_base ho25) hb); have n2_ := Aside0.mk (Kd.R_elder' (by (with_reducible repeat (first | apply Kd.R_alloc | apply Kd.R_drewN | apply Kd.R_drew)); exact HO264.out) (Kd.R_base ho25) hb); have n3_ := Aside0.mk (Kd.R_elder' (by (with_reducible repeat (first | apply Kd.R_alloc | apply Kd.R_drewN | apply Kd.R_drew)); exact HO271.out) (Kd.R_base ho25) hb); have n4_ := Aside0.mk (Kd.R_lower (Kd.R_new' (Kd.R_new' (Kd.R_new' ho25 (Kd.R_lt (by (with_reducible repeat (first | apply Kd.R_alloc | apply Kd.R_drewN | apply Kd.R_drew)); exact HO261.out))) (Kd.R_lt (by (with_reducible repeat (first | apply Kd.R_alloc | apply Kd.R_drewN | apply Kd.R_drew)); exact HO264.out))) (Kd.R_lt (by (with_reducible repeat (first | apply Kd.R_alloc | apply Kd.R_drewN | apply Kd.R_drew)); exact HO271.out))) (below_size (by repeat (first | (with_reducible first | exact HB.out | apply below_alloc | apply pw_below_drewN | apply below_drew1 | refine below_set ?_ GE254.out) | exact HB.out)))); have n5_ := Aside0.mk (blk_below (g := gb254) (o := .cells #[.int .i64 a0_0, .slice A0_1 l0_1.length c0_1, .slice (some ad257) l0_2.length c0_2] 26 (0, 0)) (by (with_reducible repeat (first | refine blk_drewN ?_ _ | refine blk_drew ?_ | refine blk_alloc ?_ _)); exact BK254.out) hb); have n6_ := Aside0.mk (below_step (by repeat (first | (with_reducible first | exact HB.out | apply below_alloc | apply pw_below_drewN | apply below_drew1 | refine below_set ?_ GE254.out) | exact HB.out)) hb); clear HO_6; clear HO261; clear HO264; clear HO271; clear BK254; clear HB; have HO_6 := n0_; have HO261 := n1_; have HO264 := n2_; have HO271 := n3_; have HO274 := n4_; have BK254 := n5_; have HB := n6_; clear n0_ n1_ n2_ n3_ n4_ n5_ n6_; clear hb ho25; obtain ⟨Ao27, co27, eo27⟩ := Kd.R_slice HO264.out; subst eo27) | ((with_reducible refine gate_builtin (b := .append) (xs := #[.tmp 49, .tmp 50]) rfl ?_); at_builtin; refine Kd.R_append_rows (Kd.int .i64) (w0 := w) w.heap.size rfl (.tmp 49) (.tmp 50) 22 3 (.int .i64 0) 8 rfl Try.underlying22 info3 rfl (by decide) (by omega) v273 y272 t262 _ _ _ (fun k_ => some k_ ≠ (.slice Ao23 t259.length co23 : Value).ownBlock ∧ some k_ ≠ (.slice Ao27 t262.length co27 : Value).ownBlock ∧ some k_ ≠ (v270 : Value).ownBlock) (fun _ => False) rfl rfl ?aO ?aR (fun _ _ h => h) (fun _ h => h.elim) ?aF ?aB ?aS ?aL ?_; (case aR => repeat (first | exact (Kd.R_reads' HO264.out).2.2 | (with_reducible refine Kd.C_alloc ?_ _) | (with_reducible refine Kd.C_drewN ?_ _) | (with_reducible refine Kd.C_drew ?_))); (case aB => exact (by repeat (first | (with_reducible first | exact HB.out | apply below_alloc | apply pw_below_drewN | apply below_drew1 | refine below_set ?_ GE254.out) | exact HB.out))); (case aF => exact (fun k_ hk => ⟨Kd.fresh' (Kd.R_lt (by (with_reducible repeat (first | apply Kd.R_alloc | apply Kd.R_drewN | apply Kd.R_drew)); exact HO261.out)) k_ hk, Kd.fresh' (Kd.R_lt (by (with_reducible repeat (first | apply Kd.R_alloc | apply Kd.R_drewN | apply Kd.R_drew)); exact HO264.out)) k_ hk, Kd.fresh' (Kd.R_lt (by (with_reducible repeat (first | apply Kd.R_alloc | apply Kd.R_drewN | apply Kd.R_drew)); exact HO271.out)) k_ hk⟩)); (case aO => exact (by (with_reducible repeat (first | apply Kd.R_alloc | apply Kd.R_drewN | apply Kd.R_drew)); exact Kd.R_mono HO274.out (fun _ hk => ⟨hk.1.1.2, ⟨hk.1.2, hk.2⟩⟩))); (case aS => exact (below_size (by repeat (first | (with_reducible first | exact HB.out | apply below_alloc | apply pw_below_drewN | apply below_drew1 | refine below_set ?_ GE254.out) | exact HB.out)))); (case aL => have := LMc15.out; omega); intro v276 w26 ho hb hg hat; rw [← Ny275.out] at ho; have n0_ := Aside0.mk (Kd.S_after (ok := (fun k_ => some k_ ≠ (.slice Ao23 t259.length co23 : Value).ownBlock ∧ some k_ ≠ (.slice Ao27 t262.length co27 : Value).ownBlock ∧ some k_ ≠ (v270 : Value).ownBlock)) (by (with_reducible repeat (first | apply Kd.S_alloc | apply Kd.S_drewN | apply Kd.S_drew)); exact Kd.S_mono HO_6.out (fun _ hk => ⟨⟨hk.1.1.1, ⟨hk.1.1.2, hk.1.2⟩⟩, hk.2⟩)) hg hat); have n1_ := Aside0.mk (blk_grown (g := gb254) (o := .cells #[.int .i64 a0_0, .slice A0_1 l0_1.length c0_1, .slice (some ad257) l0_2.length c0_2] 26 (0, 0)) (by (with_reducible repeat (first | refine blk_drewN ?_ _ | refine blk_drew ?_ | refine blk_alloc ?_ _)); exact BK254.out) hg (Kd.R_ne HO274.out BK254.out (by decide))); have n2_ := Aside0.mk (Kd.R_after (ok := (fun k_ => some k_ ≠ (.slice Ao27 t262.length co27 : Value).ownBlock ∧ some k_ ≠ (v270 : Value).ownBlock)) (by (with_reducible repeat (first | apply Kd.R_alloc | apply Kd.R_drewN | apply Kd.R_drew)); exact HO261.out) hg hat); have n3_ := Aside0.mk (Kd.R_after (ok := (fun k_ => some k_ ≠ (.slice Ao23 t259.length co23 : Value).ownBlock ∧ some k_ ≠ (v270 : Value).ownBlock)) (by (with_reducible repeat (first | apply Kd.R_alloc | apply Kd.R_drewN | apply Kd.R_drew)); exact HO264.out) hg hat); have n4_ := Aside0.mk (Kd.R_after (ok := (fun k_ => some k_ ≠ (.slice Ao23 t259.length co23 : Value).ownBlock ∧ some k_ ≠ (.slice Ao27 t262.length co27 : Value).ownBlock)) (by (with_reducible repeat (first | apply Kd.R_alloc | apply Kd.R_drewN | apply Kd.R_drew)); exact HO271.out) hg hat); have n5_ := Aside0.mk (hb); have n6_ := Aside0.mk (ho); clear HO_6; clear BK254; clear HO261; clear HO264; clear HO271; clear HB; clear HO274; have HO_6 := n0_; have BK254 := n1_; have HO261 := n2_; have HO264 := n3_; have HO271 := n4_; have HB := n5_; have HO277 := n6_; clear n0_ n1_ n2_ n3_ n4_ n5_ n6_; clear ho hb hg hat; obtain ⟨Ao28, co28, eo28⟩ := Kd.R_slice HO277.out; subst eo28; obtain ⟨Ao29, co29, eo29⟩ := Kd.R_slice HO271.out; subst eo29) | ((with_reducible refine gate_builtin (b := .append) (xs := #[.tmp 44, .tmp 53]) rfl ?_); at_builtin; refine Kd.S_append k41 (w0 := w) w.heap.size rfl (.tmp 44) (.tmp 53) 52 41 (.agg #[(.slice none 0 0), (.slice none 0 0)]) 48 rfl Try.underlying52 info41 rfl (by decide) (by omega) u6 x6_1 (⟨y269, y275⟩ : S41) [.slice Ao29 y269.length co29, .slice Ao28 y275.length co28] (fun k_ => some k_ ≠ (.slice Ao23 t259.length co23 : Value).ownBlock ∧ some k_ ≠ (.slice Ao27 t262.length co27 : Value).ownBlock) (fun k_ => some k_ = (.slice Ao29 y269.length co29 : Value).ownBlock ∨ some k_ = (.slice Ao28 y275.length co28 : Value).ownBlock) rfl rfl ?aP (fun k_ hk_ => hk_.elim (fun h_ => ((Kd.R_mono (ok' := fun k_ => ((fun k_ => some k_ ≠ (.slice Ao23 t259.length co23 : Value).ownBlock ∧ some k_ ≠ (.slice Ao27 t262.length co27 : Value).ownBlock)) k_ ∧ some k_ ≠ (u6 : Value).ownBlock) (Kd.R_apart' (HO271.out) (Kd.S_typed HO_6.out) (by decide)) (fun k_ hk => ⟨⟨hk.1.1.1, hk.1.1.2⟩, hk.2⟩))).1 k_ h_.symm) (fun h_ => ((Kd.R_mono (ok' := fun k_ => ((fun k_ => some k_ ≠ (.slice Ao23 t259.length co23 : Value).ownBlock ∧ some k_ ≠ (.slice Ao27 t262.length co27 : Value).ownBlock)) k_ ∧ some k_ ≠ (u6 : Value).ownBlock) (Kd.R_apart' (HO277.out) (Kd.S_typed HO_6.out) (by decide)) (fun k_ hk => ⟨⟨hk.1.1, hk.1.2.1⟩, hk.2⟩))).1 k_ h_.symm)) ?aF ?aO ?aB ?aS ?aL ?_; (case aP => exact k41_mkM _ _ _ (⟨y269, y275⟩ : S41) (Kd.R_mono (Kd.R_tight rfl (Kd.R_mono (ok' := fun k_ => ((fun k_ => some k_ ≠ (.slice Ao23 t259.length co23 : Value).ownBlock ∧ some k_ ≠ (.slice Ao27 t262.length co27 : Value).ownBlock)) k_ ∧ some k_ ≠ (u6 : Value).ownBlock) (Kd.R_apart' (HO271.out) (Kd.S_typed HO_6.out) (by decide)) (fun k_ hk => ⟨⟨hk.1.1.1, hk.1.1.2⟩, hk.2⟩))) (fun _ h_ => Or.inl h_)) (Kd.R_mono (Kd.R_tight rfl (Kd.R_mono (ok' := fun k_ => ((fun k_ => some k_ ≠ (.slice Ao23 t259.length co23 : Value).ownBlock ∧ some k_ ≠ (.slice Ao27 t262.length co27 : Value).ownBlock)) k_ ∧ some k_ ≠ (u6 : Value).ownBlock) (Kd.R_apart' (HO277.out) (Kd.S_typed HO_6.out) (by decide)) (fun k_ hk => ⟨⟨hk.1.1, hk.1.2.1⟩, hk.2⟩))) (fun _ h_ => Or.inr (h_)))); (case aB => exact (by repeat (first | (with_reducible first | exact HB.out | apply below_alloc | apply pw_below_drewN | apply below_drew1 | refine below_set ?_ GE254.out) | exact HB.out))); (case aF => exact (fun k_ hk => ⟨Kd.fresh' (Kd.R_lt (by (with_reducible repeat (first | apply Kd.R_alloc | apply Kd.R_drewN | apply Kd.R_drew)); exact HO261.out)) k_ hk, Kd.fresh' (Kd.R_lt (by (with_reducible repeat (first | apply Kd.R_alloc | apply Kd.R_drewN | apply Kd.R_drew)); exact HO264.out)) k_ hk⟩)); (case aO => exact (by (with_reducible repeat (first | apply Kd.S_alloc | apply Kd.S_drewN | apply Kd.S_drew)); exact Kd.S_mono HO_6.out (fun k_ hk => ⟨⟨hk.1.1, hk.1.2.1⟩, fun e_ => e_.elim (fun h_ => hk.1.2.2 h_) (fun h_ => hk.2 h_)⟩))); (case aS => exact (below_size (by repeat (first | (with_reducible first | exact HB.out | apply below_alloc | apply pw_below_drewN | apply below_drew1 | refine below_set ?_ GE254.out) | exact HB.out)))); (case aL => have := LMc16.out; omega); intro v279 w30 ho hb hg hat; rw [← Ny278.out] at ho; have n0_ := Aside0.mk (blk_grown (g := gb254) (o := .cells #[.int .i64 a0_0, .slice A0_1 l0_1.length c0_1, .slice (some ad257) l0_2.length c0_2] 26 (0, 0)) (by (with_reducible repeat (first | refine blk_drewN ?_ _ | refine blk_drew ?_ | refine blk_alloc ?_ _)); exact BK254.out) hg (Kd.S_ne HO_6.out BK254.out (by decide))); have n1_ := Aside0.mk (Kd.R_over' (by (with_reducible repeat (first | apply Kd.R_alloc | apply Kd.R_drewN | apply Kd.R_drew)); exact HO261.out) (Kd.S_typed (by (with_reducible repeat (first | apply Kd.S_alloc | apply Kd.S_drewN | apply Kd.S_drew)); exact HO_6.out)) (by decide) hg); have n2_ := Aside0.mk (Kd.R_over' (by (with_reducible repeat (first | apply Kd.R_alloc | apply Kd.R_drewN | apply Kd.R_drew)); exact HO264.out) (Kd.S_typed (by (with_reducible repeat (first | apply Kd.S_alloc | apply Kd.S_drewN | apply Kd.S_drew)); exact HO_6.out)) (by decide) hg); have n3_ := Aside0.mk (hb); have n4_ := Aside0.mk (ho); clear BK254; clear HO261; clear HO264; clear HB; clear HO_6; clear HO271; clear HO277; have BK254 := n0_; have HO261 := n1_; have HO264 := n2_; have HB := n3_; have HO280 := n4_; clear n0_ n1_ n2_ n3_ n4_; clear ho hb hg hat))
          go_roundg k1
          case measure => have := HK1.out; omega
          case rel => exact ⟨(y278), (wrap64 (x7_1 + 1)), (by first | rfl | (simp; done) | (simp [*]; done)), H', ⟨by have := HK1.out; omega⟩, ⟨by (with_reducible repeat (first | apply Kd.S_alloc | apply Kd.S_drewN | apply Kd.S_drew)); exact Kd.S_mono HO280.out (fun _ hk => trivial)⟩, ⟨by (with_reducible repeat (first | refine blk_drewN ?_ _ | refine blk_drew ?_ | refine blk_alloc ?_ _)); exact BK254.out⟩, ⟨by repeat (first | (with_reducible first | exact HB.out | apply below_alloc | apply pw_below_drewN | apply below_drew1 | refine below_set ?_ GE254.out) | exact HB.out)⟩⟩
         ·rw [if_neg c16] at H
          exact absurd H (by simp)
        ·rw [if_neg c15] at H
         exact absurd H (by simp)
       ·rw [if_neg c14] at H
        exact absurd H (by simp)
      ·rw [if_neg c12] at H
       exact absurd H (by simp)
    ·rw [if_neg c8] at H
     have c8b0 : decide (x7_1 < (l0_2.length : Int)) = false := decide_eq_false c8
     clear c8
     simp only [Option.some.injEq, Prod.mk.injEq] at H
     obtain ⟨rfl, rfl⟩ := H
     have hcz31_0 : wr.cell? ⟨gb254, 0, none⟩ = some (.int .i64 a0_0) := (blk_cell BK254.out 0).trans rfl
     have hcz31_1 : wr.cell? ⟨gb254, 1, none⟩ = some (.slice A0_1 l0_1.length c0_1) := (blk_cell BK254.out 1).trans rfl
     have hcz31_2 : wr.cell? ⟨gb254, 2, none⟩ = some (.slice A0_2 l0_2.length c0_2) := (blk_cell BK254.out 2).trans rfl
     have hfz31_0 := blk_frozen BK254.out 0
     have hfz31_1 := blk_frozen BK254.out 1
     have hfz31_2 := blk_frozen BK254.out 2
     go_wp2
     go_ret2
     exact ⟨_, by first | rfl | (simp [errW_none, errW_some] <;> rfl) | (simp [*, errW_none, errW_some] <;> rfl), by (with_reducible repeat (first | apply Kd.S_alloc | apply Kd.S_drewN | apply Kd.S_drew)); exact HO_6.out, by repeat (first | (with_reducible first | exact HB.out | apply below_alloc | apply pw_below_drewN | apply below_drew1 | refine below_set ?_ GE254.out) | exact HB.out)⟩
 ·replace c4 := Bool.eq_false_iff.mpr c4
  subst c4
  have H1 : (some (([] : List (S41)), 1)) = some (r1, r2) := by rw [if_neg (show ¬ (false = true) by decide)] at H; exact H
  clear H
  have H := H1
  clear H1
  simp only [Option.some.injEq, Prod.mk.injEq] at H
  obtain ⟨rfl, rfl⟩ := H
  go_enter Try.func45, Try.ntmps45
  go_wp2_with (first | ((with_reducible refine gate_dst (N := 2) rfl ?_); refine box_event ?hg (N := 2) ?hd (cs := #[.int .i64 a0_0, .slice A0_1 l0_1.length c0_1, .slice A0_2 l0_2.length c0_2]) (t := 26) ?hr ?_; (case hd => rfl); (case hg => rfl); (case hr => first | (go_simp; done) | (go_simp; rfl)); intro gb254 hg w32 hbox hb; have n0_ := Aside0.mk (below_step (by repeat (first | (with_reducible first | exact HB.out | apply below_alloc | apply pw_below_drewN | apply below_drew1) | exact HB.out)) hb); have n1_ := Aside0.mk (hbox); have n2_ := Aside0.mk ((by rw [hg]; exact (below_size (by repeat (first | (with_reducible first | exact HB.out | apply below_alloc | apply pw_below_drewN | apply below_drew1) | exact HB.out))) : w.heap.size ≤ gb254)); have n3_ := Aside0.mk ((by rw [hg]; exact (below_size (by repeat (first | (with_reducible first | exact HB.out | apply below_alloc | apply pw_below_drewN | apply below_drew1) | exact HB.out))) : w.heap.size ≤ gb254)); clear HB; have HB := n0_; have BK254 := n1_; have GW254 := n2_; have GE254 := n3_; clear n0_ n1_ n2_ n3_; clear hb hbox hg; have hcz33_0 : w32.cell? ⟨gb254, 0, none⟩ = some (.int .i64 a0_0) := (blk_cell BK254.out 0).trans rfl; have hcz33_1 : w32.cell? ⟨gb254, 1, none⟩ = some (.slice A0_1 l0_1.length c0_1) := (blk_cell BK254.out 1).trans rfl; have hcz33_2 : w32.cell? ⟨gb254, 2, none⟩ = some (.slice A0_2 l0_2.length c0_2) := (blk_cell BK254.out 2).trans rfl; have hfz33_0 := blk_frozen BK254.out 0; have hfz33_1 := blk_frozen BK254.out 1; have hfz33_2 := blk_frozen BK254.out 2) | ((with_reducible refine gate_callee (f := 52) rfl ?_); refine goesL_ (some 13) rfl rfl Try.func52 (by kernel_rfl) rfl #[.agg #[.int .i64 a0_0, .slice A0_1 l0_1.length c0_1, .slice A0_2 l0_2.length c0_2], .slice A1 l1.length c1] rfl (by (try simp only [List.map_toArray, List.map_cons, List.map_nil]); first | done | rfl | (simp only [List.length_drop, List.length_take]; rfl)) ?_; (with_reducible refine (railplanref11_Forest.calls a0_0 _ _ l0_1 _ _ l0_2 _ _ l1 false _ ?side1 ?side2 ?side3 ?side4 ?side5 ?side6 A3.out).mono ?_); (case side1 => repeat (first | exact (Kd.C_below HR0_1.out HB.out) | (with_reducible refine Kd.C_alloc ?_ _) | (with_reducible refine Kd.C_drewN ?_ _) | (with_reducible refine Kd.C_drew ?_))); (case side2 => exact HC0_1.out); (case side3 => repeat (first | exact (Kd.C_below HR0_2.out HB.out) | (with_reducible refine Kd.C_alloc ?_ _) | (with_reducible refine Kd.C_drewN ?_ _) | (with_reducible refine Kd.C_drew ?_))); (case side4 => exact HC0_2.out); (case side5 => repeat (first | exact (Kd.C_below HR1.out HB.out) | (with_reducible refine Kd.C_alloc ?_ _) | (with_reducible refine Kd.C_drewN ?_ _) | (with_reducible refine Kd.C_drew ?_))); (case side6 => exact HC1.out); rintro e w34 ⟨rfl, hb⟩; refine ⟨_, rfl, ?_⟩; have n0_ := Aside0.mk (blk_below (g := gb254) (o := .cells #[.int .i64 a0_0, .slice A0_1 l0_1.length c0_1, .slice A0_2 l0_2.length c0_2] 26 (0, 0)) (by (with_reducible repeat (first | refine blk_drewN ?_ _ | refine blk_drew ?_ | refine blk_alloc ?_ _)); exact BK254.out) hb); have n1_ := Aside0.mk (below_step (by repeat (first | (with_reducible first | exact HB.out | apply below_alloc | apply pw_below_drewN | apply below_drew1 | refine below_set ?_ GE254.out) | exact HB.out)) hb); clear BK254; clear HB; have BK254 := n0_; have HB := n1_; clear n0_ n1_; (try clear hb); (try clear hb2); (try clear hk); (try clear hi)))
  go_ret2
  exact ⟨_, by first | rfl | (simp [errW_none, errW_some] <;> rfl) | (simp [*, errW_none, errW_some] <;> rfl), by first | exact Kd.S_nil _ _ _ _ _ | exact Kd.N_nil _ _ _ _ _ | exact Kd.V_nil _ _ _ _ _ | exact Kd.Q_nil _ _ _ _ _ | exact Kd.R_nil _ _ _ _ _, by repeat (first | (with_reducible first | exact HB.out | apply below_alloc | apply pw_below_drewN | apply below_drew1 | refine below_set ?_ GE254.out) | exact HB.out)⟩
end Go.Proofs.Ytbkjplomoegbdaa.PB
