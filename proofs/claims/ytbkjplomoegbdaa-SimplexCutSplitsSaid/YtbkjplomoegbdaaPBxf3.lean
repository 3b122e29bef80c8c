/- Written by a program of this claim (the kit's print, with changes): Go functions as Lean functions, and the proofs that the calls come to just these; or the row of a law. No condition of its own. -/
import Derived.Test.YtbkjplomoegbdaaPBx0
import Derived.Test.YtbkjplomoegbdaaPBxf31
import Derived.Test.YtbkjplomoegbdaaPBxf32
import Derived.Test.YtbkjplomoegbdaaPBxf33
import Derived.Test.YtbkjplomoegbdaaPBxf34
import Derived.Test.YtbkjplomoegbdaaPBxf35
namespace Go.Proofs.Ytbkjplomoegbdaa.PB
open Go.RowKit Go.Proofs.YtbkjplomoegbdaaW.PrintWords Go.Proofs.YtbkjplomoegbdaaW.PrintLast Go.Proofs.YtbkjplomoegbdaaW.PrintMore
attribute [local go_sem] max2_int min2_int max_two min_two max_three min_three max_four min_four   -- for this text's walks alone
set_option linter.unusedVariables false
set_option linter.unusedSimpArgs false

/-! ### railplanlaw16_SimplexCutSplits: function 3 -/
mutual
def railplanlaw16_SimplexCutSplits.j0 : Nat → List Int → Int → List Bool → Bool → Int → List (S97) → List (S36) → Option (Bool)
 | 0, _, _, _, _, _, _, _ => none
 | k + 1, x6, x7, x8, x43, x213000, x213001, x213002 => if x43 = true then (some false) else (railplanlaw16_SimplexCutSplits.l0 k x6 x7 x8 (x6.length : Int) 0 x213000 x213001 x213002)
def railplanlaw16_SimplexCutSplits.l0 : Nat → List Int → Int → List Bool → Int → Int → Int → List (S97) → List (S36) → Option (Bool)
 | 0, _, _, _, _, _, _, _, _ => none
 | k + 1, x6, x7, x8, x45, x46, x213000, x213001, x213002 => if x46 < x45 then (if 0 ≤ x46 then (if x46 < (x6.length : Int) then (if 0 ≤ (rd x6 x46) then (if (rd x6 x46) < (x213002.length : Int) then (if 0 ≤ ((rd_T36 x213002 (rd x6 x46)).f1) then (if ((rd_T36 x213002 (rd x6 x46)).f1) < (x8.length : Int) then (if 0 ≤ ((rd_T36 x213002 (rd x6 x46)).f2) then (if ((rd_T36 x213002 (rd x6 x46)).f2) < (x8.length : Int) then (if (((rdOf false x8 ((rd_T36 x213002 (rd x6 x46)).f1)) == (rdOf false x8 ((rd_T36 x213002 (rd x6 x46)).f2))) == ((rd x6 x46) == x7)) = true then (some false) else (railplanlaw16_SimplexCutSplits.l0 k x6 x7 x8 x45 (wrap64 (x46 + 1)) x213000 x213001 x213002)) else (none)) else (none)) else (none)) else (none)) else (none)) else (none)) else (none)) else (none)) else ((railplanlaw16_awake.f k).bind fun t229 => (if t229 = true then (if 0 ≤ x7 then (if x7 < (x213002.length : Int) then (if 0 ≤ ((rd_T36 x213002 x7).f2) then (if ((rd_T36 x213002 x7).f2) < (x8.length : Int) then (if rdOf false x8 ((rd_T36 x213002 x7).f2) = true then (if 0 ≤ ((rd_T36 x213002 x7).f1) then (if ((rd_T36 x213002 x7).f1) < (x8.length : Int) then (some (!(rdOf false x8 ((rd_T36 x213002 x7).f1)))) else (none)) else (none)) else (some false)) else (none)) else (none)) else (none)) else (none)) else (some false)))
end
def railplanlaw16_SimplexCutSplits.f (k : Nat) (l0 : List Int) (a1 : Int) : Option (Bool) := (railplankeep_Network.f k l0).bind fun bt205 => ((railplanref11_Tree.f k bt205.1 bt205.2.1 bt205.2.2).bind fun t213 => (if (t213.length : Int) = 0 then ((railplanlaw16_awake.f k).bind fun t216 => (some t216)) else ((railplankeep_Pick.f a1 (t213.length : Int)).bind fun t217 => (if 0 ≤ t217 then (if t217 < (t213.length : Int) then ((simplex_Cut.f k bt205.1 bt205.2.1 bt205.2.2 t213 (rd t213 t217)).bind fun bt219 => (if bt219.2 = 0 then (railplanlaw16_SimplexCutSplits.j0 k t213 (rd t213 t217) bt219.1 ((bt219.1.length : Int) != (bt205.2.1.length : Int)) bt205.1 bt205.2.1 bt205.2.2) else (railplanlaw16_SimplexCutSplits.j0 k t213 (rd t213 t217) bt219.1 true bt205.1 bt205.2.1 bt205.2.2))) else (none)) else (none)))))
theorem railplanlaw16_SimplexCutSplits.mono_l : ∀ k, (∀ y0 y1 y2 y3 y4 y5 y6, LeO (railplanlaw16_SimplexCutSplits.j0 k y0 y1 y2 y3 y4 y5 y6) (railplanlaw16_SimplexCutSplits.j0 (k + 1) y0 y1 y2 y3 y4 y5 y6)) ∧ (∀ y0 y1 y2 y3 y4 y5 y6 y7, LeO (railplanlaw16_SimplexCutSplits.l0 k y0 y1 y2 y3 y4 y5 y6 y7) (railplanlaw16_SimplexCutSplits.l0 (k + 1) y0 y1 y2 y3 y4 y5 y6 y7))
 | 0 => ⟨fun _ _ _ _ _ _ _ r h => by simp [railplanlaw16_SimplexCutSplits.j0] at h, fun _ _ _ _ _ _ _ _ r h => by simp [railplanlaw16_SimplexCutSplits.l0] at h⟩
 | k + 1 => by
  obtain ⟨ih0, ih1⟩ := railplanlaw16_SimplexCutSplits.mono_l k
  refine ⟨?_, ?_⟩
  ·intro y0 y1 y2 y3 y4 y5 y6
   unfold railplanlaw16_SimplexCutSplits.j0
   repeat' first
   | (with_reducible exact ih0 _ _ _ _ _ _ _)
   | (with_reducible exact ih1 _ _ _ _ _ _ _ _)
   | (with_reducible exact railplankeep_Network.mono _ _)
   | (with_reducible exact railplanlaw16_awake.mono _)
   | (with_reducible exact railplanref11_Tree.mono _ _ _ _)
   | (with_reducible exact simplex_Cut.mono _ _ _ _ _ _)
   | (with_reducible exact LeO.refl _)
   | (with_reducible exact LeO.none _)
   | (with_reducible refine LeO.ite ?_ ?_)
   | (with_reducible refine LeO.bind ?_ (fun _ => ?_))
   | exact ih0 _ _ _ _ _ _ _
   | exact ih1 _ _ _ _ _ _ _ _
   | exact railplankeep_Network.mono _ _
   | exact railplanlaw16_awake.mono _
   | exact railplanref11_Tree.mono _ _ _ _
   | exact simplex_Cut.mono _ _ _ _ _ _
   | exact LeO.none _
   | refine LeO.ite ?_ ?_
   | refine LeO.bind ?_ (fun _ => ?_)
  ·intro y0 y1 y2 y3 y4 y5 y6 y7
   unfold railplanlaw16_SimplexCutSplits.l0
   repeat' first
   | (with_reducible exact ih0 _ _ _ _ _ _ _)
   | (with_reducible exact ih1 _ _ _ _ _ _ _ _)
   | (with_reducible exact railplankeep_Network.mono _ _)
   | (with_reducible exact railplanlaw16_awake.mono _)
   | (with_reducible exact railplanref11_Tree.mono _ _ _ _)
   | (with_reducible exact simplex_Cut.mono _ _ _ _ _ _)
   | (with_reducible exact LeO.refl _)
   | (with_reducible exact LeO.none _)
   | (with_reducible refine LeO.ite ?_ ?_)
   | (with_reducible refine LeO.bind ?_ (fun _ => ?_))
   | exact ih0 _ _ _ _ _ _ _
   | exact ih1 _ _ _ _ _ _ _ _
   | exact railplankeep_Network.mono _ _
   | exact railplanlaw16_awake.mono _
   | exact railplanref11_Tree.mono _ _ _ _
   | exact simplex_Cut.mono _ _ _ _ _ _
   | exact LeO.none _
   | refine LeO.ite ?_ ?_
   | refine LeO.bind ?_ (fun _ => ?_)
theorem railplanlaw16_SimplexCutSplits.mono : ∀ a0 a1 k, LeO (railplanlaw16_SimplexCutSplits.f k a0 a1) (railplanlaw16_SimplexCutSplits.f (k + 1) a0 a1) := by
 intro a0 a1 k
 obtain ⟨ih0, ih1⟩ := railplanlaw16_SimplexCutSplits.mono_l k
 unfold railplanlaw16_SimplexCutSplits.f
 repeat' first
   | (with_reducible exact ih0 _ _ _ _ _ _ _)
   | (with_reducible exact ih1 _ _ _ _ _ _ _ _)
   | (with_reducible exact railplankeep_Network.mono _ _)
   | (with_reducible exact railplanlaw16_awake.mono _)
   | (with_reducible exact railplanref11_Tree.mono _ _ _ _)
   | (with_reducible exact simplex_Cut.mono _ _ _ _ _ _)
   | (with_reducible exact LeO.refl _)
   | (with_reducible exact LeO.none _)
   | (with_reducible refine LeO.ite ?_ ?_)
   | (with_reducible refine LeO.bind ?_ (fun _ => ?_))
   | exact ih0 _ _ _ _ _ _ _
   | exact ih1 _ _ _ _ _ _ _ _
   | exact railplankeep_Network.mono _ _
   | exact railplanlaw16_awake.mono _
   | exact railplanref11_Tree.mono _ _ _ _
   | exact simplex_Cut.mono _ _ _ _ _ _
   | exact LeO.none _
   | refine LeO.ite ?_ ?_
   | refine LeO.bind ?_ (fun _ => ?_)
def railplanlaw16_SimplexCutSplits.T12 : Bool × List (List Nat × List Nat) := (true, [([], []), ([0], [0]), ([], []), ([], []), ([2, 3], [2, 3]), ([4], [4]), ([1, 5], [1, 5]), ([6], [6]), ([], []), ([8, 7, 0, 1, 2, 3, 4, 5, 6, 7, 8], [7, 8])])
def railplanlaw16_SimplexCutSplits.B12 : List Nat := [0, 1, 0, 0, 12, 28, 63, 127, 0, 511]
theorem railplanlaw16_SimplexCutSplits.tab12 : rtab .any (opsOf Try.f3 12) = railplanlaw16_SimplexCutSplits.T12 := by kernel_rfl
theorem railplanlaw16_SimplexCutSplits.bits12 : waitsOk railplanlaw16_SimplexCutSplits.T12.2 railplanlaw16_SimplexCutSplits.B12 = true := by kernel_rfl
def railplanlaw16_SimplexCutSplits.T13 : Bool × List (List Nat × List Nat) := (true, [([], []), ([], []), ([1], [1]), ([0, 2], [0, 2]), ([3], [3]), ([], []), ([], []), ([6], [6]), ([5, 7], [5, 7]), ([8], [8]), ([4, 9], [4, 9]), ([], []), ([], []), ([11, 12], [11, 12]), ([13], [13]), ([], []), ([14, 15], [14, 15]), ([10, 16], [10, 16])])
def railplanlaw16_SimplexCutSplits.B13 : List Nat := [0, 0, 2, 7, 15, 0, 0, 64, 224, 480, 1023, 0, 0, 6144, 14336, 0, 63488, 131071]
theorem railplanlaw16_SimplexCutSplits.tab13 : rtab .any (opsOf Try.f3 13) = railplanlaw16_SimplexCutSplits.T13 := by kernel_rfl
theorem railplanlaw16_SimplexCutSplits.bits13 : waitsOk railplanlaw16_SimplexCutSplits.T13.2 railplanlaw16_SimplexCutSplits.B13 = true := by kernel_rfl
set_option maxHeartbeats 8000000 in
set_option maxRecDepth 100000 in
theorem railplanlaw16_SimplexCutSplits.calls (k : Nat) (A0 : Option Addr) (c0 : Nat) (l0 : List Int) (a1 : Int) (r : Bool) (w : World) (hr0 : Kd.C (Kd.int .i64) w A0 l0.length l0) (hc0 : l0.length ≤ c0) (h : railplanlaw16_SimplexCutSplits.f k l0 a1 = some r) :
  Calls Try.prog 3 #[.slice A0 l0.length c0, .int .i64 a1] w fun e w' => e = .returned (.bool r) ∧ Below w.heap.size w w' := by
 have hu26 := Try.underlying26
 have hu36 := Try.underlying36
 have HR0 := Aside0.mk hr0
 have HC0 := Aside0.mk hc0
 clear hr0 hc0
 have HB := Aside0.mk (Below.refl w.heap.size w)
 have H : ((railplankeep_Network.f k l0).bind fun bt205 => ((railplanref11_Tree.f k bt205.1 bt205.2.1 bt205.2.2).bind fun t213 => (if (t213.length : Int) = 0 then ((railplanlaw16_awake.f k).bind fun t216 => (some t216)) else ((railplankeep_Pick.f a1 (t213.length : Int)).bind fun t217 => (if 0 ≤ t217 then (if t217 < (t213.length : Int) then ((simplex_Cut.f k bt205.1 bt205.2.1 bt205.2.2 t213 (rd t213 t217)).bind fun bt219 => (if bt219.2 = 0 then (railplanlaw16_SimplexCutSplits.j0 k t213 (rd t213 t217) bt219.1 ((bt219.1.length : Int) != (bt205.2.1.length : Int)) bt205.1 bt205.2.1 bt205.2.2) else (railplanlaw16_SimplexCutSplits.j0 k t213 (rd t213 t217) bt219.1 true bt205.1 bt205.2.1 bt205.2.2))) else (none)) else (none)))))) = some r := h
 clear h
 replace H := Option.bind_eq_some_iff.mp H
 obtain ⟨⟨t205, t206, t209⟩, A30, H⟩ := H
 replace H : ((railplanref11_Tree.f k t205 t206 t209).bind fun t213 => (if (t213.length : Int) = 0 then ((railplanlaw16_awake.f k).bind fun t216 => (some t216)) else ((railplankeep_Pick.f a1 (t213.length : Int)).bind fun t217 => (if 0 ≤ t217 then (if t217 < (t213.length : Int) then ((simplex_Cut.f k t205 t206 t209 t213 (rd t213 t217)).bind fun bt219 => (if bt219.2 = 0 then (railplanlaw16_SimplexCutSplits.j0 k t213 (rd t213 t217) bt219.1 ((bt219.1.length : Int) != (t206.length : Int)) t205 t206 t209) else (railplanlaw16_SimplexCutSplits.j0 k t213 (rd t213 t217) bt219.1 true t205 t206 t209))) else (none)) else (none))))) = some r := H
 have A3 := Aside0.mk A30
 clear A30
 replace H := Option.bind_eq_some_iff.mp H
 obtain ⟨t213, A40, H⟩ := H
 replace H : (if (t213.length : Int) = 0 then ((railplanlaw16_awake.f k).bind fun t216 => (some t216)) else ((railplankeep_Pick.f a1 (t213.length : Int)).bind fun t217 => (if 0 ≤ t217 then (if t217 < (t213.length : Int) then ((simplex_Cut.f k t205 t206 t209 t213 (rd t213 t217)).bind fun bt219 => (if bt219.2 = 0 then (railplanlaw16_SimplexCutSplits.j0 k t213 (rd t213 t217) bt219.1 ((bt219.1.length : Int) != (t206.length : Int)) t205 t206 t209) else (railplanlaw16_SimplexCutSplits.j0 k t213 (rd t213 t217) bt219.1 true t205 t206 t209))) else (none)) else (none)))) = some r := H
 have A4 := Aside0.mk A40
 clear A40
 by_cases c5 : (t213.length : Int) = 0
 ·rw [if_pos c5] at H
  have c5b0 : ((t213.length : Int) == 0) = true := beq_iff_eq.mpr c5
  have c5b1 : ((t213.length : Int) != 0) = false := bne_eq_false_iff_eq.mpr c5
  clear c5
  replace H := Option.bind_eq_some_iff.mp H
  obtain ⟨t216, A60, H⟩ := H
  replace H : (some t216) = some r := H
  have A6 := Aside0.mk A60
  clear A60
  obtain rfl := Option.some.inj H
  go_enter Try.func3, Try.ntmps3
  go_wp2_with (first | ((with_reducible refine gate_callee (f := 31) rfl ?_); refine goesL_ (some 13) rfl rfl Try.func31 (by kernel_rfl) rfl #[.slice A0 l0.length c0] rfl (by (try simp only [List.map_toArray, List.map_cons, List.map_nil]); first | done | rfl | (simp only [List.length_drop, List.length_take]; rfl)) ?_; (with_reducible refine (railplankeep_Network.calls k _ _ l0 t205 t206 t209 _ ?side1 ?side2 A3.out).mono ?_); (case side1 => repeat (first | exact HR0.out | (with_reducible refine Kd.C_alloc ?_ _) | (with_reducible refine Kd.C_drewN ?_ _) | (with_reducible refine Kd.C_drew ?_))); (case side2 => exact HC0.out); rintro e w7 ⟨v207, v210, rfl, ho0, ho1, hb⟩; refine ⟨_, rfl, ?_⟩; have n0_ := Aside0.mk (Kd.R_lower ho0 (below_size (by repeat (first | (with_reducible first | exact HB.out | apply below_alloc | apply pw_below_drewN | apply below_drew1) | exact HB.out)))); have n1_ := Aside0.mk (Kd.R_lower ho1 (below_size (by repeat (first | (with_reducible first | exact HB.out | apply below_alloc | apply pw_below_drewN | apply below_drew1) | exact HB.out)))); have n2_ := Aside0.mk (below_step (by repeat (first | (with_reducible first | exact HB.out | apply below_alloc | apply pw_below_drewN | apply below_drew1) | exact HB.out)) hb); clear HB; have HO208 := n0_; have HO211 := n1_; have HB := n2_; clear n0_ n1_ n2_; (try clear hb); (try clear hb2); (try clear hk); (try clear hi); (try clear ho0); (try clear ho1)) | ((with_reducible refine gate_dst (N := 5) rfl ?_); (try (refine gate_guard (by rfl) ?_; dsimp only)); refine box_event ?hg (N := 5) ?hd (cs := #[.int .i64 0, .slice none 0 0, .slice none 0 0]) (t := 26) ?hr ?_; (case hd => rfl); (case hg => rfl); (case hr => first | (go_simp; done) | (go_simp; rfl)); intro gb212 hg w8 hbox hb; have n0_ := Aside0.mk (Kd.R_below (by (with_reducible repeat (first | apply Kd.R_alloc | apply Kd.R_drewN | apply Kd.R_drew)); exact HO208.out) hb); have n1_ := Aside0.mk (Kd.R_below (by (with_reducible repeat (first | apply Kd.R_alloc | apply Kd.R_drewN | apply Kd.R_drew)); exact HO211.out) hb); have n2_ := Aside0.mk (below_step (by repeat (first | (with_reducible first | exact HB.out | apply below_alloc | apply pw_below_drewN | apply below_drew1) | exact HB.out)) hb); have n3_ := Aside0.mk (hbox); have n4_ := Aside0.mk ((by rw [hg]; exact (below_size (by repeat (first | (with_reducible first | exact HB.out | apply below_alloc | apply pw_below_drewN | apply below_drew1) | exact HB.out))) : w.heap.size ≤ gb212)); have n5_ := Aside0.mk ((by rw [hg]; exact (below_size (by repeat (first | (with_reducible first | exact HB.out | apply below_alloc | apply pw_below_drewN | apply below_drew1) | exact HB.out))) : w.heap.size ≤ gb212)); clear HO208; clear HO211; clear HB; have HO208 := n0_; have HO211 := n1_; have HB := n2_; have BK212 := n3_; have GW212 := n4_; have GE212 := n5_; clear n0_ n1_ n2_ n3_ n4_ n5_; clear hb hbox hg; have hcz9_0 : w8.cell? ⟨gb212, 0, none⟩ = some (.int .i64 0) := (blk_cell BK212.out 0).trans rfl; have hcz9_1 : w8.cell? ⟨gb212, 1, none⟩ = some (.slice none 0 0) := (blk_cell BK212.out 1).trans rfl; have hcz9_2 : w8.cell? ⟨gb212, 2, none⟩ = some (.slice none 0 0) := (blk_cell BK212.out 2).trans rfl; have hfz9_0 := blk_frozen BK212.out 0; have hfz9_1 := blk_frozen BK212.out 1; have hfz9_2 := blk_frozen BK212.out 2; obtain ⟨Ao10, co10, eo10⟩ := Kd.R_slice HO208.out; subst eo10; obtain ⟨Ao11, co11, eo11⟩ := Kd.R_slice HO211.out; subst eo11) | ((with_reducible refine gate_callee (f := 32) rfl ?_); refine goesL_ (some 15) rfl rfl Try.func32 (by kernel_rfl) rfl #[.agg #[.int .i64 t205, .slice Ao10 t206.length co10, .slice Ao11 t209.length co11]] rfl (by (try simp only [List.map_toArray, List.map_cons, List.map_nil]); first | done | rfl | (simp only [List.length_drop, List.length_take]; rfl)) ?_; (with_reducible refine (railplanref11_Tree.calls k t205 _ _ t206 _ _ t209 t213 _ ?side1 ?side2 ?side3 ?side4 A4.out).mono ?_); (case side1 => refine (Kd.R_reads' (e := 97) (base := w.heap.size) (ok := fun k_ => True) (n := t206.length) (c := co10) ?_).2.2; exact (by (with_reducible repeat (first | apply Kd.R_alloc | apply Kd.R_drewN | apply Kd.R_drew)); exact (Kd.R_mono (Kd.R_far (p := ⟨gb212, 2, none⟩) (Kd.R_far (p := ⟨gb212, 1, none⟩) (Kd.R_far (p := ⟨gb212, 0, none⟩) (Kd.R_types HO208.out BK212.out (by decide)) (fun _ hk => hk.2) (.int .i64 t205)) (fun _ hk => hk.2) (.slice Ao10 t206.length co10)) (fun _ hk => hk.2) (.slice Ao11 t209.length co11)) (fun _ h_ => h_.1)))); (case side2 => exact (Kd.R_reads' HO208.out).2.1); (case side3 => refine (Kd.R_reads' (e := 36) (base := w.heap.size) (ok := fun k_ => True) (n := t209.length) (c := co11) ?_).2.2; exact (by (with_reducible repeat (first | apply Kd.R_alloc | apply Kd.R_drewN | apply Kd.R_drew)); exact (Kd.R_mono (Kd.R_far (p := ⟨gb212, 2, none⟩) (Kd.R_far (p := ⟨gb212, 1, none⟩) (Kd.R_far (p := ⟨gb212, 0, none⟩) (Kd.R_types HO211.out BK212.out (by decide)) (fun _ hk => hk.2) (.int .i64 t205)) (fun _ hk => hk.2) (.slice Ao10 t206.length co10)) (fun _ hk => hk.2) (.slice Ao11 t209.length co11)) (fun _ h_ => h_.1)))); (case side4 => exact (Kd.R_reads' HO211.out).2.1); rintro e w12 ⟨v214, rfl, ho0, hb⟩; refine ⟨_, rfl, ?_⟩; have n0_ := Aside0.mk (Kd.R_below (by (with_reducible repeat (first | apply Kd.R_alloc | apply Kd.R_drewN | apply Kd.R_drew)); exact (Kd.R_mono (Kd.R_far (p := ⟨gb212, 2, none⟩) (Kd.R_far (p := ⟨gb212, 1, none⟩) (Kd.R_far (p := ⟨gb212, 0, none⟩) (Kd.R_types HO208.out BK212.out (by decide)) (fun _ hk => hk.2) (.int .i64 t205)) (fun _ hk => hk.2) (.slice Ao10 t206.length co10)) (fun _ hk => hk.2) (.slice Ao11 t209.length co11)) (fun _ h_ => h_.1))) hb); have n1_ := Aside0.mk (Kd.R_below (by (with_reducible repeat (first | apply Kd.R_alloc | apply Kd.R_drewN | apply Kd.R_drew)); exact (Kd.R_mono (Kd.R_far (p := ⟨gb212, 2, none⟩) (Kd.R_far (p := ⟨gb212, 1, none⟩) (Kd.R_far (p := ⟨gb212, 0, none⟩) (Kd.R_types HO211.out BK212.out (by decide)) (fun _ hk => hk.2) (.int .i64 t205)) (fun _ hk => hk.2) (.slice Ao10 t206.length co10)) (fun _ hk => hk.2) (.slice Ao11 t209.length co11)) (fun _ h_ => h_.1))) hb); have n2_ := Aside0.mk (Kd.R_lower ho0 (below_size (by repeat (first | (with_reducible first | exact HB.out | apply below_alloc | apply pw_below_drewN | apply below_drew1 | refine below_set ?_ GE212.out) | exact HB.out)))); have n3_ := Aside0.mk (blk_below (g := gb212) (o := .cells #[.int .i64 t205, .slice Ao10 t206.length co10, .slice Ao11 t209.length co11] 26 (0, 0)) (by (with_reducible repeat (first | refine blk_drewN ?_ _ | refine blk_drew ?_ | refine blk_alloc ?_ _)); refine blk_put (cs := #[.int .i64 t205, .slice Ao10 t206.length co10, .slice none 0 0]) ?_ 2 _ rfl; (with_reducible repeat (first | refine blk_drewN ?_ _ | refine blk_drew ?_ | refine blk_alloc ?_ _)); refine blk_put (cs := #[.int .i64 t205, .slice none 0 0, .slice none 0 0]) ?_ 1 _ rfl; (with_reducible repeat (first | refine blk_drewN ?_ _ | refine blk_drew ?_ | refine blk_alloc ?_ _)); refine blk_put (cs := #[.int .i64 0, .slice none 0 0, .slice none 0 0]) ?_ 0 _ rfl; (with_reducible repeat (first | refine blk_drewN ?_ _ | refine blk_drew ?_ | refine blk_alloc ?_ _)); exact BK212.out) hb); have n4_ := Aside0.mk (below_step (by repeat (first | (with_reducible first | exact HB.out | apply below_alloc | apply pw_below_drewN | apply below_drew1 | refine below_set ?_ GE212.out) | exact HB.out)) hb); clear HO208; clear HO211; clear BK212; clear HB; have HO208 := n0_; have HO211 := n1_; have HO215 := n2_; have BK212 := n3_; have HB := n4_; clear n0_ n1_ n2_ n3_ n4_; (try clear hb); (try clear hb2); (try clear hk); (try clear hi); (try clear ho0); obtain ⟨Ao13, co13, eo13⟩ := Kd.R_slice HO215.out; subst eo13) | ((with_reducible refine gate_callee (f := 33) rfl ?_); refine goesL_ (some 19) rfl rfl Try.func33 (by kernel_rfl) rfl #[] rfl (by (try simp only [List.map_toArray, List.map_cons, List.map_nil]); first | done | rfl | (simp only [List.length_drop, List.length_take]; rfl)) ?_; (with_reducible refine (railplanlaw16_awake.calls k  t216 _ A6.out).mono ?_); rintro e w14 ⟨rfl, hb⟩; refine ⟨_, rfl, ?_⟩; have n0_ := Aside0.mk (Kd.R_below (by (with_reducible repeat (first | apply Kd.R_alloc | apply Kd.R_drewN | apply Kd.R_drew)); exact HO208.out) hb); have n1_ := Aside0.mk (Kd.R_below (by (with_reducible repeat (first | apply Kd.R_alloc | apply Kd.R_drewN | apply Kd.R_drew)); exact HO211.out) hb); have n2_ := Aside0.mk (Kd.R_below (by (with_reducible repeat (first | apply Kd.R_alloc | apply Kd.R_drewN | apply Kd.R_drew)); exact HO215.out) hb); have n3_ := Aside0.mk (blk_below (g := gb212) (o := .cells #[.int .i64 t205, .slice Ao10 t206.length co10, .slice Ao11 t209.length co11] 26 (0, 0)) (by (with_reducible repeat (first | refine blk_drewN ?_ _ | refine blk_drew ?_ | refine blk_alloc ?_ _)); exact BK212.out) hb); have n4_ := Aside0.mk (below_step (by repeat (first | (with_reducible first | exact HB.out | apply below_alloc | apply pw_below_drewN | apply below_drew1 | refine below_set ?_ GE212.out) | exact HB.out)) hb); clear HO208; clear HO211; clear HO215; clear BK212; clear HB; have HO208 := n0_; have HO211 := n1_; have HO215 := n2_; have BK212 := n3_; have HB := n4_; clear n0_ n1_ n2_ n3_ n4_; (try clear hb); (try clear hb2); (try clear hk); (try clear hi)))
  go_ret
  exact ⟨by first | rfl | (simp [errW_none, errW_some] <;> rfl) | (simp [*, errW_none, errW_some] <;> rfl), by repeat (first | (with_reducible first | exact HB.out | apply below_alloc | apply pw_below_drewN | apply below_drew1 | refine below_set ?_ GE212.out) | exact HB.out)⟩
 ·rw [if_neg c5] at H
  have c5b0 : ((t213.length : Int) == 0) = false := beq_eq_false_iff_ne.mpr c5
  have c5b1 : ((t213.length : Int) != 0) = true := bne_iff_ne.mpr c5
  have c5b2 : ¬ (t213 = []) := fun h_ => c5 (by rw [h_]; rfl)
  replace H := Option.bind_eq_some_iff.mp H
  obtain ⟨t217, A150, H⟩ := H
  replace H : (if 0 ≤ t217 then (if t217 < (t213.length : Int) then ((simplex_Cut.f k t205 t206 t209 t213 (rd t213 t217)).bind fun bt219 => (if bt219.2 = 0 then (railplanlaw16_SimplexCutSplits.j0 k t213 (rd t213 t217) bt219.1 ((bt219.1.length : Int) != (t206.length : Int)) t205 t206 t209) else (railplanlaw16_SimplexCutSplits.j0 k t213 (rd t213 t217) bt219.1 true t205 t206 t209))) else (none)) else (none)) = some r := H
  have A15 := Aside0.mk A150
  clear A150
  by_cases c16 : 0 ≤ t217
  ·rw [if_pos c16] at H
   have c16b0 : decide (0 ≤ t217) = true := decide_eq_true c16
   clear c16
   by_cases c17 : t217 < (t213.length : Int)
   ·rw [if_pos c17] at H
    have c17b0 : decide (t217 < (t213.length : Int)) = true := decide_eq_true c17
    clear c17
    replace H := Option.bind_eq_some_iff.mp H
    obtain ⟨⟨t219, t222⟩, A180, H⟩ := H
    replace H : (if t222 = 0 then (railplanlaw16_SimplexCutSplits.j0 k t213 (rd t213 t217) t219 ((t219.length : Int) != (t206.length : Int)) t205 t206 t209) else (railplanlaw16_SimplexCutSplits.j0 k t213 (rd t213 t217) t219 true t205 t206 t209)) = some r := H
    have A18 := Aside0.mk A180
    clear A180
    have HC19 := Aside0.mk H
    clear H
    go_enter Try.func3, Try.ntmps3
    go_upto_region 7 with (first | ((with_reducible refine gate_callee (f := 31) rfl ?_); refine goesL_ (some 13) rfl rfl Try.func31 (by kernel_rfl) rfl #[.slice A0 l0.length c0] rfl (by (try simp only [List.map_toArray, List.map_cons, List.map_nil]); first | done | rfl | (simp only [List.length_drop, List.length_take]; rfl)) ?_; (with_reducible refine (railplankeep_Network.calls k _ _ l0 t205 t206 t209 _ ?side1 ?side2 A3.out).mono ?_); (case side1 => repeat (first | exact HR0.out | (with_reducible refine Kd.C_alloc ?_ _) | (with_reducible refine Kd.C_drewN ?_ _) | (with_reducible refine Kd.C_drew ?_))); (case side2 => exact HC0.out); rintro e w20 ⟨v207, v210, rfl, ho0, ho1, hb⟩; refine ⟨_, rfl, ?_⟩; have n0_ := Aside0.mk (Kd.R_lower ho0 (below_size (by repeat (first | (with_reducible first | exact HB.out | apply below_alloc | apply pw_below_drewN | apply below_drew1) | exact HB.out)))); have n1_ := Aside0.mk (Kd.R_lower ho1 (below_size (by repeat (first | (with_reducible first | exact HB.out | apply below_alloc | apply pw_below_drewN | apply below_drew1) | exact HB.out)))); have n2_ := Aside0.mk (below_step (by repeat (first | (with_reducible first | exact HB.out | apply below_alloc | apply pw_below_drewN | apply below_drew1) | exact HB.out)) hb); clear HB; have HO208 := n0_; have HO211 := n1_; have HB := n2_; clear n0_ n1_ n2_; (try clear hb); (try clear hb2); (try clear hk); (try clear hi); (try clear ho0); (try clear ho1)) | ((with_reducible refine gate_dst (N := 5) rfl ?_); (try (refine gate_guard (by rfl) ?_; dsimp only)); refine box_event ?hg (N := 5) ?hd (cs := #[.int .i64 0, .slice none 0 0, .slice none 0 0]) (t := 26) ?hr ?_; (case hd => rfl); (case hg => rfl); (case hr => first | (go_simp; done) | (go_simp; rfl)); intro gb212 hg w21 hbox hb; have n0_ := Aside0.mk (Kd.R_below (by (with_reducible repeat (first | apply Kd.R_alloc | apply Kd.R_drewN | apply Kd.R_drew)); exact HO208.out) hb); have n1_ := Aside0.mk (Kd.R_below (by (with_reducible repeat (first | apply Kd.R_alloc | apply Kd.R_drewN | apply Kd.R_drew)); exact HO211.out) hb); have n2_ := Aside0.mk (below_step (by repeat (first | (with_reducible first | exact HB.out | apply below_alloc | apply pw_below_drewN | apply below_drew1) | exact HB.out)) hb); have n3_ := Aside0.mk (hbox); have n4_ := Aside0.mk ((by rw [hg]; exact (below_size (by repeat (first | (with_reducible first | exact HB.out | apply below_alloc | apply pw_below_drewN | apply below_drew1) | exact HB.out))) : w.heap.size ≤ gb212)); have n5_ := Aside0.mk ((by rw [hg]; exact (below_size (by repeat (first | (with_reducible first | exact HB.out | apply below_alloc | apply pw_below_drewN | apply below_drew1) | exact HB.out))) : w.heap.size ≤ gb212)); clear HO208; clear HO211; clear HB; have HO208 := n0_; have HO211 := n1_; have HB := n2_; have BK212 := n3_; have GW212 := n4_; have GE212 := n5_; clear n0_ n1_ n2_ n3_ n4_ n5_; clear hb hbox hg; have hcz22_0 : w21.cell? ⟨gb212, 0, none⟩ = some (.int .i64 0) := (blk_cell BK212.out 0).trans rfl; have hcz22_1 : w21.cell? ⟨gb212, 1, none⟩ = some (.slice none 0 0) := (blk_cell BK212.out 1).trans rfl; have hcz22_2 : w21.cell? ⟨gb212, 2, none⟩ = some (.slice none 0 0) := (blk_cell BK212.out 2).trans rfl; have hfz22_0 := blk_frozen BK212.out 0; have hfz22_1 := blk_frozen BK212.out 1; have hfz22_2 := blk_frozen BK212.out 2; obtain ⟨Ao23, co23, eo23⟩ := Kd.R_slice HO208.out; subst eo23; obtain ⟨Ao24, co24, eo24⟩ := Kd.R_slice HO211.out; subst eo24) | ((with_reducible refine gate_callee (f := 32) rfl ?_); refine goesL_ (some 15) rfl rfl Try.func32 (by kernel_rfl) rfl #[.agg #[.int .i64 t205, .slice Ao23 t206.length co23, .slice Ao24 t209.length co24]] rfl (by (try simp only [List.map_toArray, List.map_cons, List.map_nil]); first | done | rfl | (simp only [List.length_drop, List.length_take]; rfl)) ?_; (with_reducible refine (railplanref11_Tree.calls k t205 _ _ t206 _ _ t209 t213 _ ?side1 ?side2 ?side3 ?side4 A4.out).mono ?_); (case side1 => refine (Kd.R_reads' (e := 97) (base := w.heap.size) (ok := fun k_ => True) (n := t206.length) (c := co23) ?_).2.2; exact (by (with_reducible repeat (first | apply Kd.R_alloc | apply Kd.R_drewN | apply Kd.R_drew)); exact (Kd.R_mono (Kd.R_far (p := ⟨gb212, 2, none⟩) (Kd.R_far (p := ⟨gb212, 1, none⟩) (Kd.R_far (p := ⟨gb212, 0, none⟩) (Kd.R_types HO208.out BK212.out (by decide)) (fun _ hk => hk.2) (.int .i64 t205)) (fun _ hk => hk.2) (.slice Ao23 t206.length co23)) (fun _ hk => hk.2) (.slice Ao24 t209.length co24)) (fun _ h_ => h_.1)))); (case side2 => exact (Kd.R_reads' HO208.out).2.1); (case side3 => refine (Kd.R_reads' (e := 36) (base := w.heap.size) (ok := fun k_ => True) (n := t209.length) (c := co24) ?_).2.2; exact (by (with_reducible repeat (first | apply Kd.R_alloc | apply Kd.R_drewN | apply Kd.R_drew)); exact (Kd.R_mono (Kd.R_far (p := ⟨gb212, 2, none⟩) (Kd.R_far (p := ⟨gb212, 1, none⟩) (Kd.R_far (p := ⟨gb212, 0, none⟩) (Kd.R_types HO211.out BK212.out (by decide)) (fun _ hk => hk.2) (.int .i64 t205)) (fun _ hk => hk.2) (.slice Ao23 t206.length co23)) (fun _ hk => hk.2) (.slice Ao24 t209.length co24)) (fun _ h_ => h_.1)))); (case side4 => exact (Kd.R_reads' HO211.out).2.1); rintro e w25 ⟨v214, rfl, ho0, hb⟩; refine ⟨_, rfl, ?_⟩; have n0_ := Aside0.mk (Kd.R_below (by (with_reducible repeat (first | apply Kd.R_alloc | apply Kd.R_drewN | apply Kd.R_drew)); exact (Kd.R_mono (Kd.R_far (p := ⟨gb212, 2, none⟩) (Kd.R_far (p := ⟨gb212, 1, none⟩) (Kd.R_far (p := ⟨gb212, 0, none⟩) (Kd.R_types HO208.out BK212.out (by decide)) (fun _ hk => hk.2) (.int .i64 t205)) (fun _ hk => hk.2) (.slice Ao23 t206.length co23)) (fun _ hk => hk.2) (.slice Ao24 t209.length co24)) (fun _ h_ => h_.1))) hb); have n1_ := Aside0.mk (Kd.R_below (by (with_reducible repeat (first | apply Kd.R_alloc | apply Kd.R_drewN | apply Kd.R_drew)); exact (Kd.R_mono (Kd.R_far (p := ⟨gb212, 2, none⟩) (Kd.R_far (p := ⟨gb212, 1, none⟩) (Kd.R_far (p := ⟨gb212, 0, none⟩) (Kd.R_types HO211.out BK212.out (by decide)) (fun _ hk => hk.2) (.int .i64 t205)) (fun _ hk => hk.2) (.slice Ao23 t206.length co23)) (fun _ hk => hk.2) (.slice Ao24 t209.length co24)) (fun _ h_ => h_.1))) hb); have n2_ := Aside0.mk (Kd.R_lower ho0 (below_size (by repeat (first | (with_reducible first | exact HB.out | apply below_alloc | apply pw_below_drewN | apply below_drew1 | refine below_set ?_ GE212.out) | exact HB.out)))); have n3_ := Aside0.mk (blk_below (g := gb212) (o := .cells #[.int .i64 t205, .slice Ao23 t206.length co23, .slice Ao24 t209.length co24] 26 (0, 0)) (by (with_reducible repeat (first | refine blk_drewN ?_ _ | refine blk_drew ?_ | refine blk_alloc ?_ _)); refine blk_put (cs := #[.int .i64 t205, .slice Ao23 t206.length co23, .slice none 0 0]) ?_ 2 _ rfl; (with_reducible repeat (first | refine blk_drewN ?_ _ | refine blk_drew ?_ | refine blk_alloc ?_ _)); refine blk_put (cs := #[.int .i64 t205, .slice none 0 0, .slice none 0 0]) ?_ 1 _ rfl; (with_reducible repeat (first | refine blk_drewN ?_ _ | refine blk_drew ?_ | refine blk_alloc ?_ _)); refine blk_put (cs := #[.int .i64 0, .slice none 0 0, .slice none 0 0]) ?_ 0 _ rfl; (with_reducible repeat (first | refine blk_drewN ?_ _ | refine blk_drew ?_ | refine blk_alloc ?_ _)); exact BK212.out) hb); have n4_ := Aside0.mk (below_step (by repeat (first | (with_reducible first | exact HB.out | apply below_alloc | apply pw_below_drewN | apply below_drew1 | refine below_set ?_ GE212.out) | exact HB.out)) hb); clear HO208; clear HO211; clear BK212; clear HB; have HO208 := n0_; have HO211 := n1_; have HO215 := n2_; have BK212 := n3_; have HB := n4_; clear n0_ n1_ n2_ n3_ n4_; (try clear hb); (try clear hb2); (try clear hk); (try clear hi); (try clear ho0); obtain ⟨Ao26, co26, eo26⟩ := Kd.R_slice HO215.out; subst eo26) | ((with_reducible refine gate_callee (f := 34) rfl ?_); refine goesL_ (some 24) rfl rfl Try.func34 (by kernel_rfl) rfl #[.int .i64 a1, .int .i64 (t213.length : Int)] rfl (by (try simp only [List.map_toArray, List.map_cons, List.map_nil]); first | done | rfl | (simp only [List.length_drop, List.length_take]; rfl)) ?_; (with_reducible refine (railplankeep_Pick.calls a1 (t213.length : Int) t217 _ A15.out).mono ?_); rintro e w' ⟨rfl, ⟨nd, rfl⟩⟩; refine ⟨_, rfl, ?_⟩; have p218 : 0 ≤ (t217 : Int) := of_decide_eq_true (by first | (with_reducible assumption) | assumption); have q218 : t217 < (t213.length : Int) := of_decide_eq_true (by first | (with_reducible assumption) | assumption); obtain ⟨ad218, e218, hx218_0⟩ := Kd.at_int (Kd.R_reads' HO215.out).2.2 t217 p218 q218; cases e218; replace p218 := eq_true p218; replace q218 := eq_true q218; have hcz27_0 : w25.cell? ⟨gb212, 0, none⟩ = some (.int .i64 t205) := (blk_cell BK212.out 0).trans rfl; have hcz27_1 : w25.cell? ⟨gb212, 1, none⟩ = some (.slice Ao23 t206.length co23) := (blk_cell BK212.out 1).trans rfl; have hcz27_2 : w25.cell? ⟨gb212, 2, none⟩ = some (.slice Ao24 t209.length co24) := (blk_cell BK212.out 2).trans rfl; have hfz27_0 := blk_frozen BK212.out 0; have hfz27_1 := blk_frozen BK212.out 1; have hfz27_2 := blk_frozen BK212.out 2) | ((with_reducible refine gate_callee (f := 35) rfl ?_); refine goesL_ (some 31) rfl rfl Try.func35 (by kernel_rfl) rfl #[.agg #[.int .i64 t205, .slice Ao23 t206.length co23, .slice Ao24 t209.length co24], .slice (some ad218) t213.length co26, .int .i64 (rd t213 t217)] rfl (by (try simp only [List.map_toArray, List.map_cons, List.map_nil]); first | done | rfl | (simp only [List.length_drop, List.length_take]; rfl)) ?_; (with_reducible refine (simplex_Cut.calls k t205 _ _ t206 _ _ t209 _ _ t213 (rd t213 t217) t219 t222 _ ?side1 ?side2 ?side3 ?side4 ?side5 ?side6 A18.out).mono ?_); (case side1 => repeat (first | exact (Kd.R_reads' HO208.out).2.2 | (with_reducible refine Kd.C_alloc ?_ _) | (with_reducible refine Kd.C_drewN ?_ _) | (with_reducible refine Kd.C_drew ?_))); (case side2 => exact (Kd.R_reads' HO208.out).2.1); (case side3 => repeat (first | exact (Kd.R_reads' HO211.out).2.2 | (with_reducible refine Kd.C_alloc ?_ _) | (with_reducible refine Kd.C_drewN ?_ _) | (with_reducible refine Kd.C_drew ?_))); (case side4 => exact (Kd.R_reads' HO211.out).2.1); (case side5 => repeat (first | exact (Kd.R_reads' HO215.out).2.2 | (with_reducible refine Kd.C_alloc ?_ _) | (with_reducible refine Kd.C_drewN ?_ _) | (with_reducible refine Kd.C_drew ?_))); (case side6 => exact (Kd.R_reads' HO215.out).2.1); rintro e w28 ⟨v220, rfl, ho0, hb⟩; refine ⟨_, rfl, ?_⟩; have n0_ := Aside0.mk (Kd.R_below (by (with_reducible repeat (first | apply Kd.R_alloc | apply Kd.R_drewN | apply Kd.R_drew)); exact HO208.out) hb); have n1_ := Aside0.mk (Kd.R_below (by (with_reducible repeat (first | apply Kd.R_alloc | apply Kd.R_drewN | apply Kd.R_drew)); exact HO211.out) hb); have n2_ := Aside0.mk (Kd.R_below (by (with_reducible repeat (first | apply Kd.R_alloc | apply Kd.R_drewN | apply Kd.R_drew)); exact HO215.out) hb); have n3_ := Aside0.mk (Kd.R_lower ho0 (below_size (by repeat (first | (with_reducible first | exact HB.out | apply below_alloc | apply pw_below_drewN | apply below_drew1 | refine below_set ?_ GE212.out) | exact HB.out)))); have n4_ := Aside0.mk (blk_below (g := gb212) (o := .cells #[.int .i64 t205, .slice Ao23 t206.length co23, .slice Ao24 t209.length co24] 26 (0, 0)) (by (with_reducible repeat (first | refine blk_drewN ?_ _ | refine blk_drew ?_ | refine blk_alloc ?_ _)); exact BK212.out) hb); have n5_ := Aside0.mk (below_step (by repeat (first | (with_reducible first | exact HB.out | apply below_alloc | apply pw_below_drewN | apply below_drew1 | refine below_set ?_ GE212.out) | exact HB.out)) hb); clear HO208; clear HO211; clear HO215; clear BK212; clear HB; have HO208 := n0_; have HO211 := n1_; have HO215 := n2_; have HO221 := n3_; have BK212 := n4_; have HB := n5_; clear n0_ n1_ n2_ n3_ n4_ n5_; (try clear hb); (try clear hb2); (try clear hk); (try clear hi); (try clear ho0)))
    (try simp only [Act.put, List.setIfInBounds_toArray, List.set_cons_zero, List.set_cons_succ])
    go_cut [43] (fun v43 wc => ∃ (kq : Nat) (x43_18 : Bool), v43 = .bool x43_18 ∧ Aside0 (railplanlaw16_SimplexCutSplits.j0 kq t213 (rd t213 t217) t219 x43_18 t205 t206 t209 = some r) ∧ Aside0 (kq ≤ k) ∧ Aside0 (Kd.R (Kd.int .i64) 3 wc w.heap.size (fun _ => True) (.slice (some ad218) t213.length co26) t213) ∧ Aside0 (Kd.R Kd.bool 4 wc w.heap.size (fun _ => True) v220 t219) ∧ Aside0 (Kd.R k97 97 wc w.heap.size (fun _ => True) (.slice Ao23 t206.length co23) t206) ∧ Aside0 (Kd.R k36 36 wc w.heap.size (fun _ => True) (.slice Ao24 t209.length co24) t209) ∧ Aside0 (wc.heap[gb212]? = some (.cells #[.int .i64 t205, (.slice Ao23 t206.length co23), (.slice Ao24 t209.length co24)] 26 (0, 0))) ∧ Aside0 (Below w.heap.size w wc))
    case first =>
     have H := HC19.out
     clear HC19
     by_cases c29 : t222 = 0
     ·rw [if_pos c29] at H
      have c29b0 : (t222 == 0) = true := beq_iff_eq.mpr c29
      have c29b1 : (t222 != 0) = false := bne_eq_false_iff_eq.mpr c29
      clear c29
      (first | rw [c29b0] | (simp only [i64_w, i32_w]; rw [c29b0]) | skip)
      have H' := Aside0.mk H
      clear H
      obtain ⟨Ao30, co30, eo30⟩ := Kd.R_slice HO221.out
      subst eo30
      have hcz31_0 : w28.cell? ⟨gb212, 0, none⟩ = some (.int .i64 t205) := (blk_cell BK212.out 0).trans rfl
      have hcz31_1 : w28.cell? ⟨gb212, 1, none⟩ = some (.slice Ao23 t206.length co23) := (blk_cell BK212.out 1).trans rfl
      have hcz31_2 : w28.cell? ⟨gb212, 2, none⟩ = some (.slice Ao24 t209.length co24) := (blk_cell BK212.out 2).trans rfl
      have hfz31_0 := blk_frozen BK212.out 0
      have hfz31_1 := blk_frozen BK212.out 1
      have hfz31_2 := blk_frozen BK212.out 2
      go_wp2
      go_meet
      case rel => exact ⟨_, (((t219.length : Int) != (t206.length : Int))), (by first | rfl | (simp; done) | (simp [*]; done)), H', ⟨by first | omega | exact Nat.le_refl _⟩, ⟨by (with_reducible repeat (first | apply Kd.R_alloc | apply Kd.R_drewN | apply Kd.R_drew)); exact HO215.out⟩, ⟨by (with_reducible repeat (first | apply Kd.R_alloc | apply Kd.R_drewN | apply Kd.R_drew)); exact HO221.out⟩, ⟨by (with_reducible repeat (first | apply Kd.R_alloc | apply Kd.R_drewN | apply Kd.R_drew)); exact HO208.out⟩, ⟨by (with_reducible repeat (first | apply Kd.R_alloc | apply Kd.R_drewN | apply Kd.R_drew)); exact HO211.out⟩, ⟨by (with_reducible repeat (first | refine blk_drewN ?_ _ | refine blk_drew ?_ | refine blk_alloc ?_ _)); exact BK212.out⟩, ⟨by repeat (first | (with_reducible first | exact HB.out | apply below_alloc | apply pw_below_drewN | apply below_drew1 | refine below_set ?_ GE212.out) | exact HB.out)⟩⟩
     ·rw [if_neg c29] at H
      have c29b0 : (t222 == 0) = false := beq_eq_false_iff_ne.mpr c29
      have c29b1 : (t222 != 0) = true := bne_iff_ne.mpr c29
      (first | rw [c29b0] | (simp only [i64_w, i32_w]; rw [c29b0]) | skip)
      have H' := Aside0.mk H
      clear H
      go_wp2
      go_meet
      case rel => exact ⟨_, (true), (by first | rfl | (simp; done) | (simp [*]; done)), H', ⟨by first | omega | exact Nat.le_refl _⟩, ⟨by (with_reducible repeat (first | apply Kd.R_alloc | apply Kd.R_drewN | apply Kd.R_drew)); exact HO215.out⟩, ⟨by (with_reducible repeat (first | apply Kd.R_alloc | apply Kd.R_drewN | apply Kd.R_drew)); exact HO221.out⟩, ⟨by (with_reducible repeat (first | apply Kd.R_alloc | apply Kd.R_drewN | apply Kd.R_drew)); exact HO208.out⟩, ⟨by (with_reducible repeat (first | apply Kd.R_alloc | apply Kd.R_drewN | apply Kd.R_drew)); exact HO211.out⟩, ⟨by (with_reducible repeat (first | refine blk_drewN ?_ _ | refine blk_drew ?_ | refine blk_alloc ?_ _)); exact BK212.out⟩, ⟨by repeat (first | (with_reducible first | exact HB.out | apply below_alloc | apply pw_below_drewN | apply below_drew1 | refine below_set ?_ GE212.out) | exact HB.out)⟩⟩
    case rest =>
     clear HC19
     try clear c1
     try clear c2
     try clear p2
     try clear q2
     try clear hx2
     try clear c3
     try clear c5
     try clear c5b0
     try clear c5b1
     try clear c5b2
     try clear c16
     try clear c16b0
     try clear c17
     try clear c17b0
     try clear p21
     try clear q21
     try clear hx21
     try clear c29
     try clear c29b0
     try clear c29b1
     try clear c31
     try clear hcz22_0
     try clear hcz22_1
     try clear hcz22_2
     try clear hcz27_0
     try clear hcz27_1
     try clear hcz27_2
     try clear hcz31_0
     try clear hcz31_1
     try clear hcz31_2
     try clear hcz9_0
     try clear hcz9_1
     try clear hcz9_2
     try clear hfz22_0
     try clear hfz22_1
     try clear hfz22_2
     try clear hfz27_0
     try clear hfz27_1
     try clear hfz27_2
     try clear hfz31_0
     try clear hfz31_1
     try clear hfz31_2
     try clear hfz9_0
     try clear hfz9_1
     try clear hfz9_2
     try clear hx218_0
     try clear p218
     try clear q218
     obtain ⟨kq, x43_18, rfl, HA, HJ18, HO_6, HO_8, HO_213001, HO_213002, BK212, HB⟩ := hcut
     cases kq with
     | zero => exact absurd HA.out (by simp [railplanlaw16_SimplexCutSplits.j0])
     | succ kj18 =>
      have H := HA.out
      clear HA
      simp only [railplanlaw16_SimplexCutSplits.j0] at H
      by_cases c32 : x43_18 = true
      ·subst c32
       have H1 : (some false) = some r := by rw [if_pos rfl] at H; exact H
       clear H
       have H := H1
       clear H1
       obtain rfl := Option.some.inj H
       go_wp2
       go_ret
       exact ⟨by first | rfl | (simp [errW_none, errW_some] <;> rfl) | (simp [*, errW_none, errW_some] <;> rfl), by repeat (first | (with_reducible first | exact HB.out | apply below_alloc | apply pw_below_drewN | apply below_drew1 | refine below_set ?_ GE212.out) | exact HB.out)⟩
      ·replace c32 := Bool.eq_false_iff.mpr c32
       subst c32
       have H1 : (railplanlaw16_SimplexCutSplits.l0 kj18 t213 (rd t213 t217) t219 (t213.length : Int) 0 t205 t206 t209) = some r := by rw [if_neg (show ¬ (false = true) by decide)] at H; exact H
       clear H
       have H := H1
       clear H1
       have H' := Aside0.mk H
       clear H
       go_wp2
       go_loopg [46] kj18 (fun kq v46 w' => ∃ (x46_2 : Int), v46 = .int .i64 x46_2 ∧ Aside0 (railplanlaw16_SimplexCutSplits.l0 kq t213 (rd t213 t217) t219 (t213.length : Int) x46_2 t205 t206 t209 = some r) ∧ Aside0 (kq ≤ kj18) ∧ Aside0 (Kd.R (Kd.int .i64) 3 w' w.heap.size (fun _ => True) (.slice (some ad218) t213.length co26) t213) ∧ Aside0 (Kd.R Kd.bool 4 w' w.heap.size (fun _ => True) v220 t219) ∧ Aside0 (Kd.R k97 97 w' w.heap.size (fun _ => True) (.slice Ao23 t206.length co23) t206) ∧ Aside0 (Kd.R k36 36 w' w.heap.size (fun _ => True) (.slice Ao24 t209.length co24) t209) ∧ Aside0 (w'.heap[gb212]? = some (.cells #[.int .i64 t205, (.slice Ao23 t206.length co23), (.slice Ao24 t209.length co24)] 26 (0, 0))) ∧ Aside0 (Below w.heap.size w w'))
       case atStart => exact ⟨(0), (by first | rfl | (simp; done) | (simp [*]; done)), H', ⟨Nat.le_refl _⟩, ⟨by (with_reducible repeat (first | apply Kd.R_alloc | apply Kd.R_drewN | apply Kd.R_drew)); exact HO_6.out⟩, ⟨by (with_reducible repeat (first | apply Kd.R_alloc | apply Kd.R_drewN | apply Kd.R_drew)); exact HO_8.out⟩, ⟨by (with_reducible repeat (first | apply Kd.R_alloc | apply Kd.R_drewN | apply Kd.R_drew)); exact HO_213001.out⟩, ⟨by (with_reducible repeat (first | apply Kd.R_alloc | apply Kd.R_drewN | apply Kd.R_drew)); exact HO_213002.out⟩, ⟨by (with_reducible repeat (first | refine blk_drewN ?_ _ | refine blk_drew ?_ | refine blk_alloc ?_ _)); exact BK212.out⟩, ⟨by repeat (first | (with_reducible first | exact HB.out | apply below_alloc | apply pw_below_drewN | apply below_drew1 | refine below_set ?_ GE212.out) | exact HB.out)⟩⟩
       case round =>
        clear H'
        try clear c1
        try clear c2
        try clear p2
        try clear q2
        try clear hx2
        try clear c3
        try clear c5
        try clear c5b0
        try clear c5b1
        try clear c5b2
        try clear c16
        try clear c16b0
        try clear c17
        try clear c17b0
        try clear p21
        try clear q21
        try clear hx21
        try clear c29
        try clear c29b0
        try clear c29b1
        try clear c31
        try clear c32
        try clear hcz22_0
        try clear hcz22_1
        try clear hcz22_2
        try clear hcz27_0
        try clear hcz27_1
        try clear hcz27_2
        try clear hcz31_0
        try clear hcz31_1
        try clear hcz31_2
        try clear hcz9_0
        try clear hcz9_1
        try clear hcz9_2
        try clear hfz22_0
        try clear hfz22_1
        try clear hfz22_2
        try clear hfz27_0
        try clear hfz27_1
        try clear hfz27_2
        try clear hfz31_0
        try clear hfz31_1
        try clear hfz31_2
        try clear hfz9_0
        try clear hfz9_1
        try clear hfz9_2
        try clear hx218_0
        try clear p2
        try clear p21
        try clear p218
        try clear q2
        try clear q21
        try clear q218
        obtain ⟨x46_2, rfl, HA, HK2, HO_6, HO_8, HO_213001, HO_213002, BK212, HB⟩ := hrel
        cases gk with
        | zero => exact absurd HA.out (by simp [railplanlaw16_SimplexCutSplits.l0])
        | succ k2 =>
         have H := HA.out
         clear HA
         simp only [railplanlaw16_SimplexCutSplits.l0] at H
         by_cases c33 : x46_2 < (t213.length : Int)
         ·rw [if_pos c33] at H
          have c33b0 : decide (x46_2 < (t213.length : Int)) = true := decide_eq_true c33
          clear c33
          by_cases c34 : 0 ≤ x46_2
          ·rw [if_pos c34] at H
           have c34b0 : decide (0 ≤ x46_2) = true := decide_eq_true c34
           clear c34
           by_cases c35 : x46_2 < (t213.length : Int)
           ·rw [if_pos c35] at H
            have c35b0 : decide (x46_2 < (t213.length : Int)) = true := decide_eq_true c35
            clear c35
            by_cases c36 : 0 ≤ (rd t213 x46_2)
            ·rw [if_pos c36] at H
             have c36b0 : decide (0 ≤ (rd t213 x46_2)) = true := decide_eq_true c36
             clear c36
             by_cases c37 : (rd t213 x46_2) < (t209.length : Int)
             ·rw [if_pos c37] at H
              have c37b0 : decide ((rd t213 x46_2) < (t209.length : Int)) = true := decide_eq_true c37
              clear c37
              by_cases c38 : 0 ≤ ((rd_T36 t209 (rd t213 x46_2)).f1)
              ·rw [if_pos c38] at H
               have c38b0 : decide (0 ≤ ((rd_T36 t209 (rd t213 x46_2)).f1)) = true := decide_eq_true c38
               clear c38
               by_cases c39 : ((rd_T36 t209 (rd t213 x46_2)).f1) < (t219.length : Int)
               ·rw [if_pos c39] at H
                have c39b0 : decide (((rd_T36 t209 (rd t213 x46_2)).f1) < (t219.length : Int)) = true := decide_eq_true c39
                clear c39
                by_cases c40 : 0 ≤ ((rd_T36 t209 (rd t213 x46_2)).f2)
                ·rw [if_pos c40] at H
                 have c40b0 : decide (0 ≤ ((rd_T36 t209 (rd t213 x46_2)).f2)) = true := decide_eq_true c40
                 clear c40
                 by_cases c41 : ((rd_T36 t209 (rd t213 x46_2)).f2) < (t219.length : Int)
                 ·rw [if_pos c41] at H
                  have c41b0 : decide (((rd_T36 t209 (rd t213 x46_2)).f2) < (t219.length : Int)) = true := decide_eq_true c41
                  clear c41
                  by_cases c42 : (((rdOf false t219 ((rd_T36 t209 (rd t213 x46_2)).f1)) == (rdOf false t219 ((rd_T36 t209 (rd t213 x46_2)).f2))) == ((rd t213 x46_2) == (rd t213 t217))) = true
                  ·rw [if_pos c42] at H
                   have c42b0 : (((rdOf false t219 ((rd_T36 t209 (rd t213 x46_2)).f1)) == (rdOf false t219 ((rd_T36 t209 (rd t213 x46_2)).f2))) == ((rd t213 x46_2) == (rd t213 t217))) = true := c42
                   (try (have c42b1 : decide (((rdOf false t219 ((rd_T36 t209 (rd t213 x46_2)).f1)) == (rdOf false t219 ((rd_T36 t209 (rd t213 x46_2)).f2))) = ((rd t213 x46_2) == (rd t213 t217))) = true := by simpa using c42))
                   (try (have c42b2 : (((rdOf false t219 ((rd_T36 t209 (rd t213 x46_2)).f1)) == (rdOf false t219 ((rd_T36 t209 (rd t213 x46_2)).f2))) == ((rd t213 x46_2) == (rd t213 t217))) = true := by simpa using c42))
                   clear c42
                   obtain rfl := Option.some.inj H
                   try go_wp2
                   have n0_ := Aside0.mk (Kd.R_drew HO_6.out)
                   have n1_ := Aside0.mk (Kd.R_drew HO_8.out)
                   have n2_ := Aside0.mk (Kd.R_drew HO_213001.out)
                   have n3_ := Aside0.mk (Kd.R_drew HO_213002.out)
                   have n4_ := Aside0.mk (blk_drew BK212.out)
                   have n5_ := Aside0.mk (below_drew1 HB.out)
                   clear HO_6
                   clear HO_8
                   clear HO_213001
                   clear HO_213002
                   clear BK212
                   clear HB
                   have HO_6 := n0_
                   have HO_8 := n1_
                   have HO_213001 := n2_
                   have HO_213002 := n3_
                   have BK212 := n4_
                   have HB := n5_
                   clear n0_ n1_ n2_ n3_ n4_ n5_
                   have p223 : 0 ≤ (x46_2 : Int) := of_decide_eq_true (by first | (with_reducible assumption) | assumption)
                   have q223 : x46_2 < (t213.length : Int) := of_decide_eq_true (by first | (with_reducible assumption) | assumption)
                   obtain ⟨ad223, e223, hx223_0⟩ := Kd.at_int (Kd.R_reads' HO_6.out).2.2 x46_2 p223 q223
                   obtain rfl : ad218 = ad223 := (by injection e223)
                   replace p223 := eq_true p223
                   replace q223 := eq_true q223
                   have p224 : 0 ≤ ((rd t213 x46_2) : Int) := of_decide_eq_true (by first | (with_reducible assumption) | assumption)
                   have q224 : (rd t213 x46_2) < (t209.length : Int) := of_decide_eq_true (by first | (with_reducible assumption) | assumption)
                   obtain ⟨ad224, e224, hx224_0, hx224_1, hx224_2, hx224_3, hx224_4, hx224_5⟩ := at_T36 (Kd.R_reads' HO_213002.out).2.2 (rd t213 x46_2) p224 q224
                   cases e224
                   replace p224 := eq_true p224
                   replace q224 := eq_true q224
                   refine start_ (n := 10) (S := fun w' => w'.cell? ⟨gb212, 0, none⟩ = some (.int .i64 t205) ∧ w'.cell? ⟨gb212, 1, none⟩ = some (.slice Ao23 t206.length co23) ∧ w'.cell? ⟨gb212, 2, none⟩ = some (.slice (some ad224) t209.length co24) ∧ w'.cell? (ad218.add (x46_2).toNat) = some (.int .i64 (rd t213 x46_2)) ∧ w'.cell? (ad224.add (((rd t213 x46_2)).toNat * 6)) = some (.int .i64 ((rd_T36 t209 (rd t213 x46_2)).f0)) ∧ w'.cell? ⟨(ad224.add (((rd t213 x46_2)).toNat * 6)).block, (ad224.add (((rd t213 x46_2)).toNat * 6)).off + 1, none⟩ = some (.int .i64 ((rd_T36 t209 (rd t213 x46_2)).f1)) ∧ w'.cell? ⟨(ad224.add (((rd t213 x46_2)).toNat * 6)).block, (ad224.add (((rd t213 x46_2)).toNat * 6)).off + 2, none⟩ = some (.int .i64 ((rd_T36 t209 (rd t213 x46_2)).f2)) ∧ w'.cell? ⟨(ad224.add (((rd t213 x46_2)).toNat * 6)).block, (ad224.add (((rd t213 x46_2)).toNat * 6)).off + 3, none⟩ = some (.int .i64 ((rd_T36 t209 (rd t213 x46_2)).f3)) ∧ w'.cell? ⟨(ad224.add (((rd t213 x46_2)).toNat * 6)).block, (ad224.add (((rd t213 x46_2)).toNat * 6)).off + 4, none⟩ = some (.int .i64 ((rd_T36 t209 (rd t213 x46_2)).f4)) ∧ w'.cell? ⟨(ad224.add (((rd t213 x46_2)).toNat * 6)).block, (ad224.add (((rd t213 x46_2)).toNat * 6)).off + 5, none⟩ = some (.int .i64 ((rd_T36 t209 (rd t213 x46_2)).f5))) (ds := []) #[false, false, false, false, false, false, false, false, false, false] (by kernel_rfl) rfl rfl ⟨(blk_cell BK212.out 0).trans rfl, (blk_cell BK212.out 1).trans rfl, (blk_cell BK212.out 2).trans rfl, hx223_0, hx224_0, hx224_1, hx224_2, hx224_3, hx224_4, hx224_5⟩ (fun hHeld => ?_); refine with_tabW railplanlaw16_SimplexCutSplits.tab12 railplanlaw16_SimplexCutSplits.bits12 (fun HT_ HW_ => ?_)
                   generalize wr.drew = w43 at HO_6 HO_8 HO_213001 HO_213002 BK212 HB hx223_0 hx224_0 hx224_1 hx224_2 hx224_3 hx224_4 hx224_5 hHeld ⊢
                   refine pure_ (i := 0) (N := some 49) (v := ?_) (a' := ?_) #[true, false, false, false, false, false, false, false, false, false] rfl rfl (any_of HT_.out (by kernel_rfl)) (fun _ _ _ h => h) (Or.inl ⟨by rfl, ?_⟩) ?_ ?_
                   rotate_left
                   ·intro w'
                    go_simp
                    first | with_reducible rfl | (rw [if_neg (by simp only [ByteArray.size_append, ByteArray.size_extract, decide_eq_true_eq, eq_iff_iff, iff_true] at *; omega)]; try with_reducible rfl)
                   rotate_left
                   ·simp only [Act.put, List.setIfInBounds_toArray, List.set_cons_zero, List.set_cons_succ, i64_w, i32_w]
                    rfl
                   refine pure_ (i := 2) (N := some 51) (v := ?_) (a' := ?_) #[true, false, true, false, false, false, false, false, false, false] rfl rfl (any_of HT_.out (by kernel_rfl)) (fun _ _ _ h => h) (Or.inl ⟨by rfl, ?_⟩) ?_ ?_
                   rotate_left
                   ·intro w'
                    go_simp
                    first | with_reducible rfl | (rw [if_neg (by simp only [ByteArray.size_append, ByteArray.size_extract, decide_eq_true_eq, eq_iff_iff, iff_true] at *; omega)]; try with_reducible rfl)
                   rotate_left
                   ·simp only [Act.put, List.setIfInBounds_toArray, List.set_cons_zero, List.set_cons_succ, i64_w, i32_w]
                    rfl
                   refine pure_ (i := 3) (N := some 52) (v := ?_) (a' := ?_) #[true, false, true, true, false, false, false, false, false, false] rfl rfl (any_of HT_.out (by kernel_rfl)) (fun _ _ _ h => h) (Or.inl ⟨by rfl, ?_⟩) ?_ ?_
                   rotate_left
                   ·intro w'
                    go_simp
                    first | with_reducible rfl | (rw [if_neg (by simp only [ByteArray.size_append, ByteArray.size_extract, decide_eq_true_eq, eq_iff_iff, iff_true] at *; omega)]; try with_reducible rfl)
                   rotate_left
                   ·simp only [Act.put, List.setIfInBounds_toArray, List.set_cons_zero, List.set_cons_succ, i64_w, i32_w]
                    rfl
                   refine pure_ (i := 4) (N := some 53) (v := ?_) (a' := ?_) #[true, false, true, true, true, false, false, false, false, false] rfl rfl (any_of HT_.out (by kernel_rfl)) (fun _ _ _ h => h) (Or.inl ⟨by rfl, ?_⟩) ?_ ?_
                   rotate_left
                   ·intro w'
                    go_simp
                    first | with_reducible rfl | (rw [if_neg (by simp only [ByteArray.size_append, ByteArray.size_extract, decide_eq_true_eq, eq_iff_iff, iff_true] at *; omega)]; try with_reducible rfl)
                   rotate_left
                   ·simp only [Act.put, List.setIfInBounds_toArray, List.set_cons_zero, List.set_cons_succ, i64_w, i32_w]
                    rfl
                   refine take_ (i := 1) (N := some 50) (v := ?_) (a' := ?_) #[true, true, true, true, true, false, false, false, false, false] rfl rfl (take_ofW HT_.out HW_.out (by kernel_rfl)) (fun _ _ _ h => h) (Or.inl ⟨by rfl, ?_⟩) hHeld ?_ ?_
                   rotate_left
                   ·rintro w' ⟨s0, s1, s2, s3, s4, s5, s6, s7, s8, s9⟩
                    go_simp
                    first | with_reducible rfl | (rw [if_neg (by simp only [ByteArray.size_append, ByteArray.size_extract, decide_eq_true_eq, eq_iff_iff, iff_true] at *; omega)]; try with_reducible rfl)
                   rotate_left
                   ·simp only [Act.put, List.setIfInBounds_toArray, List.set_cons_zero, List.set_cons_succ, i64_w, i32_w]
                    rfl
                   refine take_ (i := 5) (N := some 54) (v := ?_) (a' := ?_) #[true, true, true, true, true, true, false, false, false, false] rfl rfl (take_ofW HT_.out HW_.out (by kernel_rfl)) (fun _ _ _ h => h) (Or.inl ⟨by rfl, ?_⟩) hHeld ?_ ?_
                   rotate_left
                   ·rintro w' ⟨s0, s1, s2, s3, s4, s5, s6, s7, s8, s9⟩
                    go_simp
                    first | with_reducible rfl | (rw [if_neg (by simp only [ByteArray.size_append, ByteArray.size_extract, decide_eq_true_eq, eq_iff_iff, iff_true] at *; omega)]; try with_reducible rfl)
                   rotate_left
                   ·simp only [Act.put, List.setIfInBounds_toArray, List.set_cons_zero, List.set_cons_succ, i64_w, i32_w]
                    rfl
                   refine pure_ (i := 6) (N := some 55) (v := ?_) (a' := ?_) #[true, true, true, true, true, true, true, false, false, false] rfl rfl (any_of HT_.out (by kernel_rfl)) (fun _ _ _ h => h) (Or.inl ⟨by rfl, ?_⟩) ?_ ?_
                   rotate_left
                   ·intro w'
                    go_simp
                    first | with_reducible rfl | (rw [if_neg (by simp only [ByteArray.size_append, ByteArray.size_extract, decide_eq_true_eq, eq_iff_iff, iff_true] at *; omega)]; try with_reducible rfl)
                   rotate_left
                   ·simp only [Act.put, List.setIfInBounds_toArray, List.set_cons_zero, List.set_cons_succ, i64_w, i32_w]
                    rfl
                   refine take_ (i := 7) (N := some 56) (v := ?_) (a' := ?_) #[true, true, true, true, true, true, true, true, false, false] rfl rfl (take_ofW HT_.out HW_.out (by kernel_rfl)) (fun _ _ _ h => h) (Or.inl ⟨by rfl, ?_⟩) hHeld ?_ ?_
                   rotate_left
                   ·rintro w' ⟨s0, s1, s2, s3, s4, s5, s6, s7, s8, s9⟩
                    go_simp
                    first | with_reducible rfl | (rw [if_neg (by simp only [ByteArray.size_append, ByteArray.size_extract, decide_eq_true_eq, eq_iff_iff, iff_true] at *; omega)]; try with_reducible rfl)
                   rotate_left
                   ·simp only [Act.put, List.setIfInBounds_toArray, List.set_cons_zero, List.set_cons_succ, i64_w, i32_w]
                    rfl
                   refine one_ (i := 8) (N := some 11) #[true, true, true, true, true, true, true, true, true, false] rfl rfl (one_of HT_.out (by kernel_rfl)) (by decide) (fun K hK => ?_)
                   refine box_step ?hg (N := 11) ?hd (cs := #[.int .i64 0, .int .i64 0, .int .i64 0, .int .i64 0, .int .i64 0, .int .i64 0]) (t := 36) ?hr ?_; (case hd => rfl); (case hg => rfl); (case hr => first | (go_simp; done) | (go_simp; rfl))
                   intro gb225 hg w44 hbox hb
                   have HS3_ := (hb.cell (World.block_lt_of_cell? _ _ (hHeld.2.2.2.1))).trans (hHeld.2.2.2.1)
                   have HS4_ := (hb.cell (World.block_lt_of_cell? _ _ (hHeld.2.2.2.2.1))).trans (hHeld.2.2.2.2.1)
                   have HS5_ := (hb.cell (World.block_lt_of_cell? _ _ (hHeld.2.2.2.2.2.1))).trans (hHeld.2.2.2.2.2.1)
                   have HS6_ := (hb.cell (World.block_lt_of_cell? _ _ (hHeld.2.2.2.2.2.2.1))).trans (hHeld.2.2.2.2.2.2.1)
                   have HS7_ := (hb.cell (World.block_lt_of_cell? _ _ (hHeld.2.2.2.2.2.2.2.1))).trans (hHeld.2.2.2.2.2.2.2.1)
                   have HS8_ := (hb.cell (World.block_lt_of_cell? _ _ (hHeld.2.2.2.2.2.2.2.2.1))).trans (hHeld.2.2.2.2.2.2.2.2.1)
                   have HS9_ := (hb.cell (World.block_lt_of_cell? _ _ (hHeld.2.2.2.2.2.2.2.2.2))).trans (hHeld.2.2.2.2.2.2.2.2.2)
                   have n0_ := Aside0.mk (Kd.R_below (by (with_reducible repeat (first | apply Kd.R_alloc | apply Kd.R_drewN | apply Kd.R_drew)); exact HO_6.out) hb)
                   have n1_ := Aside0.mk (Kd.R_below (by (with_reducible repeat (first | apply Kd.R_alloc | apply Kd.R_drewN | apply Kd.R_drew)); exact HO_8.out) hb)
                   have n2_ := Aside0.mk (Kd.R_below (by (with_reducible repeat (first | apply Kd.R_alloc | apply Kd.R_drewN | apply Kd.R_drew)); exact HO_213001.out) hb)
                   have n3_ := Aside0.mk (Kd.R_below (Kd.R_elderB (by (with_reducible repeat (first | apply Kd.R_alloc | apply Kd.R_drewN | apply Kd.R_drew)); exact HO_213002.out) gb225 (Nat.le_of_eq hg.symm)) hb)
                   have n4_ := Aside0.mk (blk_below (g := gb212) (o := .cells #[.int .i64 t205, .slice Ao23 t206.length co23, .slice (some ad224) t209.length co24] 26 (0, 0)) (by (with_reducible repeat (first | refine blk_drewN ?_ _ | refine blk_drew ?_ | refine blk_alloc ?_ _)); exact BK212.out) hb)
                   have n5_ := Aside0.mk (below_step (by repeat (first | (with_reducible first | exact HB.out | apply below_alloc | apply pw_below_drewN | apply below_drew1 | refine below_set ?_ GE212.out) | exact HB.out)) hb)
                   have n6_ := Aside0.mk (hbox)
                   have n7_ := Aside0.mk ((by rw [hg]; exact (below_size (by repeat (first | (with_reducible first | exact HB.out | apply below_alloc | apply pw_below_drewN | apply below_drew1 | refine below_set ?_ GE212.out) | exact HB.out))) : w.heap.size ≤ gb225))
                   have n8_ := Aside0.mk ((by rw [hg]; exact (below_size (by repeat (first | (with_reducible first | exact HB.out | apply below_alloc | apply pw_below_drewN | apply below_drew1 | refine below_set ?_ GE212.out) | exact HB.out))) : w.heap.size ≤ gb225))
                   have n9_ := Aside0.mk ((by rw [hg]; exact Nat.ne_of_lt (blk_lt (g := gb212) (o := .cells #[.int .i64 t205, .slice Ao23 t206.length co23, .slice (some ad224) t209.length co24] 26 (0, 0)) (by (with_reducible repeat (first | refine blk_drewN ?_ _ | refine blk_drew ?_ | refine blk_alloc ?_ _)); exact BK212.out)) : gb212 ≠ gb225))
                   have n10_ := Aside0.mk ((by rw [hg]; exact Nat.ne_of_gt (blk_lt (g := gb212) (o := .cells #[.int .i64 t205, .slice Ao23 t206.length co23, .slice (some ad224) t209.length co24] 26 (0, 0)) (by (with_reducible repeat (first | refine blk_drewN ?_ _ | refine blk_drew ?_ | refine blk_alloc ?_ _)); exact BK212.out)) : gb225 ≠ gb212))
                   clear HO_6
                   clear HO_8
                   clear HO_213001
                   clear HO_213002
                   clear BK212
                   clear HB
                   have HO_6 := n0_
                   have HO_8 := n1_
                   have HO_213001 := n2_
                   have HO_213002 := n3_
                   have BK212 := n4_
                   have HB := n5_
                   have BK225 := n6_
                   have GW225 := n7_
                   have GE225 := n8_
                   have NB212_225 := n9_
                   have NB225_212 := n10_
                   clear n0_ n1_ n2_ n3_ n4_ n5_ n6_ n7_ n8_ n9_ n10_
                   clear hb hbox hg
                   refine hK.out _ _ ⟨(blk_cell BK212.out 0).trans rfl, (blk_cell BK212.out 1).trans rfl, (blk_cell BK212.out 2).trans rfl, HS3_, HS4_, HS5_, HS6_, HS7_, HS8_, HS9_⟩ (fun hHeld => ?_)
                   clear hK K
                   refine norm_ (a' := ?_) ?_ ?_
                   rotate_left
                   ·show Act.put _ (some 11) _ = _
                    simp only [Act.put, List.setIfInBounds_toArray, List.set_cons_zero, List.set_cons_succ, i64_w, i32_w]
                    rfl
                   refine one_ (i := 9) (N := none) #[true, true, true, true, true, true, true, true, true, true] rfl rfl (one_of HT_.out (by kernel_rfl)) (by decide) (fun K hK => ?_)
                   have hs45 : w44.cell? ⟨gb225, 0, none⟩ = some (.int .i64 0) := (blk_cell BK225.out 0).trans rfl
                   have hfs45 := blk_frozen BK225.out 0
                   have hns45_0 := NB212_225.out
                   have hms45_0 := NB225_212.out
                   have hs46 : w44.cell? ⟨gb225, 1, none⟩ = some (.int .i64 0) := (blk_cell BK225.out 1).trans rfl
                   have hfs46 := blk_frozen BK225.out 1
                   have hns46_0 := NB212_225.out
                   have hms46_0 := NB225_212.out
                   have hs47 : w44.cell? ⟨gb225, 2, none⟩ = some (.int .i64 0) := (blk_cell BK225.out 2).trans rfl
                   have hfs47 := blk_frozen BK225.out 2
                   have hns47_0 := NB212_225.out
                   have hms47_0 := NB225_212.out
                   have hs48 : w44.cell? ⟨gb225, 3, none⟩ = some (.int .i64 0) := (blk_cell BK225.out 3).trans rfl
                   have hfs48 := blk_frozen BK225.out 3
                   have hns48_0 := NB212_225.out
                   have hms48_0 := NB225_212.out
                   have hs49 : w44.cell? ⟨gb225, 4, none⟩ = some (.int .i64 0) := (blk_cell BK225.out 4).trans rfl
                   have hfs49 := blk_frozen BK225.out 4
                   have hns49_0 := NB212_225.out
                   have hms49_0 := NB225_212.out
                   have hs50 : w44.cell? ⟨gb225, 5, none⟩ = some (.int .i64 0) := (blk_cell BK225.out 5).trans rfl
                   have hfs50 := blk_frozen BK225.out 5
                   have hns50_0 := NB212_225.out
                   have hms50_0 := NB225_212.out
                   refine skip_ (w1 := ?_) (by rfl) rfl ?_ ?_
                   rotate_left
                   ·go_simp
                    rfl
                   refine hK.out _ _ ⟨((cell_far (p := ⟨gb225, _, none⟩) NB212_225.out _).trans (((cell_far (p := ⟨gb225, _, none⟩) NB212_225.out _).trans (((cell_far (p := ⟨gb225, _, none⟩) NB212_225.out _).trans (((cell_far (p := ⟨gb225, _, none⟩) NB212_225.out _).trans (((cell_far (p := ⟨gb225, _, none⟩) NB212_225.out _).trans (((cell_far (p := ⟨gb225, _, none⟩) NB212_225.out _).trans (hHeld.1)))))))))))), ((cell_far (p := ⟨gb225, _, none⟩) NB212_225.out _).trans (((cell_far (p := ⟨gb225, _, none⟩) NB212_225.out _).trans (((cell_far (p := ⟨gb225, _, none⟩) NB212_225.out _).trans (((cell_far (p := ⟨gb225, _, none⟩) NB212_225.out _).trans (((cell_far (p := ⟨gb225, _, none⟩) NB212_225.out _).trans (((cell_far (p := ⟨gb225, _, none⟩) NB212_225.out _).trans (hHeld.2.1)))))))))))), ((cell_far (p := ⟨gb225, _, none⟩) NB212_225.out _).trans (((cell_far (p := ⟨gb225, _, none⟩) NB212_225.out _).trans (((cell_far (p := ⟨gb225, _, none⟩) NB212_225.out _).trans (((cell_far (p := ⟨gb225, _, none⟩) NB212_225.out _).trans (((cell_far (p := ⟨gb225, _, none⟩) NB212_225.out _).trans (((cell_far (p := ⟨gb225, _, none⟩) NB212_225.out _).trans (hHeld.2.2.1)))))))))))), ((cell_far (p := ⟨gb225, _, none⟩) (by first | exact Kd.own_blk (Kd.R_ne HO_6.out BK225.out (by decide)) | (rw [add_block]; exact Kd.own_blk (Kd.R_ne HO_6.out BK225.out (by decide))) | (show (Addr.add _ _).block ≠ _; rw [add_block]; exact Kd.own_blk (Kd.R_ne HO_6.out BK225.out (by decide))) | (dsimp only; exact Kd.own_blk (Kd.R_ne HO_6.out BK225.out (by decide)))) _).trans (((cell_far (p := ⟨gb225, _, none⟩) (by first | exact Kd.own_blk (Kd.R_ne HO_6.out BK225.out (by decide)) | (rw [add_block]; exact Kd.own_blk (Kd.R_ne HO_6.out BK225.out (by decide))) | (show (Addr.add _ _).block ≠ _; rw [add_block]; exact Kd.own_blk (Kd.R_ne HO_6.out BK225.out (by decide))) | (dsimp only; exact Kd.own_blk (Kd.R_ne HO_6.out BK225.out (by decide)))) _).trans (((cell_far (p := ⟨gb225, _, none⟩) (by first | exact Kd.own_blk (Kd.R_ne HO_6.out BK225.out (by decide)) | (rw [add_block]; exact Kd.own_blk (Kd.R_ne HO_6.out BK225.out (by decide))) | (show (Addr.add _ _).block ≠ _; rw [add_block]; exact Kd.own_blk (Kd.R_ne HO_6.out BK225.out (by decide))) | (dsimp only; exact Kd.own_blk (Kd.R_ne HO_6.out BK225.out (by decide)))) _).trans (((cell_far (p := ⟨gb225, _, none⟩) (by first | exact Kd.own_blk (Kd.R_ne HO_6.out BK225.out (by decide)) | (rw [add_block]; exact Kd.own_blk (Kd.R_ne HO_6.out BK225.out (by decide))) | (show (Addr.add _ _).block ≠ _; rw [add_block]; exact Kd.own_blk (Kd.R_ne HO_6.out BK225.out (by decide))) | (dsimp only; exact Kd.own_blk (Kd.R_ne HO_6.out BK225.out (by decide)))) _).trans (((cell_far (p := ⟨gb225, _, none⟩) (by first | exact Kd.own_blk (Kd.R_ne HO_6.out BK225.out (by decide)) | (rw [add_block]; exact Kd.own_blk (Kd.R_ne HO_6.out BK225.out (by decide))) | (show (Addr.add _ _).block ≠ _; rw [add_block]; exact Kd.own_blk (Kd.R_ne HO_6.out BK225.out (by decide))) | (dsimp only; exact Kd.own_blk (Kd.R_ne HO_6.out BK225.out (by decide)))) _).trans (((cell_far (p := ⟨gb225, _, none⟩) (by first | exact Kd.own_blk (Kd.R_ne HO_6.out BK225.out (by decide)) | (rw [add_block]; exact Kd.own_blk (Kd.R_ne HO_6.out BK225.out (by decide))) | (show (Addr.add _ _).block ≠ _; rw [add_block]; exact Kd.own_blk (Kd.R_ne HO_6.out BK225.out (by decide))) | (dsimp only; exact Kd.own_blk (Kd.R_ne HO_6.out BK225.out (by decide)))) _).trans (hHeld.2.2.2.1)))))))))))), ((cell_far (p := ⟨gb225, _, none⟩) (by first | exact Kd.own_blk (Kd.R_away HO_213002.out (fun _ hk => hk.2)) | (rw [add_block]; exact Kd.own_blk (Kd.R_away HO_213002.out (fun _ hk => hk.2))) | (show (Addr.add _ _).block ≠ _; rw [add_block]; exact Kd.own_blk (Kd.R_away HO_213002.out (fun _ hk => hk.2))) | (dsimp only; exact Kd.own_blk (Kd.R_away HO_213002.out (fun _ hk => hk.2)))) _).trans (((cell_far (p := ⟨gb225, _, none⟩) (by first | exact Kd.own_blk (Kd.R_away HO_213002.out (fun _ hk => hk.2)) | (rw [add_block]; exact Kd.own_blk (Kd.R_away HO_213002.out (fun _ hk => hk.2))) | (show (Addr.add _ _).block ≠ _; rw [add_block]; exact Kd.own_blk (Kd.R_away HO_213002.out (fun _ hk => hk.2))) | (dsimp only; exact Kd.own_blk (Kd.R_away HO_213002.out (fun _ hk => hk.2)))) _).trans (((cell_far (p := ⟨gb225, _, none⟩) (by first | exact Kd.own_blk (Kd.R_away HO_213002.out (fun _ hk => hk.2)) | (rw [add_block]; exact Kd.own_blk (Kd.R_away HO_213002.out (fun _ hk => hk.2))) | (show (Addr.add _ _).block ≠ _; rw [add_block]; exact Kd.own_blk (Kd.R_away HO_213002.out (fun _ hk => hk.2))) | (dsimp only; exact Kd.own_blk (Kd.R_away HO_213002.out (fun _ hk => hk.2)))) _).trans (((cell_far (p := ⟨gb225, _, none⟩) (by first | exact Kd.own_blk (Kd.R_away HO_213002.out (fun _ hk => hk.2)) | (rw [add_block]; exact Kd.own_blk (Kd.R_away HO_213002.out (fun _ hk => hk.2))) | (show (Addr.add _ _).block ≠ _; rw [add_block]; exact Kd.own_blk (Kd.R_away HO_213002.out (fun _ hk => hk.2))) | (dsimp only; exact Kd.own_blk (Kd.R_away HO_213002.out (fun _ hk => hk.2)))) _).trans (((cell_far (p := ⟨gb225, _, none⟩) (by first | exact Kd.own_blk (Kd.R_away HO_213002.out (fun _ hk => hk.2)) | (rw [add_block]; exact Kd.own_blk (Kd.R_away HO_213002.out (fun _ hk => hk.2))) | (show (Addr.add _ _).block ≠ _; rw [add_block]; exact Kd.own_blk (Kd.R_away HO_213002.out (fun _ hk => hk.2))) | (dsimp only; exact Kd.own_blk (Kd.R_away HO_213002.out (fun _ hk => hk.2)))) _).trans (((cell_far (p := ⟨gb225, _, none⟩) (by first | exact Kd.own_blk (Kd.R_away HO_213002.out (fun _ hk => hk.2)) | (rw [add_block]; exact Kd.own_blk (Kd.R_away HO_213002.out (fun _ hk => hk.2))) | (show (Addr.add _ _).block ≠ _; rw [add_block]; exact Kd.own_blk (Kd.R_away HO_213002.out (fun _ hk => hk.2))) | (dsimp only; exact Kd.own_blk (Kd.R_away HO_213002.out (fun _ hk => hk.2)))) _).trans (hHeld.2.2.2.2.1)))))))))))), ((cell_far (p := ⟨gb225, _, none⟩) (by first | exact Kd.own_blk (Kd.R_away HO_213002.out (fun _ hk => hk.2)) | (rw [add_block]; exact Kd.own_blk (Kd.R_away HO_213002.out (fun _ hk => hk.2))) | (show (Addr.add _ _).block ≠ _; rw [add_block]; exact Kd.own_blk (Kd.R_away HO_213002.out (fun _ hk => hk.2))) | (dsimp only; exact Kd.own_blk (Kd.R_away HO_213002.out (fun _ hk => hk.2)))) _).trans (((cell_far (p := ⟨gb225, _, none⟩) (by first | exact Kd.own_blk (Kd.R_away HO_213002.out (fun _ hk => hk.2)) | (rw [add_block]; exact Kd.own_blk (Kd.R_away HO_213002.out (fun _ hk => hk.2))) | (show (Addr.add _ _).block ≠ _; rw [add_block]; exact Kd.own_blk (Kd.R_away HO_213002.out (fun _ hk => hk.2))) | (dsimp only; exact Kd.own_blk (Kd.R_away HO_213002.out (fun _ hk => hk.2)))) _).trans (((cell_far (p := ⟨gb225, _, none⟩) (by first | exact Kd.own_blk (Kd.R_away HO_213002.out (fun _ hk => hk.2)) | (rw [add_block]; exact Kd.own_blk (Kd.R_away HO_213002.out (fun _ hk => hk.2))) | (show (Addr.add _ _).block ≠ _; rw [add_block]; exact Kd.own_blk (Kd.R_away HO_213002.out (fun _ hk => hk.2))) | (dsimp only; exact Kd.own_blk (Kd.R_away HO_213002.out (fun _ hk => hk.2)))) _).trans (((cell_far (p := ⟨gb225, _, none⟩) (by first | exact Kd.own_blk (Kd.R_away HO_213002.out (fun _ hk => hk.2)) | (rw [add_block]; exact Kd.own_blk (Kd.R_away HO_213002.out (fun _ hk => hk.2))) | (show (Addr.add _ _).block ≠ _; rw [add_block]; exact Kd.own_blk (Kd.R_away HO_213002.out (fun _ hk => hk.2))) | (dsimp only; exact Kd.own_blk (Kd.R_away HO_213002.out (fun _ hk => hk.2)))) _).trans (((cell_far (p := ⟨gb225, _, none⟩) (by first | exact Kd.own_blk (Kd.R_away HO_213002.out (fun _ hk => hk.2)) | (rw [add_block]; exact Kd.own_blk (Kd.R_away HO_213002.out (fun _ hk => hk.2))) | (show (Addr.add _ _).block ≠ _; rw [add_block]; exact Kd.own_blk (Kd.R_away HO_213002.out (fun _ hk => hk.2))) | (dsimp only; exact Kd.own_blk (Kd.R_away HO_213002.out (fun _ hk => hk.2)))) _).trans (((cell_far (p := ⟨gb225, _, none⟩) (by first | exact Kd.own_blk (Kd.R_away HO_213002.out (fun _ hk => hk.2)) | (rw [add_block]; exact Kd.own_blk (Kd.R_away HO_213002.out (fun _ hk => hk.2))) | (show (Addr.add _ _).block ≠ _; rw [add_block]; exact Kd.own_blk (Kd.R_away HO_213002.out (fun _ hk => hk.2))) | (dsimp only; exact Kd.own_blk (Kd.R_away HO_213002.out (fun _ hk => hk.2)))) _).trans (hHeld.2.2.2.2.2.1)))))))))))), ((cell_far (p := ⟨gb225, _, none⟩) (by first | exact Kd.own_blk (Kd.R_away HO_213002.out (fun _ hk => hk.2)) | (rw [add_block]; exact Kd.own_blk (Kd.R_away HO_213002.out (fun _ hk => hk.2))) | (show (Addr.add _ _).block ≠ _; rw [add_block]; exact Kd.own_blk (Kd.R_away HO_213002.out (fun _ hk => hk.2))) | (dsimp only; exact Kd.own_blk (Kd.R_away HO_213002.out (fun _ hk => hk.2)))) _).trans (((cell_far (p := ⟨gb225, _, none⟩) (by first | exact Kd.own_blk (Kd.R_away HO_213002.out (fun _ hk => hk.2)) | (rw [add_block]; exact Kd.own_blk (Kd.R_away HO_213002.out (fun _ hk => hk.2))) | (show (Addr.add _ _).block ≠ _; rw [add_block]; exact Kd.own_blk (Kd.R_away HO_213002.out (fun _ hk => hk.2))) | (dsimp only; exact Kd.own_blk (Kd.R_away HO_213002.out (fun _ hk => hk.2)))) _).trans (((cell_far (p := ⟨gb225, _, none⟩) (by first | exact Kd.own_blk (Kd.R_away HO_213002.out (fun _ hk => hk.2)) | (rw [add_block]; exact Kd.own_blk (Kd.R_away HO_213002.out (fun _ hk => hk.2))) | (show (Addr.add _ _).block ≠ _; rw [add_block]; exact Kd.own_blk (Kd.R_away HO_213002.out (fun _ hk => hk.2))) | (dsimp only; exact Kd.own_blk (Kd.R_away HO_213002.out (fun _ hk => hk.2)))) _).trans (((cell_far (p := ⟨gb225, _, none⟩) (by first | exact Kd.own_blk (Kd.R_away HO_213002.out (fun _ hk => hk.2)) | (rw [add_block]; exact Kd.own_blk (Kd.R_away HO_213002.out (fun _ hk => hk.2))) | (show (Addr.add _ _).block ≠ _; rw [add_block]; exact Kd.own_blk (Kd.R_away HO_213002.out (fun _ hk => hk.2))) | (dsimp only; exact Kd.own_blk (Kd.R_away HO_213002.out (fun _ hk => hk.2)))) _).trans (((cell_far (p := ⟨gb225, _, none⟩) (by first | exact Kd.own_blk (Kd.R_away HO_213002.out (fun _ hk => hk.2)) | (rw [add_block]; exact Kd.own_blk (Kd.R_away HO_213002.out (fun _ hk => hk.2))) | (show (Addr.add _ _).block ≠ _; rw [add_block]; exact Kd.own_blk (Kd.R_away HO_213002.out (fun _ hk => hk.2))) | (dsimp only; exact Kd.own_blk (Kd.R_away HO_213002.out (fun _ hk => hk.2)))) _).trans (((cell_far (p := ⟨gb225, _, none⟩) (by first | exact Kd.own_blk (Kd.R_away HO_213002.out (fun _ hk => hk.2)) | (rw [add_block]; exact Kd.own_blk (Kd.R_away HO_213002.out (fun _ hk => hk.2))) | (show (Addr.add _ _).block ≠ _; rw [add_block]; exact Kd.own_blk (Kd.R_away HO_213002.out (fun _ hk => hk.2))) | (dsimp only; exact Kd.own_blk (Kd.R_away HO_213002.out (fun _ hk => hk.2)))) _).trans (hHeld.2.2.2.2.2.2.1)))))))))))), ((cell_far (p := ⟨gb225, _, none⟩) (by first | exact Kd.own_blk (Kd.R_away HO_213002.out (fun _ hk => hk.2)) | (rw [add_block]; exact Kd.own_blk (Kd.R_away HO_213002.out (fun _ hk => hk.2))) | (show (Addr.add _ _).block ≠ _; rw [add_block]; exact Kd.own_blk (Kd.R_away HO_213002.out (fun _ hk => hk.2))) | (dsimp only; exact Kd.own_blk (Kd.R_away HO_213002.out (fun _ hk => hk.2)))) _).trans (((cell_far (p := ⟨gb225, _, none⟩) (by first | exact Kd.own_blk (Kd.R_away HO_213002.out (fun _ hk => hk.2)) | (rw [add_block]; exact Kd.own_blk (Kd.R_away HO_213002.out (fun _ hk => hk.2))) | (show (Addr.add _ _).block ≠ _; rw [add_block]; exact Kd.own_blk (Kd.R_away HO_213002.out (fun _ hk => hk.2))) | (dsimp only; exact Kd.own_blk (Kd.R_away HO_213002.out (fun _ hk => hk.2)))) _).trans (((cell_far (p := ⟨gb225, _, none⟩) (by first | exact Kd.own_blk (Kd.R_away HO_213002.out (fun _ hk => hk.2)) | (rw [add_block]; exact Kd.own_blk (Kd.R_away HO_213002.out (fun _ hk => hk.2))) | (show (Addr.add _ _).block ≠ _; rw [add_block]; exact Kd.own_blk (Kd.R_away HO_213002.out (fun _ hk => hk.2))) | (dsimp only; exact Kd.own_blk (Kd.R_away HO_213002.out (fun _ hk => hk.2)))) _).trans (((cell_far (p := ⟨gb225, _, none⟩) (by first | exact Kd.own_blk (Kd.R_away HO_213002.out (fun _ hk => hk.2)) | (rw [add_block]; exact Kd.own_blk (Kd.R_away HO_213002.out (fun _ hk => hk.2))) | (show (Addr.add _ _).block ≠ _; rw [add_block]; exact Kd.own_blk (Kd.R_away HO_213002.out (fun _ hk => hk.2))) | (dsimp only; exact Kd.own_blk (Kd.R_away HO_213002.out (fun _ hk => hk.2)))) _).trans (((cell_far (p := ⟨gb225, _, none⟩) (by first | exact Kd.own_blk (Kd.R_away HO_213002.out (fun _ hk => hk.2)) | (rw [add_block]; exact Kd.own_blk (Kd.R_away HO_213002.out (fun _ hk => hk.2))) | (show (Addr.add _ _).block ≠ _; rw [add_block]; exact Kd.own_blk (Kd.R_away HO_213002.out (fun _ hk => hk.2))) | (dsimp only; exact Kd.own_blk (Kd.R_away HO_213002.out (fun _ hk => hk.2)))) _).trans (((cell_far (p := ⟨gb225, _, none⟩) (by first | exact Kd.own_blk (Kd.R_away HO_213002.out (fun _ hk => hk.2)) | (rw [add_block]; exact Kd.own_blk (Kd.R_away HO_213002.out (fun _ hk => hk.2))) | (show (Addr.add _ _).block ≠ _; rw [add_block]; exact Kd.own_blk (Kd.R_away HO_213002.out (fun _ hk => hk.2))) | (dsimp only; exact Kd.own_blk (Kd.R_away HO_213002.out (fun _ hk => hk.2)))) _).trans (hHeld.2.2.2.2.2.2.2.1)))))))))))), ((cell_far (p := ⟨gb225, _, none⟩) (by first | exact Kd.own_blk (Kd.R_away HO_213002.out (fun _ hk => hk.2)) | (rw [add_block]; exact Kd.own_blk (Kd.R_away HO_213002.out (fun _ hk => hk.2))) | (show (Addr.add _ _).block ≠ _; rw [add_block]; exact Kd.own_blk (Kd.R_away HO_213002.out (fun _ hk => hk.2))) | (dsimp only; exact Kd.own_blk (Kd.R_away HO_213002.out (fun _ hk => hk.2)))) _).trans (((cell_far (p := ⟨gb225, _, none⟩) (by first | exact Kd.own_blk (Kd.R_away HO_213002.out (fun _ hk => hk.2)) | (rw [add_block]; exact Kd.own_blk (Kd.R_away HO_213002.out (fun _ hk => hk.2))) | (show (Addr.add _ _).block ≠ _; rw [add_block]; exact Kd.own_blk (Kd.R_away HO_213002.out (fun _ hk => hk.2))) | (dsimp only; exact Kd.own_blk (Kd.R_away HO_213002.out (fun _ hk => hk.2)))) _).trans (((cell_far (p := ⟨gb225, _, none⟩) (by first | exact Kd.own_blk (Kd.R_away HO_213002.out (fun _ hk => hk.2)) | (rw [add_block]; exact Kd.own_blk (Kd.R_away HO_213002.out (fun _ hk => hk.2))) | (show (Addr.add _ _).block ≠ _; rw [add_block]; exact Kd.own_blk (Kd.R_away HO_213002.out (fun _ hk => hk.2))) | (dsimp only; exact Kd.own_blk (Kd.R_away HO_213002.out (fun _ hk => hk.2)))) _).trans (((cell_far (p := ⟨gb225, _, none⟩) (by first | exact Kd.own_blk (Kd.R_away HO_213002.out (fun _ hk => hk.2)) | (rw [add_block]; exact Kd.own_blk (Kd.R_away HO_213002.out (fun _ hk => hk.2))) | (show (Addr.add _ _).block ≠ _; rw [add_block]; exact Kd.own_blk (Kd.R_away HO_213002.out (fun _ hk => hk.2))) | (dsimp only; exact Kd.own_blk (Kd.R_away HO_213002.out (fun _ hk => hk.2)))) _).trans (((cell_far (p := ⟨gb225, _, none⟩) (by first | exact Kd.own_blk (Kd.R_away HO_213002.out (fun _ hk => hk.2)) | (rw [add_block]; exact Kd.own_blk (Kd.R_away HO_213002.out (fun _ hk => hk.2))) | (show (Addr.add _ _).block ≠ _; rw [add_block]; exact Kd.own_blk (Kd.R_away HO_213002.out (fun _ hk => hk.2))) | (dsimp only; exact Kd.own_blk (Kd.R_away HO_213002.out (fun _ hk => hk.2)))) _).trans (((cell_far (p := ⟨gb225, _, none⟩) (by first | exact Kd.own_blk (Kd.R_away HO_213002.out (fun _ hk => hk.2)) | (rw [add_block]; exact Kd.own_blk (Kd.R_away HO_213002.out (fun _ hk => hk.2))) | (show (Addr.add _ _).block ≠ _; rw [add_block]; exact Kd.own_blk (Kd.R_away HO_213002.out (fun _ hk => hk.2))) | (dsimp only; exact Kd.own_blk (Kd.R_away HO_213002.out (fun _ hk => hk.2)))) _).trans (hHeld.2.2.2.2.2.2.2.2.1)))))))))))), ((cell_far (p := ⟨gb225, _, none⟩) (by first | exact Kd.own_blk (Kd.R_away HO_213002.out (fun _ hk => hk.2)) | (rw [add_block]; exact Kd.own_blk (Kd.R_away HO_213002.out (fun _ hk => hk.2))) | (show (Addr.add _ _).block ≠ _; rw [add_block]; exact Kd.own_blk (Kd.R_away HO_213002.out (fun _ hk => hk.2))) | (dsimp only; exact Kd.own_blk (Kd.R_away HO_213002.out (fun _ hk => hk.2)))) _).trans (((cell_far (p := ⟨gb225, _, none⟩) (by first | exact Kd.own_blk (Kd.R_away HO_213002.out (fun _ hk => hk.2)) | (rw [add_block]; exact Kd.own_blk (Kd.R_away HO_213002.out (fun _ hk => hk.2))) | (show (Addr.add _ _).block ≠ _; rw [add_block]; exact Kd.own_blk (Kd.R_away HO_213002.out (fun _ hk => hk.2))) | (dsimp only; exact Kd.own_blk (Kd.R_away HO_213002.out (fun _ hk => hk.2)))) _).trans (((cell_far (p := ⟨gb225, _, none⟩) (by first | exact Kd.own_blk (Kd.R_away HO_213002.out (fun _ hk => hk.2)) | (rw [add_block]; exact Kd.own_blk (Kd.R_away HO_213002.out (fun _ hk => hk.2))) | (show (Addr.add _ _).block ≠ _; rw [add_block]; exact Kd.own_blk (Kd.R_away HO_213002.out (fun _ hk => hk.2))) | (dsimp only; exact Kd.own_blk (Kd.R_away HO_213002.out (fun _ hk => hk.2)))) _).trans (((cell_far (p := ⟨gb225, _, none⟩) (by first | exact Kd.own_blk (Kd.R_away HO_213002.out (fun _ hk => hk.2)) | (rw [add_block]; exact Kd.own_blk (Kd.R_away HO_213002.out (fun _ hk => hk.2))) | (show (Addr.add _ _).block ≠ _; rw [add_block]; exact Kd.own_blk (Kd.R_away HO_213002.out (fun _ hk => hk.2))) | (dsimp only; exact Kd.own_blk (Kd.R_away HO_213002.out (fun _ hk => hk.2)))) _).trans (((cell_far (p := ⟨gb225, _, none⟩) (by first | exact Kd.own_blk (Kd.R_away HO_213002.out (fun _ hk => hk.2)) | (rw [add_block]; exact Kd.own_blk (Kd.R_away HO_213002.out (fun _ hk => hk.2))) | (show (Addr.add _ _).block ≠ _; rw [add_block]; exact Kd.own_blk (Kd.R_away HO_213002.out (fun _ hk => hk.2))) | (dsimp only; exact Kd.own_blk (Kd.R_away HO_213002.out (fun _ hk => hk.2)))) _).trans (((cell_far (p := ⟨gb225, _, none⟩) (by first | exact Kd.own_blk (Kd.R_away HO_213002.out (fun _ hk => hk.2)) | (rw [add_block]; exact Kd.own_blk (Kd.R_away HO_213002.out (fun _ hk => hk.2))) | (show (Addr.add _ _).block ≠ _; rw [add_block]; exact Kd.own_blk (Kd.R_away HO_213002.out (fun _ hk => hk.2))) | (dsimp only; exact Kd.own_blk (Kd.R_away HO_213002.out (fun _ hk => hk.2)))) _).trans (hHeld.2.2.2.2.2.2.2.2.2))))))))))))⟩ (fun hHeld => ?_)
                   clear hK K
                   refine done_ (done_of HT_.out (by kernel_rfl)) ?_
                   try go_wp2
                   have n0_ : Aside0 (Kd.R (Kd.int .i64) 3 ((((((w44.setCell ⟨gb225, 0, none⟩ (.int .i64 ((rd_T36 t209 (rd t213 x46_2)).f0))).setCell ⟨gb225, 1, none⟩ (.int .i64 ((rd_T36 t209 (rd t213 x46_2)).f1))).setCell ⟨gb225, 2, none⟩ (.int .i64 ((rd_T36 t209 (rd t213 x46_2)).f2))).setCell ⟨gb225, 3, none⟩ (.int .i64 ((rd_T36 t209 (rd t213 x46_2)).f3))).setCell ⟨gb225, 4, none⟩ (.int .i64 ((rd_T36 t209 (rd t213 x46_2)).f4))).setCell ⟨gb225, 5, none⟩ (.int .i64 ((rd_T36 t209 (rd t213 x46_2)).f5))) w.heap.size (fun _ => True) (.slice (some ad218) t213.length co26) t213) := ⟨by (with_reducible repeat (first | apply Kd.R_alloc | apply Kd.R_drewN | apply Kd.R_drew)); exact Kd.R_mono (Kd.R_far (p := ⟨gb225, 5, none⟩) (Kd.R_far (p := ⟨gb225, 4, none⟩) (Kd.R_far (p := ⟨gb225, 3, none⟩) (Kd.R_far (p := ⟨gb225, 2, none⟩) (Kd.R_far (p := ⟨gb225, 1, none⟩) (Kd.R_far (p := ⟨gb225, 0, none⟩) (Kd.R_types HO_6.out BK225.out (by decide)) (fun _ hk => hk.2) (.int .i64 ((rd_T36 t209 (rd t213 x46_2)).f0))) (fun _ hk => hk.2) (.int .i64 ((rd_T36 t209 (rd t213 x46_2)).f1))) (fun _ hk => hk.2) (.int .i64 ((rd_T36 t209 (rd t213 x46_2)).f2))) (fun _ hk => hk.2) (.int .i64 ((rd_T36 t209 (rd t213 x46_2)).f3))) (fun _ hk => hk.2) (.int .i64 ((rd_T36 t209 (rd t213 x46_2)).f4))) (fun _ hk => hk.2) (.int .i64 ((rd_T36 t209 (rd t213 x46_2)).f5))) (fun _ hk => trivial)⟩
                   have n1_ : Aside0 (Kd.R Kd.bool 4 ((((((w44.setCell ⟨gb225, 0, none⟩ (.int .i64 ((rd_T36 t209 (rd t213 x46_2)).f0))).setCell ⟨gb225, 1, none⟩ (.int .i64 ((rd_T36 t209 (rd t213 x46_2)).f1))).setCell ⟨gb225, 2, none⟩ (.int .i64 ((rd_T36 t209 (rd t213 x46_2)).f2))).setCell ⟨gb225, 3, none⟩ (.int .i64 ((rd_T36 t209 (rd t213 x46_2)).f3))).setCell ⟨gb225, 4, none⟩ (.int .i64 ((rd_T36 t209 (rd t213 x46_2)).f4))).setCell ⟨gb225, 5, none⟩ (.int .i64 ((rd_T36 t209 (rd t213 x46_2)).f5))) w.heap.size (fun _ => True) v220 t219) := ⟨by (with_reducible repeat (first | apply Kd.R_alloc | apply Kd.R_drewN | apply Kd.R_drew)); exact Kd.R_mono (Kd.R_far (p := ⟨gb225, 5, none⟩) (Kd.R_far (p := ⟨gb225, 4, none⟩) (Kd.R_far (p := ⟨gb225, 3, none⟩) (Kd.R_far (p := ⟨gb225, 2, none⟩) (Kd.R_far (p := ⟨gb225, 1, none⟩) (Kd.R_far (p := ⟨gb225, 0, none⟩) (Kd.R_types HO_8.out BK225.out (by decide)) (fun _ hk => hk.2) (.int .i64 ((rd_T36 t209 (rd t213 x46_2)).f0))) (fun _ hk => hk.2) (.int .i64 ((rd_T36 t209 (rd t213 x46_2)).f1))) (fun _ hk => hk.2) (.int .i64 ((rd_T36 t209 (rd t213 x46_2)).f2))) (fun _ hk => hk.2) (.int .i64 ((rd_T36 t209 (rd t213 x46_2)).f3))) (fun _ hk => hk.2) (.int .i64 ((rd_T36 t209 (rd t213 x46_2)).f4))) (fun _ hk => hk.2) (.int .i64 ((rd_T36 t209 (rd t213 x46_2)).f5))) (fun _ hk => trivial)⟩
                   have n2_ : Aside0 (Kd.R k97 97 ((((((w44.setCell ⟨gb225, 0, none⟩ (.int .i64 ((rd_T36 t209 (rd t213 x46_2)).f0))).setCell ⟨gb225, 1, none⟩ (.int .i64 ((rd_T36 t209 (rd t213 x46_2)).f1))).setCell ⟨gb225, 2, none⟩ (.int .i64 ((rd_T36 t209 (rd t213 x46_2)).f2))).setCell ⟨gb225, 3, none⟩ (.int .i64 ((rd_T36 t209 (rd t213 x46_2)).f3))).setCell ⟨gb225, 4, none⟩ (.int .i64 ((rd_T36 t209 (rd t213 x46_2)).f4))).setCell ⟨gb225, 5, none⟩ (.int .i64 ((rd_T36 t209 (rd t213 x46_2)).f5))) w.heap.size (fun _ => True) (.slice Ao23 t206.length co23) t206) := ⟨by (with_reducible repeat (first | apply Kd.R_alloc | apply Kd.R_drewN | apply Kd.R_drew)); exact Kd.R_mono (Kd.R_far (p := ⟨gb225, 5, none⟩) (Kd.R_far (p := ⟨gb225, 4, none⟩) (Kd.R_far (p := ⟨gb225, 3, none⟩) (Kd.R_far (p := ⟨gb225, 2, none⟩) (Kd.R_far (p := ⟨gb225, 1, none⟩) (Kd.R_far (p := ⟨gb225, 0, none⟩) (Kd.R_types HO_213001.out BK225.out (by decide)) (fun _ hk => hk.2) (.int .i64 ((rd_T36 t209 (rd t213 x46_2)).f0))) (fun _ hk => hk.2) (.int .i64 ((rd_T36 t209 (rd t213 x46_2)).f1))) (fun _ hk => hk.2) (.int .i64 ((rd_T36 t209 (rd t213 x46_2)).f2))) (fun _ hk => hk.2) (.int .i64 ((rd_T36 t209 (rd t213 x46_2)).f3))) (fun _ hk => hk.2) (.int .i64 ((rd_T36 t209 (rd t213 x46_2)).f4))) (fun _ hk => hk.2) (.int .i64 ((rd_T36 t209 (rd t213 x46_2)).f5))) (fun _ hk => trivial)⟩
                   have n3_ : Aside0 (Kd.R k36 36 ((((((w44.setCell ⟨gb225, 0, none⟩ (.int .i64 ((rd_T36 t209 (rd t213 x46_2)).f0))).setCell ⟨gb225, 1, none⟩ (.int .i64 ((rd_T36 t209 (rd t213 x46_2)).f1))).setCell ⟨gb225, 2, none⟩ (.int .i64 ((rd_T36 t209 (rd t213 x46_2)).f2))).setCell ⟨gb225, 3, none⟩ (.int .i64 ((rd_T36 t209 (rd t213 x46_2)).f3))).setCell ⟨gb225, 4, none⟩ (.int .i64 ((rd_T36 t209 (rd t213 x46_2)).f4))).setCell ⟨gb225, 5, none⟩ (.int .i64 ((rd_T36 t209 (rd t213 x46_2)).f5))) w.heap.size (fun k_ => k_ ≠ gb225) (.slice (some ad224) t209.length co24) t209) := ⟨by (with_reducible repeat (first | apply Kd.R_alloc | apply Kd.R_drewN | apply Kd.R_drew)); exact Kd.R_mono (Kd.R_far (p := ⟨gb225, 5, none⟩) (Kd.R_far (p := ⟨gb225, 4, none⟩) (Kd.R_far (p := ⟨gb225, 3, none⟩) (Kd.R_far (p := ⟨gb225, 2, none⟩) (Kd.R_far (p := ⟨gb225, 1, none⟩) (Kd.R_far (p := ⟨gb225, 0, none⟩) (Kd.R_mono HO_213002.out (fun k_ hk => (⟨hk, hk.2⟩ : _ ∧ k_ ≠ gb225))) (fun _ hk => hk.2) (.int .i64 ((rd_T36 t209 (rd t213 x46_2)).f0))) (fun _ hk => hk.2) (.int .i64 ((rd_T36 t209 (rd t213 x46_2)).f1))) (fun _ hk => hk.2) (.int .i64 ((rd_T36 t209 (rd t213 x46_2)).f2))) (fun _ hk => hk.2) (.int .i64 ((rd_T36 t209 (rd t213 x46_2)).f3))) (fun _ hk => hk.2) (.int .i64 ((rd_T36 t209 (rd t213 x46_2)).f4))) (fun _ hk => hk.2) (.int .i64 ((rd_T36 t209 (rd t213 x46_2)).f5))) (fun _ hk => hk.1.2)⟩
                   have n4_ : Aside0 (((((((w44.setCell ⟨gb225, 0, none⟩ (.int .i64 ((rd_T36 t209 (rd t213 x46_2)).f0))).setCell ⟨gb225, 1, none⟩ (.int .i64 ((rd_T36 t209 (rd t213 x46_2)).f1))).setCell ⟨gb225, 2, none⟩ (.int .i64 ((rd_T36 t209 (rd t213 x46_2)).f2))).setCell ⟨gb225, 3, none⟩ (.int .i64 ((rd_T36 t209 (rd t213 x46_2)).f3))).setCell ⟨gb225, 4, none⟩ (.int .i64 ((rd_T36 t209 (rd t213 x46_2)).f4))).setCell ⟨gb225, 5, none⟩ (.int .i64 ((rd_T36 t209 (rd t213 x46_2)).f5))).heap[gb212]? = some (.cells #[.int .i64 t205, .slice Ao23 t206.length co23, .slice (some ad224) t209.length co24] 26 (0, 0))) := ⟨by (with_reducible repeat (first | refine blk_drewN ?_ _ | refine blk_drew ?_ | refine blk_alloc ?_ _)); refine blk_far ?_ NB212_225.out _; (with_reducible repeat (first | refine blk_drewN ?_ _ | refine blk_drew ?_ | refine blk_alloc ?_ _)); refine blk_far ?_ NB212_225.out _; (with_reducible repeat (first | refine blk_drewN ?_ _ | refine blk_drew ?_ | refine blk_alloc ?_ _)); refine blk_far ?_ NB212_225.out _; (with_reducible repeat (first | refine blk_drewN ?_ _ | refine blk_drew ?_ | refine blk_alloc ?_ _)); refine blk_far ?_ NB212_225.out _; (with_reducible repeat (first | refine blk_drewN ?_ _ | refine blk_drew ?_ | refine blk_alloc ?_ _)); refine blk_far ?_ NB212_225.out _; (with_reducible repeat (first | refine blk_drewN ?_ _ | refine blk_drew ?_ | refine blk_alloc ?_ _)); refine blk_far ?_ NB212_225.out _; (with_reducible repeat (first | refine blk_drewN ?_ _ | refine blk_drew ?_ | refine blk_alloc ?_ _)); exact BK212.out⟩
                   have n5_ : Aside0 (((((((w44.setCell ⟨gb225, 0, none⟩ (.int .i64 ((rd_T36 t209 (rd t213 x46_2)).f0))).setCell ⟨gb225, 1, none⟩ (.int .i64 ((rd_T36 t209 (rd t213 x46_2)).f1))).setCell ⟨gb225, 2, none⟩ (.int .i64 ((rd_T36 t209 (rd t213 x46_2)).f2))).setCell ⟨gb225, 3, none⟩ (.int .i64 ((rd_T36 t209 (rd t213 x46_2)).f3))).setCell ⟨gb225, 4, none⟩ (.int .i64 ((rd_T36 t209 (rd t213 x46_2)).f4))).setCell ⟨gb225, 5, none⟩ (.int .i64 ((rd_T36 t209 (rd t213 x46_2)).f5))).heap[gb225]? = some (.cells #[.int .i64 ((rd_T36 t209 (rd t213 x46_2)).f0), .int .i64 ((rd_T36 t209 (rd t213 x46_2)).f1), .int .i64 ((rd_T36 t209 (rd t213 x46_2)).f2), .int .i64 ((rd_T36 t209 (rd t213 x46_2)).f3), .int .i64 ((rd_T36 t209 (rd t213 x46_2)).f4), .int .i64 ((rd_T36 t209 (rd t213 x46_2)).f5)] 36 (0, 0))) := ⟨by (with_reducible repeat (first | refine blk_drewN ?_ _ | refine blk_drew ?_ | refine blk_alloc ?_ _)); refine blk_put (cs := #[.int .i64 ((rd_T36 t209 (rd t213 x46_2)).f0), .int .i64 ((rd_T36 t209 (rd t213 x46_2)).f1), .int .i64 ((rd_T36 t209 (rd t213 x46_2)).f2), .int .i64 ((rd_T36 t209 (rd t213 x46_2)).f3), .int .i64 ((rd_T36 t209 (rd t213 x46_2)).f4), .int .i64 0]) ?_ 5 _ rfl; (with_reducible repeat (first | refine blk_drewN ?_ _ | refine blk_drew ?_ | refine blk_alloc ?_ _)); refine blk_put (cs := #[.int .i64 ((rd_T36 t209 (rd t213 x46_2)).f0), .int .i64 ((rd_T36 t209 (rd t213 x46_2)).f1), .int .i64 ((rd_T36 t209 (rd t213 x46_2)).f2), .int .i64 ((rd_T36 t209 (rd t213 x46_2)).f3), .int .i64 0, .int .i64 0]) ?_ 4 _ rfl; (with_reducible repeat (first | refine blk_drewN ?_ _ | refine blk_drew ?_ | refine blk_alloc ?_ _)); refine blk_put (cs := #[.int .i64 ((rd_T36 t209 (rd t213 x46_2)).f0), .int .i64 ((rd_T36 t209 (rd t213 x46_2)).f1), .int .i64 ((rd_T36 t209 (rd t213 x46_2)).f2), .int .i64 0, .int .i64 0, .int .i64 0]) ?_ 3 _ rfl; (with_reducible repeat (first | refine blk_drewN ?_ _ | refine blk_drew ?_ | refine blk_alloc ?_ _)); refine blk_put (cs := #[.int .i64 ((rd_T36 t209 (rd t213 x46_2)).f0), .int .i64 ((rd_T36 t209 (rd t213 x46_2)).f1), .int .i64 0, .int .i64 0, .int .i64 0, .int .i64 0]) ?_ 2 _ rfl; (with_reducible repeat (first | refine blk_drewN ?_ _ | refine blk_drew ?_ | refine blk_alloc ?_ _)); refine blk_put (cs := #[.int .i64 ((rd_T36 t209 (rd t213 x46_2)).f0), .int .i64 0, .int .i64 0, .int .i64 0, .int .i64 0, .int .i64 0]) ?_ 1 _ rfl; (with_reducible repeat (first | refine blk_drewN ?_ _ | refine blk_drew ?_ | refine blk_alloc ?_ _)); refine blk_put (cs := #[.int .i64 0, .int .i64 0, .int .i64 0, .int .i64 0, .int .i64 0, .int .i64 0]) ?_ 0 _ rfl; (with_reducible repeat (first | refine blk_drewN ?_ _ | refine blk_drew ?_ | refine blk_alloc ?_ _)); exact BK225.out⟩
                   have n6_ : Aside0 (Below w.heap.size w ((((((w44.setCell ⟨gb225, 0, none⟩ (.int .i64 ((rd_T36 t209 (rd t213 x46_2)).f0))).setCell ⟨gb225, 1, none⟩ (.int .i64 ((rd_T36 t209 (rd t213 x46_2)).f1))).setCell ⟨gb225, 2, none⟩ (.int .i64 ((rd_T36 t209 (rd t213 x46_2)).f2))).setCell ⟨gb225, 3, none⟩ (.int .i64 ((rd_T36 t209 (rd t213 x46_2)).f3))).setCell ⟨gb225, 4, none⟩ (.int .i64 ((rd_T36 t209 (rd t213 x46_2)).f4))).setCell ⟨gb225, 5, none⟩ (.int .i64 ((rd_T36 t209 (rd t213 x46_2)).f5)))) := ⟨by repeat (first | (with_reducible first | exact HB.out | apply below_alloc | apply pw_below_drewN | apply below_drew1 | refine below_set ?_ GE212.out | refine below_set ?_ GE225.out) | exact HB.out)⟩
                   (try clear HO_6)
                   (try clear HO_8)
                   (try clear HO_213001)
                   (try clear HO_213002)
                   (try clear BK212)
                   (try clear BK225)
                   (try clear HB)
                   generalize ((((((w44.setCell ⟨gb225, 0, none⟩ (.int .i64 ((rd_T36 t209 (rd t213 x46_2)).f0))).setCell ⟨gb225, 1, none⟩ (.int .i64 ((rd_T36 t209 (rd t213 x46_2)).f1))).setCell ⟨gb225, 2, none⟩ (.int .i64 ((rd_T36 t209 (rd t213 x46_2)).f2))).setCell ⟨gb225, 3, none⟩ (.int .i64 ((rd_T36 t209 (rd t213 x46_2)).f3))).setCell ⟨gb225, 4, none⟩ (.int .i64 ((rd_T36 t209 (rd t213 x46_2)).f4))).setCell ⟨gb225, 5, none⟩ (.int .i64 ((rd_T36 t209 (rd t213 x46_2)).f5))) = w51 at n0_ n1_ n2_ n3_ n4_ n5_ n6_ ⊢
                   have HO_6 := n0_
                   have HO_8 := n1_
                   have HO_213001 := n2_
                   have HO_213002 := n3_
                   have BK212 := n4_
                   have BK225 := n5_
                   have HB := n6_
                   clear n0_ n1_ n2_ n3_ n4_ n5_ n6_
                   have n0_ := Aside0.mk (Kd.R_drew HO_6.out)
                   have n1_ := Aside0.mk (Kd.R_drew HO_8.out)
                   have n2_ := Aside0.mk (Kd.R_drew HO_213001.out)
                   have n3_ := Aside0.mk (Kd.R_drew HO_213002.out)
                   have n4_ := Aside0.mk (blk_drew BK212.out)
                   have n5_ := Aside0.mk (blk_drew BK225.out)
                   have n6_ := Aside0.mk (below_drew1 HB.out)
                   clear HO_6
                   clear HO_8
                   clear HO_213001
                   clear HO_213002
                   clear BK212
                   clear BK225
                   clear HB
                   have HO_6 := n0_
                   have HO_8 := n1_
                   have HO_213001 := n2_
                   have HO_213002 := n3_
                   have BK212 := n4_
                   have BK225 := n5_
                   have HB := n6_
                   clear n0_ n1_ n2_ n3_ n4_ n5_ n6_
                   obtain ⟨Ao53, co53, eo53⟩ := Kd.R_slice HO_8.out
                   (first | subst eo53 | (injection eo53 with f1_ f2_ f3_; have f4_ := f1_.symm; have f5_ := f3_.symm; clear f1_ f2_ f3_; subst f4_; subst f5_))
                   have p226 : 0 ≤ (((rd_T36 t209 (rd t213 x46_2)).f1) : Int) := of_decide_eq_true (by first | (with_reducible assumption) | assumption)
                   have q226 : ((rd_T36 t209 (rd t213 x46_2)).f1) < (t219.length : Int) := of_decide_eq_true (by first | (with_reducible assumption) | assumption)
                   obtain ⟨ad226, e226, hx226_0⟩ := Kd.at_bool (Kd.R_reads' HO_8.out).2.2 ((rd_T36 t209 (rd t213 x46_2)).f1) p226 q226
                   cases e226
                   replace p226 := eq_true p226
                   replace q226 := eq_true q226
                   have p227 : 0 ≤ (((rd_T36 t209 (rd t213 x46_2)).f2) : Int) := of_decide_eq_true (by first | (with_reducible assumption) | assumption)
                   have q227 : ((rd_T36 t209 (rd t213 x46_2)).f2) < (t219.length : Int) := of_decide_eq_true (by first | (with_reducible assumption) | assumption)
                   obtain ⟨ad227, e227, hx227_0⟩ := Kd.at_bool (Kd.R_reads' HO_8.out).2.2 ((rd_T36 t209 (rd t213 x46_2)).f2) p227 q227
                   obtain rfl : ad226 = ad227 := (by injection e227)
                   replace p227 := eq_true p227
                   replace q227 := eq_true q227
                   have p228 : 0 ≤ (x46_2 : Int) := of_decide_eq_true (by first | (with_reducible assumption) | assumption)
                   have q228 : x46_2 < (t213.length : Int) := of_decide_eq_true (by first | (with_reducible assumption) | assumption)
                   obtain ⟨ad228, e228, hx228_0⟩ := Kd.at_int (Kd.R_reads' HO_6.out).2.2 x46_2 p228 q228
                   obtain rfl : ad218 = ad228 := (by injection e228)
                   replace p228 := eq_true p228
                   replace q228 := eq_true q228
                   refine start_ (n := 18) (S := fun w' => w'.cell? ⟨gb225, 0, none⟩ = some (.int .i64 ((rd_T36 t209 (rd t213 x46_2)).f0)) ∧ w'.cell? ⟨gb225, 1, none⟩ = some (.int .i64 ((rd_T36 t209 (rd t213 x46_2)).f1)) ∧ w'.cell? ⟨gb225, 2, none⟩ = some (.int .i64 ((rd_T36 t209 (rd t213 x46_2)).f2)) ∧ w'.cell? ⟨gb225, 3, none⟩ = some (.int .i64 ((rd_T36 t209 (rd t213 x46_2)).f3)) ∧ w'.cell? ⟨gb225, 4, none⟩ = some (.int .i64 ((rd_T36 t209 (rd t213 x46_2)).f4)) ∧ w'.cell? ⟨gb225, 5, none⟩ = some (.int .i64 ((rd_T36 t209 (rd t213 x46_2)).f5)) ∧ w'.cell? (ad226.add (((rd_T36 t209 (rd t213 x46_2)).f1)).toNat) = some (.bool (rdOf false t219 ((rd_T36 t209 (rd t213 x46_2)).f1))) ∧ w'.cell? (ad226.add (((rd_T36 t209 (rd t213 x46_2)).f2)).toNat) = some (.bool (rdOf false t219 ((rd_T36 t209 (rd t213 x46_2)).f2))) ∧ w'.cell? (ad218.add (x46_2).toNat) = some (.int .i64 (rd t213 x46_2))) (ds := []) #[false, false, false, false, false, false, false, false, false, false, false, false, false, false, false, false, false, false] (by kernel_rfl) rfl rfl ⟨(blk_cell BK225.out 0).trans rfl, (blk_cell BK225.out 1).trans rfl, (blk_cell BK225.out 2).trans rfl, (blk_cell BK225.out 3).trans rfl, (blk_cell BK225.out 4).trans rfl, (blk_cell BK225.out 5).trans rfl, hx226_0, hx227_0, hx228_0⟩ (fun hHeld => ?_); refine with_tabW railplanlaw16_SimplexCutSplits.tab13 railplanlaw16_SimplexCutSplits.bits13 (fun HT_ HW_ => ?_)
                   generalize w51.drew = w52 at HO_6 HO_8 HO_213001 HO_213002 BK212 BK225 HB hx226_0 hx227_0 hx228_0 hHeld ⊢
                   refine pure_ (i := 0) (N := some 57) (v := ?_) (a' := ?_) #[true, false, false, false, false, false, false, false, false, false, false, false, false, false, false, false, false, false] rfl rfl (any_of HT_.out (by kernel_rfl)) (fun _ _ _ h => h) (Or.inl ⟨by rfl, ?_⟩) ?_ ?_
                   rotate_left
                   ·intro w'
                    go_simp
                    first | with_reducible rfl | (rw [if_neg (by simp only [ByteArray.size_append, ByteArray.size_extract, decide_eq_true_eq, eq_iff_iff, iff_true] at *; omega)]; try with_reducible rfl)
                   rotate_left
                   ·simp only [Act.put, List.setIfInBounds_toArray, List.set_cons_zero, List.set_cons_succ, i64_w, i32_w]
                    rfl
                   refine pure_ (i := 1) (N := some 58) (v := ?_) (a' := ?_) #[true, true, false, false, false, false, false, false, false, false, false, false, false, false, false, false, false, false] rfl rfl (any_of HT_.out (by kernel_rfl)) (fun _ _ _ h => h) (Or.inl ⟨by rfl, ?_⟩) ?_ ?_
                   rotate_left
                   ·intro w'
                    go_simp
                    first | with_reducible rfl | (rw [if_neg (by simp only [ByteArray.size_append, ByteArray.size_extract, decide_eq_true_eq, eq_iff_iff, iff_true] at *; omega)]; try with_reducible rfl)
                   rotate_left
                   ·simp only [Act.put, List.setIfInBounds_toArray, List.set_cons_zero, List.set_cons_succ, i64_w, i32_w]
                    rfl
                   refine pure_ (i := 5) (N := some 62) (v := ?_) (a' := ?_) #[true, true, false, false, false, true, false, false, false, false, false, false, false, false, false, false, false, false] rfl rfl (any_of HT_.out (by kernel_rfl)) (fun _ _ _ h => h) (Or.inl ⟨by rfl, ?_⟩) ?_ ?_
                   rotate_left
                   ·intro w'
                    go_simp
                    first | with_reducible rfl | (rw [if_neg (by simp only [ByteArray.size_append, ByteArray.size_extract, decide_eq_true_eq, eq_iff_iff, iff_true] at *; omega)]; try with_reducible rfl)
                   rotate_left
                   ·simp only [Act.put, List.setIfInBounds_toArray, List.set_cons_zero, List.set_cons_succ, i64_w, i32_w]
                    rfl
                   refine pure_ (i := 6) (N := some 63) (v := ?_) (a' := ?_) #[true, true, false, false, false, true, true, false, false, false, false, false, false, false, false, false, false, false] rfl rfl (any_of HT_.out (by kernel_rfl)) (fun _ _ _ h => h) (Or.inl ⟨by rfl, ?_⟩) ?_ ?_
                   rotate_left
                   ·intro w'
                    go_simp
                    first | with_reducible rfl | (rw [if_neg (by simp only [ByteArray.size_append, ByteArray.size_extract, decide_eq_true_eq, eq_iff_iff, iff_true] at *; omega)]; try with_reducible rfl)
                   rotate_left
                   ·simp only [Act.put, List.setIfInBounds_toArray, List.set_cons_zero, List.set_cons_succ, i64_w, i32_w]
                    rfl
                   refine pure_ (i := 11) (N := some 68) (v := ?_) (a' := ?_) #[true, true, false, false, false, true, true, false, false, false, false, true, false, false, false, false, false, false] rfl rfl (any_of HT_.out (by kernel_rfl)) (fun _ _ _ h => h) (Or.inl ⟨by rfl, ?_⟩) ?_ ?_
                   rotate_left
                   ·intro w'
                    go_simp
                    first | with_reducible rfl | (rw [if_neg (by simp only [ByteArray.size_append, ByteArray.size_extract, decide_eq_true_eq, eq_iff_iff, iff_true] at *; omega)]; try with_reducible rfl)
                   rotate_left
                   ·simp only [Act.put, List.setIfInBounds_toArray, List.set_cons_zero, List.set_cons_succ, i64_w, i32_w]
                    rfl
                   refine pure_ (i := 12) (N := some 69) (v := ?_) (a' := ?_) #[true, true, false, false, false, true, true, false, false, false, false, true, true, false, false, false, false, false] rfl rfl (any_of HT_.out (by kernel_rfl)) (fun _ _ _ h => h) (Or.inl ⟨by rfl, ?_⟩) ?_ ?_
                   rotate_left
                   ·intro w'
                    go_simp
                    first | with_reducible rfl | (rw [if_neg (by simp only [ByteArray.size_append, ByteArray.size_extract, decide_eq_true_eq, eq_iff_iff, iff_true] at *; omega)]; try with_reducible rfl)
                   rotate_left
                   ·simp only [Act.put, List.setIfInBounds_toArray, List.set_cons_zero, List.set_cons_succ, i64_w, i32_w]
                    rfl
                   refine pure_ (i := 13) (N := some 70) (v := ?_) (a' := ?_) #[true, true, false, false, false, true, true, false, false, false, false, true, true, true, false, false, false, false] rfl rfl (any_of HT_.out (by kernel_rfl)) (fun _ _ _ h => h) (Or.inl ⟨by rfl, ?_⟩) ?_ ?_
                   rotate_left
                   ·intro w'
                    go_simp
                    first | with_reducible rfl | (rw [if_neg (by simp only [ByteArray.size_append, ByteArray.size_extract, decide_eq_true_eq, eq_iff_iff, iff_true] at *; omega)]; try with_reducible rfl)
                   rotate_left
                   ·simp only [Act.put, List.setIfInBounds_toArray, List.set_cons_zero, List.set_cons_succ, i64_w, i32_w]
                    rfl
                   refine pure_ (i := 15) (N := some 72) (v := ?_) (a' := ?_) #[true, true, false, false, false, true, true, false, false, false, false, true, true, true, false, true, false, false] rfl rfl (any_of HT_.out (by kernel_rfl)) (fun _ _ _ h => h) (Or.inl ⟨by rfl, ?_⟩) ?_ ?_
                   rotate_left
                   ·intro w'
                    go_simp
                    first | with_reducible rfl | (rw [if_neg (by simp only [ByteArray.size_append, ByteArray.size_extract, decide_eq_true_eq, eq_iff_iff, iff_true] at *; omega)]; try with_reducible rfl)
                   rotate_left
                   ·simp only [Act.put, List.setIfInBounds_toArray, List.set_cons_zero, List.set_cons_succ, i64_w, i32_w]
                    rfl
                   refine take_ (i := 2) (N := some 59) (v := ?_) (a' := ?_) #[true, true, true, false, false, true, true, false, false, false, false, true, true, true, false, true, false, false] rfl rfl (take_ofW HT_.out HW_.out (by kernel_rfl)) (fun _ _ _ h => h) (Or.inl ⟨by rfl, ?_⟩) hHeld ?_ ?_
                   rotate_left
                   ·rintro w' ⟨s0, s1, s2, s3, s4, s5, s6, s7, s8⟩
                    go_simp
                    first | with_reducible rfl | (rw [if_neg (by simp only [ByteArray.size_append, ByteArray.size_extract, decide_eq_true_eq, eq_iff_iff, iff_true] at *; omega)]; try with_reducible rfl)
                   rotate_left
                   ·simp only [Act.put, List.setIfInBounds_toArray, List.set_cons_zero, List.set_cons_succ, i64_w, i32_w]
                    rfl
                   refine pure_ (i := 3) (N := some 60) (v := ?_) (a' := ?_) #[true, true, true, true, false, true, true, false, false, false, false, true, true, true, false, true, false, false] rfl rfl (any_of HT_.out (by kernel_rfl)) (fun _ _ _ h => h) (Or.inl ⟨by rfl, ?_⟩) ?_ ?_
                   rotate_left
                   ·intro w'
                    go_simp
                    first | with_reducible rfl | (rw [if_neg (by simp only [ByteArray.size_append, ByteArray.size_extract, decide_eq_true_eq, eq_iff_iff, iff_true] at *; omega)]; try with_reducible rfl)
                   rotate_left
                   ·simp only [Act.put, List.setIfInBounds_toArray, List.set_cons_zero, List.set_cons_succ, i64_w, i32_w]
                    rfl
                   refine take_ (i := 4) (N := some 61) (v := ?_) (a' := ?_) #[true, true, true, true, true, true, true, false, false, false, false, true, true, true, false, true, false, false] rfl rfl (take_ofW HT_.out HW_.out (by kernel_rfl)) (fun _ _ _ h => h) (Or.inl ⟨by rfl, ?_⟩) hHeld ?_ ?_
                   rotate_left
                   ·rintro w' ⟨s0, s1, s2, s3, s4, s5, s6, s7, s8⟩
                    go_simp
                    first | with_reducible rfl | (rw [if_neg (by simp only [ByteArray.size_append, ByteArray.size_extract, decide_eq_true_eq, eq_iff_iff, iff_true] at *; omega)]; try with_reducible rfl)
                   rotate_left
                   ·simp only [Act.put, List.setIfInBounds_toArray, List.set_cons_zero, List.set_cons_succ, i64_w, i32_w]
                    rfl
                   refine take_ (i := 7) (N := some 64) (v := ?_) (a' := ?_) #[true, true, true, true, true, true, true, true, false, false, false, true, true, true, false, true, false, false] rfl rfl (take_ofW HT_.out HW_.out (by kernel_rfl)) (fun _ _ _ h => h) (Or.inl ⟨by rfl, ?_⟩) hHeld ?_ ?_
                   rotate_left
                   ·rintro w' ⟨s0, s1, s2, s3, s4, s5, s6, s7, s8⟩
                    go_simp
                    first | with_reducible rfl | (rw [if_neg (by simp only [ByteArray.size_append, ByteArray.size_extract, decide_eq_true_eq, eq_iff_iff, iff_true] at *; omega)]; try with_reducible rfl)
                   rotate_left
                   ·simp only [Act.put, List.setIfInBounds_toArray, List.set_cons_zero, List.set_cons_succ, i64_w, i32_w]
                    rfl
                   refine pure_ (i := 8) (N := some 65) (v := ?_) (a' := ?_) #[true, true, true, true, true, true, true, true, true, false, false, true, true, true, false, true, false, false] rfl rfl (any_of HT_.out (by kernel_rfl)) (fun _ _ _ h => h) (Or.inl ⟨by rfl, ?_⟩) ?_ ?_
                   rotate_left
                   ·intro w'
                    go_simp
                    first | with_reducible rfl | (rw [if_neg (by simp only [ByteArray.size_append, ByteArray.size_extract, decide_eq_true_eq, eq_iff_iff, iff_true] at *; omega)]; try with_reducible rfl)
                   rotate_left
                   ·simp only [Act.put, List.setIfInBounds_toArray, List.set_cons_zero, List.set_cons_succ, i64_w, i32_w]
                    rfl
                   refine take_ (i := 9) (N := some 66) (v := ?_) (a' := ?_) #[true, true, true, true, true, true, true, true, true, true, false, true, true, true, false, true, false, false] rfl rfl (take_ofW HT_.out HW_.out (by kernel_rfl)) (fun _ _ _ h => h) (Or.inl ⟨by rfl, ?_⟩) hHeld ?_ ?_
                   rotate_left
                   ·rintro w' ⟨s0, s1, s2, s3, s4, s5, s6, s7, s8⟩
                    go_simp
                    first | with_reducible rfl | (rw [if_neg (by simp only [ByteArray.size_append, ByteArray.size_extract, decide_eq_true_eq, eq_iff_iff, iff_true] at *; omega)]; try with_reducible rfl)
                   rotate_left
                   ·simp only [Act.put, List.setIfInBounds_toArray, List.set_cons_zero, List.set_cons_succ, i64_w, i32_w]
                    rfl
                   refine pure_ (i := 10) (N := some 67) (v := ?_) (a' := ?_) #[true, true, true, true, true, true, true, true, true, true, true, true, true, true, false, true, false, false] rfl rfl (any_of HT_.out (by kernel_rfl)) (fun _ _ _ h => h) (Or.inl ⟨by rfl, ?_⟩) ?_ ?_
                   rotate_left
                   ·intro w'
                    go_simp
                    first | with_reducible rfl | (rw [if_neg (by simp only [ByteArray.size_append, ByteArray.size_extract, decide_eq_true_eq, eq_iff_iff, iff_true] at *; omega)]; try with_reducible rfl)
                   rotate_left
                   ·simp only [Act.put, List.setIfInBounds_toArray, List.set_cons_zero, List.set_cons_succ, i64_w, i32_w]
                    rfl
                   refine take_ (i := 14) (N := some 71) (v := ?_) (a' := ?_) #[true, true, true, true, true, true, true, true, true, true, true, true, true, true, true, true, false, false] rfl rfl (take_ofW HT_.out HW_.out (by kernel_rfl)) (fun _ _ _ h => h) (Or.inl ⟨by rfl, ?_⟩) hHeld ?_ ?_
                   rotate_left
                   ·rintro w' ⟨s0, s1, s2, s3, s4, s5, s6, s7, s8⟩
                    go_simp
                    first | with_reducible rfl | (rw [if_neg (by simp only [ByteArray.size_append, ByteArray.size_extract, decide_eq_true_eq, eq_iff_iff, iff_true] at *; omega)]; try with_reducible rfl)
                   rotate_left
                   ·simp only [Act.put, List.setIfInBounds_toArray, List.set_cons_zero, List.set_cons_succ, i64_w, i32_w]
                    rfl
                   refine pure_ (i := 16) (N := some 73) (v := ?_) (a' := ?_) #[true, true, true, true, true, true, true, true, true, true, true, true, true, true, true, true, true, false] rfl rfl (any_of HT_.out (by kernel_rfl)) (fun _ _ _ h => h) (Or.inl ⟨by rfl, ?_⟩) ?_ ?_
                   rotate_left
                   ·intro w'
                    go_simp
                    first | with_reducible rfl | (rw [if_neg (by simp only [ByteArray.size_append, ByteArray.size_extract, decide_eq_true_eq, eq_iff_iff, iff_true] at *; omega)]; try with_reducible rfl)
                   rotate_left
                   ·simp only [Act.put, List.setIfInBounds_toArray, List.set_cons_zero, List.set_cons_succ, i64_w, i32_w]
                    rfl
                   refine pure_ (i := 17) (N := some 74) (v := ?_) (a' := ?_) #[true, true, true, true, true, true, true, true, true, true, true, true, true, true, true, true, true, true] rfl rfl (any_of HT_.out (by kernel_rfl)) (fun _ _ _ h => h) (Or.inl ⟨by rfl, ?_⟩) ?_ ?_
                   rotate_left
                   ·intro w'
                    go_simp
                    first | with_reducible rfl | (rw [if_neg (by simp only [ByteArray.size_append, ByteArray.size_extract, decide_eq_true_eq, eq_iff_iff, iff_true] at *; omega)]; try with_reducible rfl)
                   rotate_left
                   ·simp only [Act.put, List.setIfInBounds_toArray, List.set_cons_zero, List.set_cons_succ, i64_w, i32_w]
                    rfl
                   refine done_ (done_of HT_.out (by kernel_rfl)) ?_
                   try go_wp2
                   go_ret
                   exact ⟨by first | rfl | (simp [errW_none, errW_some] <;> rfl) | (simp [*, errW_none, errW_some] <;> rfl), by repeat (first | (with_reducible first | exact HB.out | apply below_alloc | apply pw_below_drewN | apply below_drew1 | refine below_set ?_ GE212.out | refine below_set ?_ GE225.out) | exact HB.out)⟩
                  ·rw [if_neg c42] at H
                   have c42b0 : (((rdOf false t219 ((rd_T36 t209 (rd t213 x46_2)).f1)) == (rdOf false t219 ((rd_T36 t209 (rd t213 x46_2)).f2))) == ((rd t213 x46_2) == (rd t213 t217))) = false := by simpa using c42
                   (try (have c42b1 : decide (((rdOf false t219 ((rd_T36 t209 (rd t213 x46_2)).f1)) == (rdOf false t219 ((rd_T36 t209 (rd t213 x46_2)).f2))) = ((rd t213 x46_2) == (rd t213 t217))) = false := by simpa using c42))
                   (try (have c42b2 : (((rdOf false t219 ((rd_T36 t209 (rd t213 x46_2)).f1)) == (rdOf false t219 ((rd_T36 t209 (rd t213 x46_2)).f2))) == ((rd t213 x46_2) == (rd t213 t217))) = false := by simpa using c42))
                   (try (have c42b3 : ¬ (((rdOf false t219 ((rd_T36 t209 (rd t213 x46_2)).f1)) == (rdOf false t219 ((rd_T36 t209 (rd t213 x46_2)).f2))) = ((rd t213 x46_2) == (rd t213 t217))) := by simpa using c42))
                   clear c42
                   have H' := Aside0.mk H
                   clear H
                   try go_wp2
                   have n0_ := Aside0.mk (Kd.R_drew HO_6.out)
                   have n1_ := Aside0.mk (Kd.R_drew HO_8.out)
                   have n2_ := Aside0.mk (Kd.R_drew HO_213001.out)
                   have n3_ := Aside0.mk (Kd.R_drew HO_213002.out)
                   have n4_ := Aside0.mk (blk_drew BK212.out)
                   have n5_ := Aside0.mk (below_drew1 HB.out)
                   clear HO_6
                   clear HO_8
                   clear HO_213001
                   clear HO_213002
                   clear BK212
                   clear HB
                   have HO_6 := n0_
                   have HO_8 := n1_
                   have HO_213001 := n2_
                   have HO_213002 := n3_
                   have BK212 := n4_
                   have HB := n5_
                   clear n0_ n1_ n2_ n3_ n4_ n5_
                   have p223 : 0 ≤ (x46_2 : Int) := of_decide_eq_true (by first | (with_reducible assumption) | assumption)
                   have q223 : x46_2 < (t213.length : Int) := of_decide_eq_true (by first | (with_reducible assumption) | assumption)
                   obtain ⟨ad223, e223, hx223_0⟩ := Kd.at_int (Kd.R_reads' HO_6.out).2.2 x46_2 p223 q223
                   obtain rfl : ad218 = ad223 := (by injection e223)
                   replace p223 := eq_true p223
                   replace q223 := eq_true q223
                   have p224 : 0 ≤ ((rd t213 x46_2) : Int) := of_decide_eq_true (by first | (with_reducible assumption) | assumption)
                   have q224 : (rd t213 x46_2) < (t209.length : Int) := of_decide_eq_true (by first | (with_reducible assumption) | assumption)
                   obtain ⟨ad224, e224, hx224_0, hx224_1, hx224_2, hx224_3, hx224_4, hx224_5⟩ := at_T36 (Kd.R_reads' HO_213002.out).2.2 (rd t213 x46_2) p224 q224
                   cases e224
                   replace p224 := eq_true p224
                   replace q224 := eq_true q224
                   refine start_ (n := 10) (S := fun w' => w'.cell? ⟨gb212, 0, none⟩ = some (.int .i64 t205) ∧ w'.cell? ⟨gb212, 1, none⟩ = some (.slice Ao23 t206.length co23) ∧ w'.cell? ⟨gb212, 2, none⟩ = some (.slice (some ad224) t209.length co24) ∧ w'.cell? (ad218.add (x46_2).toNat) = some (.int .i64 (rd t213 x46_2)) ∧ w'.cell? (ad224.add (((rd t213 x46_2)).toNat * 6)) = some (.int .i64 ((rd_T36 t209 (rd t213 x46_2)).f0)) ∧ w'.cell? ⟨(ad224.add (((rd t213 x46_2)).toNat * 6)).block, (ad224.add (((rd t213 x46_2)).toNat * 6)).off + 1, none⟩ = some (.int .i64 ((rd_T36 t209 (rd t213 x46_2)).f1)) ∧ w'.cell? ⟨(ad224.add (((rd t213 x46_2)).toNat * 6)).block, (ad224.add (((rd t213 x46_2)).toNat * 6)).off + 2, none⟩ = some (.int .i64 ((rd_T36 t209 (rd t213 x46_2)).f2)) ∧ w'.cell? ⟨(ad224.add (((rd t213 x46_2)).toNat * 6)).block, (ad224.add (((rd t213 x46_2)).toNat * 6)).off + 3, none⟩ = some (.int .i64 ((rd_T36 t209 (rd t213 x46_2)).f3)) ∧ w'.cell? ⟨(ad224.add (((rd t213 x46_2)).toNat * 6)).block, (ad224.add (((rd t213 x46_2)).toNat * 6)).off + 4, none⟩ = some (.int .i64 ((rd_T36 t209 (rd t213 x46_2)).f4)) ∧ w'.cell? ⟨(ad224.add (((rd t213 x46_2)).toNat * 6)).block, (ad224.add (((rd t213 x46_2)).toNat * 6)).off + 5, none⟩ = some (.int .i64 ((rd_T36 t209 (rd t213 x46_2)).f5))) (ds := []) #[false, false, false, false, false, false, false, false, false, false] (by kernel_rfl) rfl rfl ⟨(blk_cell BK212.out 0).trans rfl, (blk_cell BK212.out 1).trans rfl, (blk_cell BK212.out 2).trans rfl, hx223_0, hx224_0, hx224_1, hx224_2, hx224_3, hx224_4, hx224_5⟩ (fun hHeld => ?_); refine with_tabW railplanlaw16_SimplexCutSplits.tab12 railplanlaw16_SimplexCutSplits.bits12 (fun HT_ HW_ => ?_)
                   generalize wr.drew = w54 at HO_6 HO_8 HO_213001 HO_213002 BK212 HB hx223_0 hx224_0 hx224_1 hx224_2 hx224_3 hx224_4 hx224_5 hHeld ⊢
                   refine pure_ (i := 0) (N := some 49) (v := ?_) (a' := ?_) #[true, false, false, false, false, false, false, false, false, false] rfl rfl (any_of HT_.out (by kernel_rfl)) (fun _ _ _ h => h) (Or.inl ⟨by rfl, ?_⟩) ?_ ?_
                   rotate_left
                   ·intro w'
                    go_simp
                    first | with_reducible rfl | (rw [if_neg (by simp only [ByteArray.size_append, ByteArray.size_extract, decide_eq_true_eq, eq_iff_iff, iff_true] at *; omega)]; try with_reducible rfl)
                   rotate_left
                   ·simp only [Act.put, List.setIfInBounds_toArray, List.set_cons_zero, List.set_cons_succ, i64_w, i32_w]
                    rfl
                   refine pure_ (i := 2) (N := some 51) (v := ?_) (a' := ?_) #[true, false, true, false, false, false, false, false, false, false] rfl rfl (any_of HT_.out (by kernel_rfl)) (fun _ _ _ h => h) (Or.inl ⟨by rfl, ?_⟩) ?_ ?_
                   rotate_left
                   ·intro w'
                    go_simp
                    first | with_reducible rfl | (rw [if_neg (by simp only [ByteArray.size_append, ByteArray.size_extract, decide_eq_true_eq, eq_iff_iff, iff_true] at *; omega)]; try with_reducible rfl)
                   rotate_left
                   ·simp only [Act.put, List.setIfInBounds_toArray, List.set_cons_zero, List.set_cons_succ, i64_w, i32_w]
                    rfl
                   refine pure_ (i := 3) (N := some 52) (v := ?_) (a' := ?_) #[true, false, true, true, false, false, false, false, false, false] rfl rfl (any_of HT_.out (by kernel_rfl)) (fun _ _ _ h => h) (Or.inl ⟨by rfl, ?_⟩) ?_ ?_
                   rotate_left
                   ·intro w'
                    go_simp
                    first | with_reducible rfl | (rw [if_neg (by simp only [ByteArray.size_append, ByteArray.size_extract, decide_eq_true_eq, eq_iff_iff, iff_true] at *; omega)]; try with_reducible rfl)
                   rotate_left
                   ·simp only [Act.put, List.setIfInBounds_toArray, List.set_cons_zero, List.set_cons_succ, i64_w, i32_w]
                    rfl
                   refine pure_ (i := 4) (N := some 53) (v := ?_) (a' := ?_) #[true, false, true, true, true, false, false, false, false, false] rfl rfl (any_of HT_.out (by kernel_rfl)) (fun _ _ _ h => h) (Or.inl ⟨by rfl, ?_⟩) ?_ ?_
                   rotate_left
                   ·intro w'
                    go_simp
                    first | with_reducible rfl | (rw [if_neg (by simp only [ByteArray.size_append, ByteArray.size_extract, decide_eq_true_eq, eq_iff_iff, iff_true] at *; omega)]; try with_reducible rfl)
                   rotate_left
                   ·simp only [Act.put, List.setIfInBounds_toArray, List.set_cons_zero, List.set_cons_succ, i64_w, i32_w]
                    rfl
                   refine take_ (i := 1) (N := some 50) (v := ?_) (a' := ?_) #[true, true, true, true, true, false, false, false, false, false] rfl rfl (take_ofW HT_.out HW_.out (by kernel_rfl)) (fun _ _ _ h => h) (Or.inl ⟨by rfl, ?_⟩) hHeld ?_ ?_
                   rotate_left
                   ·rintro w' ⟨s0, s1, s2, s3, s4, s5, s6, s7, s8, s9⟩
                    go_simp
                    first | with_reducible rfl | (rw [if_neg (by simp only [ByteArray.size_append, ByteArray.size_extract, decide_eq_true_eq, eq_iff_iff, iff_true] at *; omega)]; try with_reducible rfl)
                   rotate_left
                   ·simp only [Act.put, List.setIfInBounds_toArray, List.set_cons_zero, List.set_cons_succ, i64_w, i32_w]
                    rfl
                   refine take_ (i := 5) (N := some 54) (v := ?_) (a' := ?_) #[true, true, true, true, true, true, false, false, false, false] rfl rfl (take_ofW HT_.out HW_.out (by kernel_rfl)) (fun _ _ _ h => h) (Or.inl ⟨by rfl, ?_⟩) hHeld ?_ ?_
                   rotate_left
                   ·rintro w' ⟨s0, s1, s2, s3, s4, s5, s6, s7, s8, s9⟩
                    go_simp
                    first | with_reducible rfl | (rw [if_neg (by simp only [ByteArray.size_append, ByteArray.size_extract, decide_eq_true_eq, eq_iff_iff, iff_true] at *; omega)]; try with_reducible rfl)
                   rotate_left
                   ·simp only [Act.put, List.setIfInBounds_toArray, List.set_cons_zero, List.set_cons_succ, i64_w, i32_w]
                    rfl
                   refine pure_ (i := 6) (N := some 55) (v := ?_) (a' := ?_) #[true, true, true, true, true, true, true, false, false, false] rfl rfl (any_of HT_.out (by kernel_rfl)) (fun _ _ _ h => h) (Or.inl ⟨by rfl, ?_⟩) ?_ ?_
                   rotate_left
                   ·intro w'
                    go_simp
                    first | with_reducible rfl | (rw [if_neg (by simp only [ByteArray.size_append, ByteArray.size_extract, decide_eq_true_eq, eq_iff_iff, iff_true] at *; omega)]; try with_reducible rfl)
                   rotate_left
                   ·simp only [Act.put, List.setIfInBounds_toArray, List.set_cons_zero, List.set_cons_succ, i64_w, i32_w]
                    rfl
                   refine take_ (i := 7) (N := some 56) (v := ?_) (a' := ?_) #[true, true, true, true, true, true, true, true, false, false] rfl rfl (take_ofW HT_.out HW_.out (by kernel_rfl)) (fun _ _ _ h => h) (Or.inl ⟨by rfl, ?_⟩) hHeld ?_ ?_
                   rotate_left
                   ·rintro w' ⟨s0, s1, s2, s3, s4, s5, s6, s7, s8, s9⟩
                    go_simp
                    first | with_reducible rfl | (rw [if_neg (by simp only [ByteArray.size_append, ByteArray.size_extract, decide_eq_true_eq, eq_iff_iff, iff_true] at *; omega)]; try with_reducible rfl)
                   rotate_left
                   ·simp only [Act.put, List.setIfInBounds_toArray, List.set_cons_zero, List.set_cons_succ, i64_w, i32_w]
                    rfl
                   refine one_ (i := 8) (N := some 11) #[true, true, true, true, true, true, true, true, true, false] rfl rfl (one_of HT_.out (by kernel_rfl)) (by decide) (fun K hK => ?_)
                   refine box_step ?hg (N := 11) ?hd (cs := #[.int .i64 0, .int .i64 0, .int .i64 0, .int .i64 0, .int .i64 0, .int .i64 0]) (t := 36) ?hr ?_; (case hd => rfl); (case hg => rfl); (case hr => first | (go_simp; done) | (go_simp; rfl))
                   intro gb225 hg w55 hbox hb
                   have HS3_ := (hb.cell (World.block_lt_of_cell? _ _ (hHeld.2.2.2.1))).trans (hHeld.2.2.2.1)
                   have HS4_ := (hb.cell (World.block_lt_of_cell? _ _ (hHeld.2.2.2.2.1))).trans (hHeld.2.2.2.2.1)
                   have HS5_ := (hb.cell (World.block_lt_of_cell? _ _ (hHeld.2.2.2.2.2.1))).trans (hHeld.2.2.2.2.2.1)
                   have HS6_ := (hb.cell (World.block_lt_of_cell? _ _ (hHeld.2.2.2.2.2.2.1))).trans (hHeld.2.2.2.2.2.2.1)
                   have HS7_ := (hb.cell (World.block_lt_of_cell? _ _ (hHeld.2.2.2.2.2.2.2.1))).trans (hHeld.2.2.2.2.2.2.2.1)
                   have HS8_ := (hb.cell (World.block_lt_of_cell? _ _ (hHeld.2.2.2.2.2.2.2.2.1))).trans (hHeld.2.2.2.2.2.2.2.2.1)
                   have HS9_ := (hb.cell (World.block_lt_of_cell? _ _ (hHeld.2.2.2.2.2.2.2.2.2))).trans (hHeld.2.2.2.2.2.2.2.2.2)
                   have n0_ := Aside0.mk (Kd.R_below (by (with_reducible repeat (first | apply Kd.R_alloc | apply Kd.R_drewN | apply Kd.R_drew)); exact HO_6.out) hb)
                   have n1_ := Aside0.mk (Kd.R_below (by (with_reducible repeat (first | apply Kd.R_alloc | apply Kd.R_drewN | apply Kd.R_drew)); exact HO_8.out) hb)
                   have n2_ := Aside0.mk (Kd.R_below (by (with_reducible repeat (first | apply Kd.R_alloc | apply Kd.R_drewN | apply Kd.R_drew)); exact HO_213001.out) hb)
                   have n3_ := Aside0.mk (Kd.R_below (Kd.R_elderB (by (with_reducible repeat (first | apply Kd.R_alloc | apply Kd.R_drewN | apply Kd.R_drew)); exact HO_213002.out) gb225 (Nat.le_of_eq hg.symm)) hb)
                   have n4_ := Aside0.mk (blk_below (g := gb212) (o := .cells #[.int .i64 t205, .slice Ao23 t206.length co23, .slice (some ad224) t209.length co24] 26 (0, 0)) (by (with_reducible repeat (first | refine blk_drewN ?_ _ | refine blk_drew ?_ | refine blk_alloc ?_ _)); exact BK212.out) hb)
                   have n5_ := Aside0.mk (below_step (by repeat (first | (with_reducible first | exact HB.out | apply below_alloc | apply pw_below_drewN | apply below_drew1 | refine below_set ?_ GE212.out) | exact HB.out)) hb)
                   have n6_ := Aside0.mk (hbox)
                   have n7_ := Aside0.mk ((by rw [hg]; exact (below_size (by repeat (first | (with_reducible first | exact HB.out | apply below_alloc | apply pw_below_drewN | apply below_drew1 | refine below_set ?_ GE212.out) | exact HB.out))) : w.heap.size ≤ gb225))
                   have n8_ := Aside0.mk ((by rw [hg]; exact (below_size (by repeat (first | (with_reducible first | exact HB.out | apply below_alloc | apply pw_below_drewN | apply below_drew1 | refine below_set ?_ GE212.out) | exact HB.out))) : w.heap.size ≤ gb225))
                   have n9_ := Aside0.mk ((by rw [hg]; exact Nat.ne_of_lt (blk_lt (g := gb212) (o := .cells #[.int .i64 t205, .slice Ao23 t206.length co23, .slice (some ad224) t209.length co24] 26 (0, 0)) (by (with_reducible repeat (first | refine blk_drewN ?_ _ | refine blk_drew ?_ | refine blk_alloc ?_ _)); exact BK212.out)) : gb212 ≠ gb225))
                   have n10_ := Aside0.mk ((by rw [hg]; exact Nat.ne_of_gt (blk_lt (g := gb212) (o := .cells #[.int .i64 t205, .slice Ao23 t206.length co23, .slice (some ad224) t209.length co24] 26 (0, 0)) (by (with_reducible repeat (first | refine blk_drewN ?_ _ | refine blk_drew ?_ | refine blk_alloc ?_ _)); exact BK212.out)) : gb225 ≠ gb212))
                   clear HO_6
                   clear HO_8
                   clear HO_213001
                   clear HO_213002
                   clear BK212
                   clear HB
                   have HO_6 := n0_
                   have HO_8 := n1_
                   have HO_213001 := n2_
                   have HO_213002 := n3_
                   have BK212 := n4_
                   have HB := n5_
                   have BK225 := n6_
                   have GW225 := n7_
                   have GE225 := n8_
                   have NB212_225 := n9_
                   have NB225_212 := n10_
                   clear n0_ n1_ n2_ n3_ n4_ n5_ n6_ n7_ n8_ n9_ n10_
                   clear hb hbox hg
                   refine hK.out _ _ ⟨(blk_cell BK212.out 0).trans rfl, (blk_cell BK212.out 1).trans rfl, (blk_cell BK212.out 2).trans rfl, HS3_, HS4_, HS5_, HS6_, HS7_, HS8_, HS9_⟩ (fun hHeld => ?_)
                   clear hK K
                   refine norm_ (a' := ?_) ?_ ?_
                   rotate_left
                   ·show Act.put _ (some 11) _ = _
                    simp only [Act.put, List.setIfInBounds_toArray, List.set_cons_zero, List.set_cons_succ, i64_w, i32_w]
                    rfl
                   refine one_ (i := 9) (N := none) #[true, true, true, true, true, true, true, true, true, true] rfl rfl (one_of HT_.out (by kernel_rfl)) (by decide) (fun K hK => ?_)
                   have hs56 : w55.cell? ⟨gb225, 0, none⟩ = some (.int .i64 0) := (blk_cell BK225.out 0).trans rfl
                   have hfs56 := blk_frozen BK225.out 0
                   have hns56_0 := NB212_225.out
                   have hms56_0 := NB225_212.out
                   have hs57 : w55.cell? ⟨gb225, 1, none⟩ = some (.int .i64 0) := (blk_cell BK225.out 1).trans rfl
                   have hfs57 := blk_frozen BK225.out 1
                   have hns57_0 := NB212_225.out
                   have hms57_0 := NB225_212.out
                   have hs58 : w55.cell? ⟨gb225, 2, none⟩ = some (.int .i64 0) := (blk_cell BK225.out 2).trans rfl
                   have hfs58 := blk_frozen BK225.out 2
                   have hns58_0 := NB212_225.out
                   have hms58_0 := NB225_212.out
                   have hs59 : w55.cell? ⟨gb225, 3, none⟩ = some (.int .i64 0) := (blk_cell BK225.out 3).trans rfl
                   have hfs59 := blk_frozen BK225.out 3
                   have hns59_0 := NB212_225.out
                   have hms59_0 := NB225_212.out
                   have hs60 : w55.cell? ⟨gb225, 4, none⟩ = some (.int .i64 0) := (blk_cell BK225.out 4).trans rfl
                   have hfs60 := blk_frozen BK225.out 4
                   have hns60_0 := NB212_225.out
                   have hms60_0 := NB225_212.out
                   have hs61 : w55.cell? ⟨gb225, 5, none⟩ = some (.int .i64 0) := (blk_cell BK225.out 5).trans rfl
                   have hfs61 := blk_frozen BK225.out 5
                   have hns61_0 := NB212_225.out
                   have hms61_0 := NB225_212.out
                   refine skip_ (w1 := ?_) (by rfl) rfl ?_ ?_
                   rotate_left
                   ·go_simp
                    rfl
                   refine hK.out _ _ ⟨((cell_far (p := ⟨gb225, _, none⟩) NB212_225.out _).trans (((cell_far (p := ⟨gb225, _, none⟩) NB212_225.out _).trans (((cell_far (p := ⟨gb225, _, none⟩) NB212_225.out _).trans (((cell_far (p := ⟨gb225, _, none⟩) NB212_225.out _).trans (((cell_far (p := ⟨gb225, _, none⟩) NB212_225.out _).trans (((cell_far (p := ⟨gb225, _, none⟩) NB212_225.out _).trans (hHeld.1)))))))))))), ((cell_far (p := ⟨gb225, _, none⟩) NB212_225.out _).trans (((cell_far (p := ⟨gb225, _, none⟩) NB212_225.out _).trans (((cell_far (p := ⟨gb225, _, none⟩) NB212_225.out _).trans (((cell_far (p := ⟨gb225, _, none⟩) NB212_225.out _).trans (((cell_far (p := ⟨gb225, _, none⟩) NB212_225.out _).trans (((cell_far (p := ⟨gb225, _, none⟩) NB212_225.out _).trans (hHeld.2.1)))))))))))), ((cell_far (p := ⟨gb225, _, none⟩) NB212_225.out _).trans (((cell_far (p := ⟨gb225, _, none⟩) NB212_225.out _).trans (((cell_far (p := ⟨gb225, _, none⟩) NB212_225.out _).trans (((cell_far (p := ⟨gb225, _, none⟩) NB212_225.out _).trans (((cell_far (p := ⟨gb225, _, none⟩) NB212_225.out _).trans (((cell_far (p := ⟨gb225, _, none⟩) NB212_225.out _).trans (hHeld.2.2.1)))))))))))), ((cell_far (p := ⟨gb225, _, none⟩) (by first | exact Kd.own_blk (Kd.R_ne HO_6.out BK225.out (by decide)) | (rw [add_block]; exact Kd.own_blk (Kd.R_ne HO_6.out BK225.out (by decide))) | (show (Addr.add _ _).block ≠ _; rw [add_block]; exact Kd.own_blk (Kd.R_ne HO_6.out BK225.out (by decide))) | (dsimp only; exact Kd.own_blk (Kd.R_ne HO_6.out BK225.out (by decide)))) _).trans (((cell_far (p := ⟨gb225, _, none⟩) (by first | exact Kd.own_blk (Kd.R_ne HO_6.out BK225.out (by decide)) | (rw [add_block]; exact Kd.own_blk (Kd.R_ne HO_6.out BK225.out (by decide))) | (show (Addr.add _ _).block ≠ _; rw [add_block]; exact Kd.own_blk (Kd.R_ne HO_6.out BK225.out (by decide))) | (dsimp only; exact Kd.own_blk (Kd.R_ne HO_6.out BK225.out (by decide)))) _).trans (((cell_far (p := ⟨gb225, _, none⟩) (by first | exact Kd.own_blk (Kd.R_ne HO_6.out BK225.out (by decide)) | (rw [add_block]; exact Kd.own_blk (Kd.R_ne HO_6.out BK225.out (by decide))) | (show (Addr.add _ _).block ≠ _; rw [add_block]; exact Kd.own_blk (Kd.R_ne HO_6.out BK225.out (by decide))) | (dsimp only; exact Kd.own_blk (Kd.R_ne HO_6.out BK225.out (by decide)))) _).trans (((cell_far (p := ⟨gb225, _, none⟩) (by first | exact Kd.own_blk (Kd.R_ne HO_6.out BK225.out (by decide)) | (rw [add_block]; exact Kd.own_blk (Kd.R_ne HO_6.out BK225.out (by decide))) | (show (Addr.add _ _).block ≠ _; rw [add_block]; exact Kd.own_blk (Kd.R_ne HO_6.out BK225.out (by decide))) | (dsimp only; exact Kd.own_blk (Kd.R_ne HO_6.out BK225.out (by decide)))) _).trans (((cell_far (p := ⟨gb225, _, none⟩) (by first | exact Kd.own_blk (Kd.R_ne HO_6.out BK225.out (by decide)) | (rw [add_block]; exact Kd.own_blk (Kd.R_ne HO_6.out BK225.out (by decide))) | (show (Addr.add _ _).block ≠ _; rw [add_block]; exact Kd.own_blk (Kd.R_ne HO_6.out BK225.out (by decide))) | (dsimp only; exact Kd.own_blk (Kd.R_ne HO_6.out BK225.out (by decide)))) _).trans (((cell_far (p := ⟨gb225, _, none⟩) (by first | exact Kd.own_blk (Kd.R_ne HO_6.out BK225.out (by decide)) | (rw [add_block]; exact Kd.own_blk (Kd.R_ne HO_6.out BK225.out (by decide))) | (show (Addr.add _ _).block ≠ _; rw [add_block]; exact Kd.own_blk (Kd.R_ne HO_6.out BK225.out (by decide))) | (dsimp only; exact Kd.own_blk (Kd.R_ne HO_6.out BK225.out (by decide)))) _).trans (hHeld.2.2.2.1)))))))))))), ((cell_far (p := ⟨gb225, _, none⟩) (by first | exact Kd.own_blk (Kd.R_away HO_213002.out (fun _ hk => hk.2)) | (rw [add_block]; exact Kd.own_blk (Kd.R_away HO_213002.out (fun _ hk => hk.2))) | (show (Addr.add _ _).block ≠ _; rw [add_block]; exact Kd.own_blk (Kd.R_away HO_213002.out (fun _ hk => hk.2))) | (dsimp only; exact Kd.own_blk (Kd.R_away HO_213002.out (fun _ hk => hk.2)))) _).trans (((cell_far (p := ⟨gb225, _, none⟩) (by first | exact Kd.own_blk (Kd.R_away HO_213002.out (fun _ hk => hk.2)) | (rw [add_block]; exact Kd.own_blk (Kd.R_away HO_213002.out (fun _ hk => hk.2))) | (show (Addr.add _ _).block ≠ _; rw [add_block]; exact Kd.own_blk (Kd.R_away HO_213002.out (fun _ hk => hk.2))) | (dsimp only; exact Kd.own_blk (Kd.R_away HO_213002.out (fun _ hk => hk.2)))) _).trans (((cell_far (p := ⟨gb225, _, none⟩) (by first | exact Kd.own_blk (Kd.R_away HO_213002.out (fun _ hk => hk.2)) | (rw [add_block]; exact Kd.own_blk (Kd.R_away HO_213002.out (fun _ hk => hk.2))) | (show (Addr.add _ _).block ≠ _; rw [add_block]; exact Kd.own_blk (Kd.R_away HO_213002.out (fun _ hk => hk.2))) | (dsimp only; exact Kd.own_blk (Kd.R_away HO_213002.out (fun _ hk => hk.2)))) _).trans (((cell_far (p := ⟨gb225, _, none⟩) (by first | exact Kd.own_blk (Kd.R_away HO_213002.out (fun _ hk => hk.2)) | (rw [add_block]; exact Kd.own_blk (Kd.R_away HO_213002.out (fun _ hk => hk.2))) | (show (Addr.add _ _).block ≠ _; rw [add_block]; exact Kd.own_blk (Kd.R_away HO_213002.out (fun _ hk => hk.2))) | (dsimp only; exact Kd.own_blk (Kd.R_away HO_213002.out (fun _ hk => hk.2)))) _).trans (((cell_far (p := ⟨gb225, _, none⟩) (by first | exact Kd.own_blk (Kd.R_away HO_213002.out (fun _ hk => hk.2)) | (rw [add_block]; exact Kd.own_blk (Kd.R_away HO_213002.out (fun _ hk => hk.2))) | (show (Addr.add _ _).block ≠ _; rw [add_block]; exact Kd.own_blk (Kd.R_away HO_213002.out (fun _ hk => hk.2))) | (dsimp only; exact Kd.own_blk (Kd.R_away HO_213002.out (fun _ hk => hk.2)))) _).trans (((cell_far (p := ⟨gb225, _, none⟩) (by first | exact Kd.own_blk (Kd.R_away HO_213002.out (fun _ hk => hk.2)) | (rw [add_block]; exact Kd.own_blk (Kd.R_away HO_213002.out (fun _ hk => hk.2))) | (show (Addr.add _ _).block ≠ _; rw [add_block]; exact Kd.own_blk (Kd.R_away HO_213002.out (fun _ hk => hk.2))) | (dsimp only; exact Kd.own_blk (Kd.R_away HO_213002.out (fun _ hk => hk.2)))) _).trans (hHeld.2.2.2.2.1)))))))))))), ((cell_far (p := ⟨gb225, _, none⟩) (by first | exact Kd.own_blk (Kd.R_away HO_213002.out (fun _ hk => hk.2)) | (rw [add_block]; exact Kd.own_blk (Kd.R_away HO_213002.out (fun _ hk => hk.2))) | (show (Addr.add _ _).block ≠ _; rw [add_block]; exact Kd.own_blk (Kd.R_away HO_213002.out (fun _ hk => hk.2))) | (dsimp only; exact Kd.own_blk (Kd.R_away HO_213002.out (fun _ hk => hk.2)))) _).trans (((cell_far (p := ⟨gb225, _, none⟩) (by first | exact Kd.own_blk (Kd.R_away HO_213002.out (fun _ hk => hk.2)) | (rw [add_block]; exact Kd.own_blk (Kd.R_away HO_213002.out (fun _ hk => hk.2))) | (show (Addr.add _ _).block ≠ _; rw [add_block]; exact Kd.own_blk (Kd.R_away HO_213002.out (fun _ hk => hk.2))) | (dsimp only; exact Kd.own_blk (Kd.R_away HO_213002.out (fun _ hk => hk.2)))) _).trans (((cell_far (p := ⟨gb225, _, none⟩) (by first | exact Kd.own_blk (Kd.R_away HO_213002.out (fun _ hk => hk.2)) | (rw [add_block]; exact Kd.own_blk (Kd.R_away HO_213002.out (fun _ hk => hk.2))) | (show (Addr.add _ _).block ≠ _; rw [add_block]; exact Kd.own_blk (Kd.R_away HO_213002.out (fun _ hk => hk.2))) | (dsimp only; exact Kd.own_blk (Kd.R_away HO_213002.out (fun _ hk => hk.2)))) _).trans (((cell_far (p := ⟨gb225, _, none⟩) (by first | exact Kd.own_blk (Kd.R_away HO_213002.out (fun _ hk => hk.2)) | (rw [add_block]; exact Kd.own_blk (Kd.R_away HO_213002.out (fun _ hk => hk.2))) | (show (Addr.add _ _).block ≠ _; rw [add_block]; exact Kd.own_blk (Kd.R_away HO_213002.out (fun _ hk => hk.2))) | (dsimp only; exact Kd.own_blk (Kd.R_away HO_213002.out (fun _ hk => hk.2)))) _).trans (((cell_far (p := ⟨gb225, _, none⟩) (by first | exact Kd.own_blk (Kd.R_away HO_213002.out (fun _ hk => hk.2)) | (rw [add_block]; exact Kd.own_blk (Kd.R_away HO_213002.out (fun _ hk => hk.2))) | (show (Addr.add _ _).block ≠ _; rw [add_block]; exact Kd.own_blk (Kd.R_away HO_213002.out (fun _ hk => hk.2))) | (dsimp only; exact Kd.own_blk (Kd.R_away HO_213002.out (fun _ hk => hk.2)))) _).trans (((cell_far (p := ⟨gb225, _, none⟩) (by first | exact Kd.own_blk (Kd.R_away HO_213002.out (fun _ hk => hk.2)) | (rw [add_block]; exact Kd.own_blk (Kd.R_away HO_213002.out (fun _ hk => hk.2))) | (show (Addr.add _ _).block ≠ _; rw [add_block]; exact Kd.own_blk (Kd.R_away HO_213002.out (fun _ hk => hk.2))) | (dsimp only; exact Kd.own_blk (Kd.R_away HO_213002.out (fun _ hk => hk.2)))) _).trans (hHeld.2.2.2.2.2.1)))))))))))), ((cell_far (p := ⟨gb225, _, none⟩) (by first | exact Kd.own_blk (Kd.R_away HO_213002.out (fun _ hk => hk.2)) | (rw [add_block]; exact Kd.own_blk (Kd.R_away HO_213002.out (fun _ hk => hk.2))) | (show (Addr.add _ _).block ≠ _; rw [add_block]; exact Kd.own_blk (Kd.R_away HO_213002.out (fun _ hk => hk.2))) | (dsimp only; exact Kd.own_blk (Kd.R_away HO_213002.out (fun _ hk => hk.2)))) _).trans (((cell_far (p := ⟨gb225, _, none⟩) (by first | exact Kd.own_blk (Kd.R_away HO_213002.out (fun _ hk => hk.2)) | (rw [add_block]; exact Kd.own_blk (Kd.R_away HO_213002.out (fun _ hk => hk.2))) | (show (Addr.add _ _).block ≠ _; rw [add_block]; exact Kd.own_blk (Kd.R_away HO_213002.out (fun _ hk => hk.2))) | (dsimp only; exact Kd.own_blk (Kd.R_away HO_213002.out (fun _ hk => hk.2)))) _).trans (((cell_far (p := ⟨gb225, _, none⟩) (by first | exact Kd.own_blk (Kd.R_away HO_213002.out (fun _ hk => hk.2)) | (rw [add_block]; exact Kd.own_blk (Kd.R_away HO_213002.out (fun _ hk => hk.2))) | (show (Addr.add _ _).block ≠ _; rw [add_block]; exact Kd.own_blk (Kd.R_away HO_213002.out (fun _ hk => hk.2))) | (dsimp only; exact Kd.own_blk (Kd.R_away HO_213002.out (fun _ hk => hk.2)))) _).trans (((cell_far (p := ⟨gb225, _, none⟩) (by first | exact Kd.own_blk (Kd.R_away HO_213002.out (fun _ hk => hk.2)) | (rw [add_block]; exact Kd.own_blk (Kd.R_away HO_213002.out (fun _ hk => hk.2))) | (show (Addr.add _ _).block ≠ _; rw [add_block]; exact Kd.own_blk (Kd.R_away HO_213002.out (fun _ hk => hk.2))) | (dsimp only; exact Kd.own_blk (Kd.R_away HO_213002.out (fun _ hk => hk.2)))) _).trans (((cell_far (p := ⟨gb225, _, none⟩) (by first | exact Kd.own_blk (Kd.R_away HO_213002.out (fun _ hk => hk.2)) | (rw [add_block]; exact Kd.own_blk (Kd.R_away HO_213002.out (fun _ hk => hk.2))) | (show (Addr.add _ _).block ≠ _; rw [add_block]; exact Kd.own_blk (Kd.R_away HO_213002.out (fun _ hk => hk.2))) | (dsimp only; exact Kd.own_blk (Kd.R_away HO_213002.out (fun _ hk => hk.2)))) _).trans (((cell_far (p := ⟨gb225, _, none⟩) (by first | exact Kd.own_blk (Kd.R_away HO_213002.out (fun _ hk => hk.2)) | (rw [add_block]; exact Kd.own_blk (Kd.R_away HO_213002.out (fun _ hk => hk.2))) | (show (Addr.add _ _).block ≠ _; rw [add_block]; exact Kd.own_blk (Kd.R_away HO_213002.out (fun _ hk => hk.2))) | (dsimp only; exact Kd.own_blk (Kd.R_away HO_213002.out (fun _ hk => hk.2)))) _).trans (hHeld.2.2.2.2.2.2.1)))))))))))), ((cell_far (p := ⟨gb225, _, none⟩) (by first | exact Kd.own_blk (Kd.R_away HO_213002.out (fun _ hk => hk.2)) | (rw [add_block]; exact Kd.own_blk (Kd.R_away HO_213002.out (fun _ hk => hk.2))) | (show (Addr.add _ _).block ≠ _; rw [add_block]; exact Kd.own_blk (Kd.R_away HO_213002.out (fun _ hk => hk.2))) | (dsimp only; exact Kd.own_blk (Kd.R_away HO_213002.out (fun _ hk => hk.2)))) _).trans (((cell_far (p := ⟨gb225, _, none⟩) (by first | exact Kd.own_blk (Kd.R_away HO_213002.out (fun _ hk => hk.2)) | (rw [add_block]; exact Kd.own_blk (Kd.R_away HO_213002.out (fun _ hk => hk.2))) | (show (Addr.add _ _).block ≠ _; rw [add_block]; exact Kd.own_blk (Kd.R_away HO_213002.out (fun _ hk => hk.2))) | (dsimp only; exact Kd.own_blk (Kd.R_away HO_213002.out (fun _ hk => hk.2)))) _).trans (((cell_far (p := ⟨gb225, _, none⟩) (by first | exact Kd.own_blk (Kd.R_away HO_213002.out (fun _ hk => hk.2)) | (rw [add_block]; exact Kd.own_blk (Kd.R_away HO_213002.out (fun _ hk => hk.2))) | (show (Addr.add _ _).block ≠ _; rw [add_block]; exact Kd.own_blk (Kd.R_away HO_213002.out (fun _ hk => hk.2))) | (dsimp only; exact Kd.own_blk (Kd.R_away HO_213002.out (fun _ hk => hk.2)))) _).trans (((cell_far (p := ⟨gb225, _, none⟩) (by first | exact Kd.own_blk (Kd.R_away HO_213002.out (fun _ hk => hk.2)) | (rw [add_block]; exact Kd.own_blk (Kd.R_away HO_213002.out (fun _ hk => hk.2))) | (show (Addr.add _ _).block ≠ _; rw [add_block]; exact Kd.own_blk (Kd.R_away HO_213002.out (fun _ hk => hk.2))) | (dsimp only; exact Kd.own_blk (Kd.R_away HO_213002.out (fun _ hk => hk.2)))) _).trans (((cell_far (p := ⟨gb225, _, none⟩) (by first | exact Kd.own_blk (Kd.R_away HO_213002.out (fun _ hk => hk.2)) | (rw [add_block]; exact Kd.own_blk (Kd.R_away HO_213002.out (fun _ hk => hk.2))) | (show (Addr.add _ _).block ≠ _; rw [add_block]; exact Kd.own_blk (Kd.R_away HO_213002.out (fun _ hk => hk.2))) | (dsimp only; exact Kd.own_blk (Kd.R_away HO_213002.out (fun _ hk => hk.2)))) _).trans (((cell_far (p := ⟨gb225, _, none⟩) (by first | exact Kd.own_blk (Kd.R_away HO_213002.out (fun _ hk => hk.2)) | (rw [add_block]; exact Kd.own_blk (Kd.R_away HO_213002.out (fun _ hk => hk.2))) | (show (Addr.add _ _).block ≠ _; rw [add_block]; exact Kd.own_blk (Kd.R_away HO_213002.out (fun _ hk => hk.2))) | (dsimp only; exact Kd.own_blk (Kd.R_away HO_213002.out (fun _ hk => hk.2)))) _).trans (hHeld.2.2.2.2.2.2.2.1)))))))))))), ((cell_far (p := ⟨gb225, _, none⟩) (by first | exact Kd.own_blk (Kd.R_away HO_213002.out (fun _ hk => hk.2)) | (rw [add_block]; exact Kd.own_blk (Kd.R_away HO_213002.out (fun _ hk => hk.2))) | (show (Addr.add _ _).block ≠ _; rw [add_block]; exact Kd.own_blk (Kd.R_away HO_213002.out (fun _ hk => hk.2))) | (dsimp only; exact Kd.own_blk (Kd.R_away HO_213002.out (fun _ hk => hk.2)))) _).trans (((cell_far (p := ⟨gb225, _, none⟩) (by first | exact Kd.own_blk (Kd.R_away HO_213002.out (fun _ hk => hk.2)) | (rw [add_block]; exact Kd.own_blk (Kd.R_away HO_213002.out (fun _ hk => hk.2))) | (show (Addr.add _ _).block ≠ _; rw [add_block]; exact Kd.own_blk (Kd.R_away HO_213002.out (fun _ hk => hk.2))) | (dsimp only; exact Kd.own_blk (Kd.R_away HO_213002.out (fun _ hk => hk.2)))) _).trans (((cell_far (p := ⟨gb225, _, none⟩) (by first | exact Kd.own_blk (Kd.R_away HO_213002.out (fun _ hk => hk.2)) | (rw [add_block]; exact Kd.own_blk (Kd.R_away HO_213002.out (fun _ hk => hk.2))) | (show (Addr.add _ _).block ≠ _; rw [add_block]; exact Kd.own_blk (Kd.R_away HO_213002.out (fun _ hk => hk.2))) | (dsimp only; exact Kd.own_blk (Kd.R_away HO_213002.out (fun _ hk => hk.2)))) _).trans (((cell_far (p := ⟨gb225, _, none⟩) (by first | exact Kd.own_blk (Kd.R_away HO_213002.out (fun _ hk => hk.2)) | (rw [add_block]; exact Kd.own_blk (Kd.R_away HO_213002.out (fun _ hk => hk.2))) | (show (Addr.add _ _).block ≠ _; rw [add_block]; exact Kd.own_blk (Kd.R_away HO_213002.out (fun _ hk => hk.2))) | (dsimp only; exact Kd.own_blk (Kd.R_away HO_213002.out (fun _ hk => hk.2)))) _).trans (((cell_far (p := ⟨gb225, _, none⟩) (by first | exact Kd.own_blk (Kd.R_away HO_213002.out (fun _ hk => hk.2)) | (rw [add_block]; exact Kd.own_blk (Kd.R_away HO_213002.out (fun _ hk => hk.2))) | (show (Addr.add _ _).block ≠ _; rw [add_block]; exact Kd.own_blk (Kd.R_away HO_213002.out (fun _ hk => hk.2))) | (dsimp only; exact Kd.own_blk (Kd.R_away HO_213002.out (fun _ hk => hk.2)))) _).trans (((cell_far (p := ⟨gb225, _, none⟩) (by first | exact Kd.own_blk (Kd.R_away HO_213002.out (fun _ hk => hk.2)) | (rw [add_block]; exact Kd.own_blk (Kd.R_away HO_213002.out (fun _ hk => hk.2))) | (show (Addr.add _ _).block ≠ _; rw [add_block]; exact Kd.own_blk (Kd.R_away HO_213002.out (fun _ hk => hk.2))) | (dsimp only; exact Kd.own_blk (Kd.R_away HO_213002.out (fun _ hk => hk.2)))) _).trans (hHeld.2.2.2.2.2.2.2.2.1)))))))))))), ((cell_far (p := ⟨gb225, _, none⟩) (by first | exact Kd.own_blk (Kd.R_away HO_213002.out (fun _ hk => hk.2)) | (rw [add_block]; exact Kd.own_blk (Kd.R_away HO_213002.out (fun _ hk => hk.2))) | (show (Addr.add _ _).block ≠ _; rw [add_block]; exact Kd.own_blk (Kd.R_away HO_213002.out (fun _ hk => hk.2))) | (dsimp only; exact Kd.own_blk (Kd.R_away HO_213002.out (fun _ hk => hk.2)))) _).trans (((cell_far (p := ⟨gb225, _, none⟩) (by first | exact Kd.own_blk (Kd.R_away HO_213002.out (fun _ hk => hk.2)) | (rw [add_block]; exact Kd.own_blk (Kd.R_away HO_213002.out (fun _ hk => hk.2))) | (show (Addr.add _ _).block ≠ _; rw [add_block]; exact Kd.own_blk (Kd.R_away HO_213002.out (fun _ hk => hk.2))) | (dsimp only; exact Kd.own_blk (Kd.R_away HO_213002.out (fun _ hk => hk.2)))) _).trans (((cell_far (p := ⟨gb225, _, none⟩) (by first | exact Kd.own_blk (Kd.R_away HO_213002.out (fun _ hk => hk.2)) | (rw [add_block]; exact Kd.own_blk (Kd.R_away HO_213002.out (fun _ hk => hk.2))) | (show (Addr.add _ _).block ≠ _; rw [add_block]; exact Kd.own_blk (Kd.R_away HO_213002.out (fun _ hk => hk.2))) | (dsimp only; exact Kd.own_blk (Kd.R_away HO_213002.out (fun _ hk => hk.2)))) _).trans (((cell_far (p := ⟨gb225, _, none⟩) (by first | exact Kd.own_blk (Kd.R_away HO_213002.out (fun _ hk => hk.2)) | (rw [add_block]; exact Kd.own_blk (Kd.R_away HO_213002.out (fun _ hk => hk.2))) | (show (Addr.add _ _).block ≠ _; rw [add_block]; exact Kd.own_blk (Kd.R_away HO_213002.out (fun _ hk => hk.2))) | (dsimp only; exact Kd.own_blk (Kd.R_away HO_213002.out (fun _ hk => hk.2)))) _).trans (((cell_far (p := ⟨gb225, _, none⟩) (by first | exact Kd.own_blk (Kd.R_away HO_213002.out (fun _ hk => hk.2)) | (rw [add_block]; exact Kd.own_blk (Kd.R_away HO_213002.out (fun _ hk => hk.2))) | (show (Addr.add _ _).block ≠ _; rw [add_block]; exact Kd.own_blk (Kd.R_away HO_213002.out (fun _ hk => hk.2))) | (dsimp only; exact Kd.own_blk (Kd.R_away HO_213002.out (fun _ hk => hk.2)))) _).trans (((cell_far (p := ⟨gb225, _, none⟩) (by first | exact Kd.own_blk (Kd.R_away HO_213002.out (fun _ hk => hk.2)) | (rw [add_block]; exact Kd.own_blk (Kd.R_away HO_213002.out (fun _ hk => hk.2))) | (show (Addr.add _ _).block ≠ _; rw [add_block]; exact Kd.own_blk (Kd.R_away HO_213002.out (fun _ hk => hk.2))) | (dsimp only; exact Kd.own_blk (Kd.R_away HO_213002.out (fun _ hk => hk.2)))) _).trans (hHeld.2.2.2.2.2.2.2.2.2))))))))))))⟩ (fun hHeld => ?_)
                   clear hK K
                   refine done_ (done_of HT_.out (by kernel_rfl)) ?_
                   try go_wp2
                   have n0_ : Aside0 (Kd.R (Kd.int .i64) 3 ((((((w55.setCell ⟨gb225, 0, none⟩ (.int .i64 ((rd_T36 t209 (rd t213 x46_2)).f0))).setCell ⟨gb225, 1, none⟩ (.int .i64 ((rd_T36 t209 (rd t213 x46_2)).f1))).setCell ⟨gb225, 2, none⟩ (.int .i64 ((rd_T36 t209 (rd t213 x46_2)).f2))).setCell ⟨gb225, 3, none⟩ (.int .i64 ((rd_T36 t209 (rd t213 x46_2)).f3))).setCell ⟨gb225, 4, none⟩ (.int .i64 ((rd_T36 t209 (rd t213 x46_2)).f4))).setCell ⟨gb225, 5, none⟩ (.int .i64 ((rd_T36 t209 (rd t213 x46_2)).f5))) w.heap.size (fun _ => True) (.slice (some ad218) t213.length co26) t213) := ⟨by (with_reducible repeat (first | apply Kd.R_alloc | apply Kd.R_drewN | apply Kd.R_drew)); exact Kd.R_mono (Kd.R_far (p := ⟨gb225, 5, none⟩) (Kd.R_far (p := ⟨gb225, 4, none⟩) (Kd.R_far (p := ⟨gb225, 3, none⟩) (Kd.R_far (p := ⟨gb225, 2, none⟩) (Kd.R_far (p := ⟨gb225, 1, none⟩) (Kd.R_far (p := ⟨gb225, 0, none⟩) (Kd.R_types HO_6.out BK225.out (by decide)) (fun _ hk => hk.2) (.int .i64 ((rd_T36 t209 (rd t213 x46_2)).f0))) (fun _ hk => hk.2) (.int .i64 ((rd_T36 t209 (rd t213 x46_2)).f1))) (fun _ hk => hk.2) (.int .i64 ((rd_T36 t209 (rd t213 x46_2)).f2))) (fun _ hk => hk.2) (.int .i64 ((rd_T36 t209 (rd t213 x46_2)).f3))) (fun _ hk => hk.2) (.int .i64 ((rd_T36 t209 (rd t213 x46_2)).f4))) (fun _ hk => hk.2) (.int .i64 ((rd_T36 t209 (rd t213 x46_2)).f5))) (fun _ hk => trivial)⟩
                   have n1_ : Aside0 (Kd.R Kd.bool 4 ((((((w55.setCell ⟨gb225, 0, none⟩ (.int .i64 ((rd_T36 t209 (rd t213 x46_2)).f0))).setCell ⟨gb225, 1, none⟩ (.int .i64 ((rd_T36 t209 (rd t213 x46_2)).f1))).setCell ⟨gb225, 2, none⟩ (.int .i64 ((rd_T36 t209 (rd t213 x46_2)).f2))).setCell ⟨gb225, 3, none⟩ (.int .i64 ((rd_T36 t209 (rd t213 x46_2)).f3))).setCell ⟨gb225, 4, none⟩ (.int .i64 ((rd_T36 t209 (rd t213 x46_2)).f4))).setCell ⟨gb225, 5, none⟩ (.int .i64 ((rd_T36 t209 (rd t213 x46_2)).f5))) w.heap.size (fun _ => True) v220 t219) := ⟨by (with_reducible repeat (first | apply Kd.R_alloc | apply Kd.R_drewN | apply Kd.R_drew)); exact Kd.R_mono (Kd.R_far (p := ⟨gb225, 5, none⟩) (Kd.R_far (p := ⟨gb225, 4, none⟩) (Kd.R_far (p := ⟨gb225, 3, none⟩) (Kd.R_far (p := ⟨gb225, 2, none⟩) (Kd.R_far (p := ⟨gb225, 1, none⟩) (Kd.R_far (p := ⟨gb225, 0, none⟩) (Kd.R_types HO_8.out BK225.out (by decide)) (fun _ hk => hk.2) (.int .i64 ((rd_T36 t209 (rd t213 x46_2)).f0))) (fun _ hk => hk.2) (.int .i64 ((rd_T36 t209 (rd t213 x46_2)).f1))) (fun _ hk => hk.2) (.int .i64 ((rd_T36 t209 (rd t213 x46_2)).f2))) (fun _ hk => hk.2) (.int .i64 ((rd_T36 t209 (rd t213 x46_2)).f3))) (fun _ hk => hk.2) (.int .i64 ((rd_T36 t209 (rd t213 x46_2)).f4))) (fun _ hk => hk.2) (.int .i64 ((rd_T36 t209 (rd t213 x46_2)).f5))) (fun _ hk => trivial)⟩
                   have n2_ : Aside0 (Kd.R k97 97 ((((((w55.setCell ⟨gb225, 0, none⟩ (.int .i64 ((rd_T36 t209 (rd t213 x46_2)).f0))).setCell ⟨gb225, 1, none⟩ (.int .i64 ((rd_T36 t209 (rd t213 x46_2)).f1))).setCell ⟨gb225, 2, none⟩ (.int .i64 ((rd_T36 t209 (rd t213 x46_2)).f2))).setCell ⟨gb225, 3, none⟩ (.int .i64 ((rd_T36 t209 (rd t213 x46_2)).f3))).setCell ⟨gb225, 4, none⟩ (.int .i64 ((rd_T36 t209 (rd t213 x46_2)).f4))).setCell ⟨gb225, 5, none⟩ (.int .i64 ((rd_T36 t209 (rd t213 x46_2)).f5))) w.heap.size (fun _ => True) (.slice Ao23 t206.length co23) t206) := ⟨by (with_reducible repeat (first | apply Kd.R_alloc | apply Kd.R_drewN | apply Kd.R_drew)); exact Kd.R_mono (Kd.R_far (p := ⟨gb225, 5, none⟩) (Kd.R_far (p := ⟨gb225, 4, none⟩) (Kd.R_far (p := ⟨gb225, 3, none⟩) (Kd.R_far (p := ⟨gb225, 2, none⟩) (Kd.R_far (p := ⟨gb225, 1, none⟩) (Kd.R_far (p := ⟨gb225, 0, none⟩) (Kd.R_types HO_213001.out BK225.out (by decide)) (fun _ hk => hk.2) (.int .i64 ((rd_T36 t209 (rd t213 x46_2)).f0))) (fun _ hk => hk.2) (.int .i64 ((rd_T36 t209 (rd t213 x46_2)).f1))) (fun _ hk => hk.2) (.int .i64 ((rd_T36 t209 (rd t213 x46_2)).f2))) (fun _ hk => hk.2) (.int .i64 ((rd_T36 t209 (rd t213 x46_2)).f3))) (fun _ hk => hk.2) (.int .i64 ((rd_T36 t209 (rd t213 x46_2)).f4))) (fun _ hk => hk.2) (.int .i64 ((rd_T36 t209 (rd t213 x46_2)).f5))) (fun _ hk => trivial)⟩
                   have n3_ : Aside0 (Kd.R k36 36 ((((((w55.setCell ⟨gb225, 0, none⟩ (.int .i64 ((rd_T36 t209 (rd t213 x46_2)).f0))).setCell ⟨gb225, 1, none⟩ (.int .i64 ((rd_T36 t209 (rd t213 x46_2)).f1))).setCell ⟨gb225, 2, none⟩ (.int .i64 ((rd_T36 t209 (rd t213 x46_2)).f2))).setCell ⟨gb225, 3, none⟩ (.int .i64 ((rd_T36 t209 (rd t213 x46_2)).f3))).setCell ⟨gb225, 4, none⟩ (.int .i64 ((rd_T36 t209 (rd t213 x46_2)).f4))).setCell ⟨gb225, 5, none⟩ (.int .i64 ((rd_T36 t209 (rd t213 x46_2)).f5))) w.heap.size (fun k_ => k_ ≠ gb225) (.slice (some ad224) t209.length co24) t209) := ⟨by (with_reducible repeat (first | apply Kd.R_alloc | apply Kd.R_drewN | apply Kd.R_drew)); exact Kd.R_mono (Kd.R_far (p := ⟨gb225, 5, none⟩) (Kd.R_far (p := ⟨gb225, 4, none⟩) (Kd.R_far (p := ⟨gb225, 3, none⟩) (Kd.R_far (p := ⟨gb225, 2, none⟩) (Kd.R_far (p := ⟨gb225, 1, none⟩) (Kd.R_far (p := ⟨gb225, 0, none⟩) (Kd.R_mono HO_213002.out (fun k_ hk => (⟨hk, hk.2⟩ : _ ∧ k_ ≠ gb225))) (fun _ hk => hk.2) (.int .i64 ((rd_T36 t209 (rd t213 x46_2)).f0))) (fun _ hk => hk.2) (.int .i64 ((rd_T36 t209 (rd t213 x46_2)).f1))) (fun _ hk => hk.2) (.int .i64 ((rd_T36 t209 (rd t213 x46_2)).f2))) (fun _ hk => hk.2) (.int .i64 ((rd_T36 t209 (rd t213 x46_2)).f3))) (fun _ hk => hk.2) (.int .i64 ((rd_T36 t209 (rd t213 x46_2)).f4))) (fun _ hk => hk.2) (.int .i64 ((rd_T36 t209 (rd t213 x46_2)).f5))) (fun _ hk => hk.1.2)⟩
                   have n4_ : Aside0 (((((((w55.setCell ⟨gb225, 0, none⟩ (.int .i64 ((rd_T36 t209 (rd t213 x46_2)).f0))).setCell ⟨gb225, 1, none⟩ (.int .i64 ((rd_T36 t209 (rd t213 x46_2)).f1))).setCell ⟨gb225, 2, none⟩ (.int .i64 ((rd_T36 t209 (rd t213 x46_2)).f2))).setCell ⟨gb225, 3, none⟩ (.int .i64 ((rd_T36 t209 (rd t213 x46_2)).f3))).setCell ⟨gb225, 4, none⟩ (.int .i64 ((rd_T36 t209 (rd t213 x46_2)).f4))).setCell ⟨gb225, 5, none⟩ (.int .i64 ((rd_T36 t209 (rd t213 x46_2)).f5))).heap[gb212]? = some (.cells #[.int .i64 t205, .slice Ao23 t206.length co23, .slice (some ad224) t209.length co24] 26 (0, 0))) := ⟨by (with_reducible repeat (first | refine blk_drewN ?_ _ | refine blk_drew ?_ | refine blk_alloc ?_ _)); refine blk_far ?_ NB212_225.out _; (with_reducible repeat (first | refine blk_drewN ?_ _ | refine blk_drew ?_ | refine blk_alloc ?_ _)); refine blk_far ?_ NB212_225.out _; (with_reducible repeat (first | refine blk_drewN ?_ _ | refine blk_drew ?_ | refine blk_alloc ?_ _)); refine blk_far ?_ NB212_225.out _; (with_reducible repeat (first | refine blk_drewN ?_ _ | refine blk_drew ?_ | refine blk_alloc ?_ _)); refine blk_far ?_ NB212_225.out _; (with_reducible repeat (first | refine blk_drewN ?_ _ | refine blk_drew ?_ | refine blk_alloc ?_ _)); refine blk_far ?_ NB212_225.out _; (with_reducible repeat (first | refine blk_drewN ?_ _ | refine blk_drew ?_ | refine blk_alloc ?_ _)); refine blk_far ?_ NB212_225.out _; (with_reducible repeat (first | refine blk_drewN ?_ _ | refine blk_drew ?_ | refine blk_alloc ?_ _)); exact BK212.out⟩
                   have n5_ : Aside0 (((((((w55.setCell ⟨gb225, 0, none⟩ (.int .i64 ((rd_T36 t209 (rd t213 x46_2)).f0))).setCell ⟨gb225, 1, none⟩ (.int .i64 ((rd_T36 t209 (rd t213 x46_2)).f1))).setCell ⟨gb225, 2, none⟩ (.int .i64 ((rd_T36 t209 (rd t213 x46_2)).f2))).setCell ⟨gb225, 3, none⟩ (.int .i64 ((rd_T36 t209 (rd t213 x46_2)).f3))).setCell ⟨gb225, 4, none⟩ (.int .i64 ((rd_T36 t209 (rd t213 x46_2)).f4))).setCell ⟨gb225, 5, none⟩ (.int .i64 ((rd_T36 t209 (rd t213 x46_2)).f5))).heap[gb225]? = some (.cells #[.int .i64 ((rd_T36 t209 (rd t213 x46_2)).f0), .int .i64 ((rd_T36 t209 (rd t213 x46_2)).f1), .int .i64 ((rd_T36 t209 (rd t213 x46_2)).f2), .int .i64 ((rd_T36 t209 (rd t213 x46_2)).f3), .int .i64 ((rd_T36 t209 (rd t213 x46_2)).f4), .int .i64 ((rd_T36 t209 (rd t213 x46_2)).f5)] 36 (0, 0))) := ⟨by (with_reducible repeat (first | refine blk_drewN ?_ _ | refine blk_drew ?_ | refine blk_alloc ?_ _)); refine blk_put (cs := #[.int .i64 ((rd_T36 t209 (rd t213 x46_2)).f0), .int .i64 ((rd_T36 t209 (rd t213 x46_2)).f1), .int .i64 ((rd_T36 t209 (rd t213 x46_2)).f2), .int .i64 ((rd_T36 t209 (rd t213 x46_2)).f3), .int .i64 ((rd_T36 t209 (rd t213 x46_2)).f4), .int .i64 0]) ?_ 5 _ rfl; (with_reducible repeat (first | refine blk_drewN ?_ _ | refine blk_drew ?_ | refine blk_alloc ?_ _)); refine blk_put (cs := #[.int .i64 ((rd_T36 t209 (rd t213 x46_2)).f0), .int .i64 ((rd_T36 t209 (rd t213 x46_2)).f1), .int .i64 ((rd_T36 t209 (rd t213 x46_2)).f2), .int .i64 ((rd_T36 t209 (rd t213 x46_2)).f3), .int .i64 0, .int .i64 0]) ?_ 4 _ rfl; (with_reducible repeat (first | refine blk_drewN ?_ _ | refine blk_drew ?_ | refine blk_alloc ?_ _)); refine blk_put (cs := #[.int .i64 ((rd_T36 t209 (rd t213 x46_2)).f0), .int .i64 ((rd_T36 t209 (rd t213 x46_2)).f1), .int .i64 ((rd_T36 t209 (rd t213 x46_2)).f2), .int .i64 0, .int .i64 0, .int .i64 0]) ?_ 3 _ rfl; (with_reducible repeat (first | refine blk_drewN ?_ _ | refine blk_drew ?_ | refine blk_alloc ?_ _)); refine blk_put (cs := #[.int .i64 ((rd_T36 t209 (rd t213 x46_2)).f0), .int .i64 ((rd_T36 t209 (rd t213 x46_2)).f1), .int .i64 0, .int .i64 0, .int .i64 0, .int .i64 0]) ?_ 2 _ rfl; (with_reducible repeat (first | refine blk_drewN ?_ _ | refine blk_drew ?_ | refine blk_alloc ?_ _)); refine blk_put (cs := #[.int .i64 ((rd_T36 t209 (rd t213 x46_2)).f0), .int .i64 0, .int .i64 0, .int .i64 0, .int .i64 0, .int .i64 0]) ?_ 1 _ rfl; (with_reducible repeat (first | refine blk_drewN ?_ _ | refine blk_drew ?_ | refine blk_alloc ?_ _)); refine blk_put (cs := #[.int .i64 0, .int .i64 0, .int .i64 0, .int .i64 0, .int .i64 0, .int .i64 0]) ?_ 0 _ rfl; (with_reducible repeat (first | refine blk_drewN ?_ _ | refine blk_drew ?_ | refine blk_alloc ?_ _)); exact BK225.out⟩
                   have n6_ : Aside0 (Below w.heap.size w ((((((w55.setCell ⟨gb225, 0, none⟩ (.int .i64 ((rd_T36 t209 (rd t213 x46_2)).f0))).setCell ⟨gb225, 1, none⟩ (.int .i64 ((rd_T36 t209 (rd t213 x46_2)).f1))).setCell ⟨gb225, 2, none⟩ (.int .i64 ((rd_T36 t209 (rd t213 x46_2)).f2))).setCell ⟨gb225, 3, none⟩ (.int .i64 ((rd_T36 t209 (rd t213 x46_2)).f3))).setCell ⟨gb225, 4, none⟩ (.int .i64 ((rd_T36 t209 (rd t213 x46_2)).f4))).setCell ⟨gb225, 5, none⟩ (.int .i64 ((rd_T36 t209 (rd t213 x46_2)).f5)))) := ⟨by repeat (first | (with_reducible first | exact HB.out | apply below_alloc | apply pw_below_drewN | apply below_drew1 | refine below_set ?_ GE212.out | refine below_set ?_ GE225.out) | exact HB.out)⟩
                   (try clear HO_6)
                   (try clear HO_8)
                   (try clear HO_213001)
                   (try clear HO_213002)
                   (try clear BK212)
                   (try clear BK225)
                   (try clear HB)
                   generalize ((((((w55.setCell ⟨gb225, 0, none⟩ (.int .i64 ((rd_T36 t209 (rd t213 x46_2)).f0))).setCell ⟨gb225, 1, none⟩ (.int .i64 ((rd_T36 t209 (rd t213 x46_2)).f1))).setCell ⟨gb225, 2, none⟩ (.int .i64 ((rd_T36 t209 (rd t213 x46_2)).f2))).setCell ⟨gb225, 3, none⟩ (.int .i64 ((rd_T36 t209 (rd t213 x46_2)).f3))).setCell ⟨gb225, 4, none⟩ (.int .i64 ((rd_T36 t209 (rd t213 x46_2)).f4))).setCell ⟨gb225, 5, none⟩ (.int .i64 ((rd_T36 t209 (rd t213 x46_2)).f5))) = w62 at n0_ n1_ n2_ n3_ n4_ n5_ n6_ ⊢
                   have HO_6 := n0_
                   have HO_8 := n1_
                   have HO_213001 := n2_
                   have HO_213002 := n3_
                   have BK212 := n4_
                   have BK225 := n5_
                   have HB := n6_
                   clear n0_ n1_ n2_ n3_ n4_ n5_ n6_
                   have n0_ := Aside0.mk (Kd.R_drew HO_6.out)
                   have n1_ := Aside0.mk (Kd.R_drew HO_8.out)
                   have n2_ := Aside0.mk (Kd.R_drew HO_213001.out)
                   have n3_ := Aside0.mk (Kd.R_drew HO_213002.out)
                   have n4_ := Aside0.mk (blk_drew BK212.out)
                   have n5_ := Aside0.mk (blk_drew BK225.out)
                   have n6_ := Aside0.mk (below_drew1 HB.out)
                   clear HO_6
                   clear HO_8
                   clear HO_213001
                   clear HO_213002
                   clear BK212
                   clear BK225
                   clear HB
                   have HO_6 := n0_
                   have HO_8 := n1_
                   have HO_213001 := n2_
                   have HO_213002 := n3_
                   have BK212 := n4_
                   have BK225 := n5_
                   have HB := n6_
                   clear n0_ n1_ n2_ n3_ n4_ n5_ n6_
                   obtain ⟨Ao64, co64, eo64⟩ := Kd.R_slice HO_8.out
                   (first | subst eo64 | (injection eo64 with f1_ f2_ f3_; have f4_ := f1_.symm; have f5_ := f3_.symm; clear f1_ f2_ f3_; subst f4_; subst f5_))
                   have p226 : 0 ≤ (((rd_T36 t209 (rd t213 x46_2)).f1) : Int) := of_decide_eq_true (by first | (with_reducible assumption) | assumption)
                   have q226 : ((rd_T36 t209 (rd t213 x46_2)).f1) < (t219.length : Int) := of_decide_eq_true (by first | (with_reducible assumption) | assumption)
                   obtain ⟨ad226, e226, hx226_0⟩ := Kd.at_bool (Kd.R_reads' HO_8.out).2.2 ((rd_T36 t209 (rd t213 x46_2)).f1) p226 q226
                   cases e226
                   replace p226 := eq_true p226
                   replace q226 := eq_true q226
                   have p227 : 0 ≤ (((rd_T36 t209 (rd t213 x46_2)).f2) : Int) := of_decide_eq_true (by first | (with_reducible assumption) | assumption)
                   have q227 : ((rd_T36 t209 (rd t213 x46_2)).f2) < (t219.length : Int) := of_decide_eq_true (by first | (with_reducible assumption) | assumption)
                   obtain ⟨ad227, e227, hx227_0⟩ := Kd.at_bool (Kd.R_reads' HO_8.out).2.2 ((rd_T36 t209 (rd t213 x46_2)).f2) p227 q227
                   obtain rfl : ad226 = ad227 := (by injection e227)
                   replace p227 := eq_true p227
                   replace q227 := eq_true q227
                   have p228 : 0 ≤ (x46_2 : Int) := of_decide_eq_true (by first | (with_reducible assumption) | assumption)
                   have q228 : x46_2 < (t213.length : Int) := of_decide_eq_true (by first | (with_reducible assumption) | assumption)
                   obtain ⟨ad228, e228, hx228_0⟩ := Kd.at_int (Kd.R_reads' HO_6.out).2.2 x46_2 p228 q228
                   obtain rfl : ad218 = ad228 := (by injection e228)
                   replace p228 := eq_true p228
                   replace q228 := eq_true q228
                   refine start_ (n := 18) (S := fun w' => w'.cell? ⟨gb225, 0, none⟩ = some (.int .i64 ((rd_T36 t209 (rd t213 x46_2)).f0)) ∧ w'.cell? ⟨gb225, 1, none⟩ = some (.int .i64 ((rd_T36 t209 (rd t213 x46_2)).f1)) ∧ w'.cell? ⟨gb225, 2, none⟩ = some (.int .i64 ((rd_T36 t209 (rd t213 x46_2)).f2)) ∧ w'.cell? ⟨gb225, 3, none⟩ = some (.int .i64 ((rd_T36 t209 (rd t213 x46_2)).f3)) ∧ w'.cell? ⟨gb225, 4, none⟩ = some (.int .i64 ((rd_T36 t209 (rd t213 x46_2)).f4)) ∧ w'.cell? ⟨gb225, 5, none⟩ = some (.int .i64 ((rd_T36 t209 (rd t213 x46_2)).f5)) ∧ w'.cell? (ad226.add (((rd_T36 t209 (rd t213 x46_2)).f1)).toNat) = some (.bool (rdOf false t219 ((rd_T36 t209 (rd t213 x46_2)).f1))) ∧ w'.cell? (ad226.add (((rd_T36 t209 (rd t213 x46_2)).f2)).toNat) = some (.bool (rdOf false t219 ((rd_T36 t209 (rd t213 x46_2)).f2))) ∧ w'.cell? (ad218.add (x46_2).toNat) = some (.int .i64 (rd t213 x46_2))) (ds := []) #[false, false, false, false, false, false, false, false, false, false, false, false, false, false, false, false, false, false] (by kernel_rfl) rfl rfl ⟨(blk_cell BK225.out 0).trans rfl, (blk_cell BK225.out 1).trans rfl, (blk_cell BK225.out 2).trans rfl, (blk_cell BK225.out 3).trans rfl, (blk_cell BK225.out 4).trans rfl, (blk_cell BK225.out 5).trans rfl, hx226_0, hx227_0, hx228_0⟩ (fun hHeld => ?_); refine with_tabW railplanlaw16_SimplexCutSplits.tab13 railplanlaw16_SimplexCutSplits.bits13 (fun HT_ HW_ => ?_)
                   generalize w62.drew = w63 at HO_6 HO_8 HO_213001 HO_213002 BK212 BK225 HB hx226_0 hx227_0 hx228_0 hHeld ⊢
                   refine pure_ (i := 0) (N := some 57) (v := ?_) (a' := ?_) #[true, false, false, false, false, false, false, false, false, false, false, false, false, false, false, false, false, false] rfl rfl (any_of HT_.out (by kernel_rfl)) (fun _ _ _ h => h) (Or.inl ⟨by rfl, ?_⟩) ?_ ?_
                   rotate_left
                   ·intro w'
                    go_simp
                    first | with_reducible rfl | (rw [if_neg (by simp only [ByteArray.size_append, ByteArray.size_extract, decide_eq_true_eq, eq_iff_iff, iff_true] at *; omega)]; try with_reducible rfl)
                   rotate_left
                   ·simp only [Act.put, List.setIfInBounds_toArray, List.set_cons_zero, List.set_cons_succ, i64_w, i32_w]
                    rfl
                   refine pure_ (i := 1) (N := some 58) (v := ?_) (a' := ?_) #[true, true, false, false, false, false, false, false, false, false, false, false, false, false, false, false, false, false] rfl rfl (any_of HT_.out (by kernel_rfl)) (fun _ _ _ h => h) (Or.inl ⟨by rfl, ?_⟩) ?_ ?_
                   rotate_left
                   ·intro w'
                    go_simp
                    first | with_reducible rfl | (rw [if_neg (by simp only [ByteArray.size_append, ByteArray.size_extract, decide_eq_true_eq, eq_iff_iff, iff_true] at *; omega)]; try with_reducible rfl)
                   rotate_left
                   ·simp only [Act.put, List.setIfInBounds_toArray, List.set_cons_zero, List.set_cons_succ, i64_w, i32_w]
                    rfl
                   refine pure_ (i := 5) (N := some 62) (v := ?_) (a' := ?_) #[true, true, false, false, false, true, false, false, false, false, false, false, false, false, false, false, false, false] rfl rfl (any_of HT_.out (by kernel_rfl)) (fun _ _ _ h => h) (Or.inl ⟨by rfl, ?_⟩) ?_ ?_
                   rotate_left
                   ·intro w'
                    go_simp
                    first | with_reducible rfl | (rw [if_neg (by simp only [ByteArray.size_append, ByteArray.size_extract, decide_eq_true_eq, eq_iff_iff, iff_true] at *; omega)]; try with_reducible rfl)
                   rotate_left
                   ·simp only [Act.put, List.setIfInBounds_toArray, List.set_cons_zero, List.set_cons_succ, i64_w, i32_w]
                    rfl
                   refine pure_ (i := 6) (N := some 63) (v := ?_) (a' := ?_) #[true, true, false, false, false, true, true, false, false, false, false, false, false, false, false, false, false, false] rfl rfl (any_of HT_.out (by kernel_rfl)) (fun _ _ _ h => h) (Or.inl ⟨by rfl, ?_⟩) ?_ ?_
                   rotate_left
                   ·intro w'
                    go_simp
                    first | with_reducible rfl | (rw [if_neg (by simp only [ByteArray.size_append, ByteArray.size_extract, decide_eq_true_eq, eq_iff_iff, iff_true] at *; omega)]; try with_reducible rfl)
                   rotate_left
                   ·simp only [Act.put, List.setIfInBounds_toArray, List.set_cons_zero, List.set_cons_succ, i64_w, i32_w]
                    rfl
                   refine pure_ (i := 11) (N := some 68) (v := ?_) (a' := ?_) #[true, true, false, false, false, true, true, false, false, false, false, true, false, false, false, false, false, false] rfl rfl (any_of HT_.out (by kernel_rfl)) (fun _ _ _ h => h) (Or.inl ⟨by rfl, ?_⟩) ?_ ?_
                   rotate_left
                   ·intro w'
                    go_simp
                    first | with_reducible rfl | (rw [if_neg (by simp only [ByteArray.size_append, ByteArray.size_extract, decide_eq_true_eq, eq_iff_iff, iff_true] at *; omega)]; try with_reducible rfl)
                   rotate_left
                   ·simp only [Act.put, List.setIfInBounds_toArray, List.set_cons_zero, List.set_cons_succ, i64_w, i32_w]
                    rfl
                   refine pure_ (i := 12) (N := some 69) (v := ?_) (a' := ?_) #[true, true, false, false, false, true, true, false, false, false, false, true, true, false, false, false, false, false] rfl rfl (any_of HT_.out (by kernel_rfl)) (fun _ _ _ h => h) (Or.inl ⟨by rfl, ?_⟩) ?_ ?_
                   rotate_left
                   ·intro w'
                    go_simp
                    first | with_reducible rfl | (rw [if_neg (by simp only [ByteArray.size_append, ByteArray.size_extract, decide_eq_true_eq, eq_iff_iff, iff_true] at *; omega)]; try with_reducible rfl)
                   rotate_left
                   ·simp only [Act.put, List.setIfInBounds_toArray, List.set_cons_zero, List.set_cons_succ, i64_w, i32_w]
                    rfl
                   refine pure_ (i := 13) (N := some 70) (v := ?_) (a' := ?_) #[true, true, false, false, false, true, true, false, false, false, false, true, true, true, false, false, false, false] rfl rfl (any_of HT_.out (by kernel_rfl)) (fun _ _ _ h => h) (Or.inl ⟨by rfl, ?_⟩) ?_ ?_
                   rotate_left
                   ·intro w'
                    go_simp
                    first | with_reducible rfl | (rw [if_neg (by simp only [ByteArray.size_append, ByteArray.size_extract, decide_eq_true_eq, eq_iff_iff, iff_true] at *; omega)]; try with_reducible rfl)
                   rotate_left
                   ·simp only [Act.put, List.setIfInBounds_toArray, List.set_cons_zero, List.set_cons_succ, i64_w, i32_w]
                    rfl
                   refine pure_ (i := 15) (N := some 72) (v := ?_) (a' := ?_) #[true, true, false, false, false, true, true, false, false, false, false, true, true, true, false, true, false, false] rfl rfl (any_of HT_.out (by kernel_rfl)) (fun _ _ _ h => h) (Or.inl ⟨by rfl, ?_⟩) ?_ ?_
                   rotate_left
                   ·intro w'
                    go_simp
                    first | with_reducible rfl | (rw [if_neg (by simp only [ByteArray.size_append, ByteArray.size_extract, decide_eq_true_eq, eq_iff_iff, iff_true] at *; omega)]; try with_reducible rfl)
                   rotate_left
                   ·simp only [Act.put, List.setIfInBounds_toArray, List.set_cons_zero, List.set_cons_succ, i64_w, i32_w]
                    rfl
                   refine take_ (i := 2) (N := some 59) (v := ?_) (a' := ?_) #[true, true, true, false, false, true, true, false, false, false, false, true, true, true, false, true, false, false] rfl rfl (take_ofW HT_.out HW_.out (by kernel_rfl)) (fun _ _ _ h => h) (Or.inl ⟨by rfl, ?_⟩) hHeld ?_ ?_
                   rotate_left
                   ·rintro w' ⟨s0, s1, s2, s3, s4, s5, s6, s7, s8⟩
                    go_simp
                    first | with_reducible rfl | (rw [if_neg (by simp only [ByteArray.size_append, ByteArray.size_extract, decide_eq_true_eq, eq_iff_iff, iff_true] at *; omega)]; try with_reducible rfl)
                   rotate_left
                   ·simp only [Act.put, List.setIfInBounds_toArray, List.set_cons_zero, List.set_cons_succ, i64_w, i32_w]
                    rfl
                   refine pure_ (i := 3) (N := some 60) (v := ?_) (a' := ?_) #[true, true, true, true, false, true, true, false, false, false, false, true, true, true, false, true, false, false] rfl rfl (any_of HT_.out (by kernel_rfl)) (fun _ _ _ h => h) (Or.inl ⟨by rfl, ?_⟩) ?_ ?_
                   rotate_left
                   ·intro w'
                    go_simp
                    first | with_reducible rfl | (rw [if_neg (by simp only [ByteArray.size_append, ByteArray.size_extract, decide_eq_true_eq, eq_iff_iff, iff_true] at *; omega)]; try with_reducible rfl)
                   rotate_left
                   ·simp only [Act.put, List.setIfInBounds_toArray, List.set_cons_zero, List.set_cons_succ, i64_w, i32_w]
                    rfl
                   refine take_ (i := 4) (N := some 61) (v := ?_) (a' := ?_) #[true, true, true, true, true, true, true, false, false, false, false, true, true, true, false, true, false, false] rfl rfl (take_ofW HT_.out HW_.out (by kernel_rfl)) (fun _ _ _ h => h) (Or.inl ⟨by rfl, ?_⟩) hHeld ?_ ?_
                   rotate_left
                   ·rintro w' ⟨s0, s1, s2, s3, s4, s5, s6, s7, s8⟩
                    go_simp
                    first | with_reducible rfl | (rw [if_neg (by simp only [ByteArray.size_append, ByteArray.size_extract, decide_eq_true_eq, eq_iff_iff, iff_true] at *; omega)]; try with_reducible rfl)
                   rotate_left
                   ·simp only [Act.put, List.setIfInBounds_toArray, List.set_cons_zero, List.set_cons_succ, i64_w, i32_w]
                    rfl
                   refine take_ (i := 7) (N := some 64) (v := ?_) (a' := ?_) #[true, true, true, true, true, true, true, true, false, false, false, true, true, true, false, true, false, false] rfl rfl (take_ofW HT_.out HW_.out (by kernel_rfl)) (fun _ _ _ h => h) (Or.inl ⟨by rfl, ?_⟩) hHeld ?_ ?_
                   rotate_left
                   ·rintro w' ⟨s0, s1, s2, s3, s4, s5, s6, s7, s8⟩
                    go_simp
                    first | with_reducible rfl | (rw [if_neg (by simp only [ByteArray.size_append, ByteArray.size_extract, decide_eq_true_eq, eq_iff_iff, iff_true] at *; omega)]; try with_reducible rfl)
                   rotate_left
                   ·simp only [Act.put, List.setIfInBounds_toArray, List.set_cons_zero, List.set_cons_succ, i64_w, i32_w]
                    rfl
                   refine pure_ (i := 8) (N := some 65) (v := ?_) (a' := ?_) #[true, true, true, true, true, true, true, true, true, false, false, true, true, true, false, true, false, false] rfl rfl (any_of HT_.out (by kernel_rfl)) (fun _ _ _ h => h) (Or.inl ⟨by rfl, ?_⟩) ?_ ?_
                   rotate_left
                   ·intro w'
                    go_simp
                    first | with_reducible rfl | (rw [if_neg (by simp only [ByteArray.size_append, ByteArray.size_extract, decide_eq_true_eq, eq_iff_iff, iff_true] at *; omega)]; try with_reducible rfl)
                   rotate_left
                   ·simp only [Act.put, List.setIfInBounds_toArray, List.set_cons_zero, List.set_cons_succ, i64_w, i32_w]
                    rfl
                   refine take_ (i := 9) (N := some 66) (v := ?_) (a' := ?_) #[true, true, true, true, true, true, true, true, true, true, false, true, true, true, false, true, false, false] rfl rfl (take_ofW HT_.out HW_.out (by kernel_rfl)) (fun _ _ _ h => h) (Or.inl ⟨by rfl, ?_⟩) hHeld ?_ ?_
                   rotate_left
                   ·rintro w' ⟨s0, s1, s2, s3, s4, s5, s6, s7, s8⟩
                    go_simp
                    first | with_reducible rfl | (rw [if_neg (by simp only [ByteArray.size_append, ByteArray.size_extract, decide_eq_true_eq, eq_iff_iff, iff_true] at *; omega)]; try with_reducible rfl)
                   rotate_left
                   ·simp only [Act.put, List.setIfInBounds_toArray, List.set_cons_zero, List.set_cons_succ, i64_w, i32_w]
                    rfl
                   refine pure_ (i := 10) (N := some 67) (v := ?_) (a' := ?_) #[true, true, true, true, true, true, true, true, true, true, true, true, true, true, false, true, false, false] rfl rfl (any_of HT_.out (by kernel_rfl)) (fun _ _ _ h => h) (Or.inl ⟨by rfl, ?_⟩) ?_ ?_
                   rotate_left
                   ·intro w'
                    go_simp
                    first | with_reducible rfl | (rw [if_neg (by simp only [ByteArray.size_append, ByteArray.size_extract, decide_eq_true_eq, eq_iff_iff, iff_true] at *; omega)]; try with_reducible rfl)
                   rotate_left
                   ·simp only [Act.put, List.setIfInBounds_toArray, List.set_cons_zero, List.set_cons_succ, i64_w, i32_w]
                    rfl
                   refine take_ (i := 14) (N := some 71) (v := ?_) (a' := ?_) #[true, true, true, true, true, true, true, true, true, true, true, true, true, true, true, true, false, false] rfl rfl (take_ofW HT_.out HW_.out (by kernel_rfl)) (fun _ _ _ h => h) (Or.inl ⟨by rfl, ?_⟩) hHeld ?_ ?_
                   rotate_left
                   ·rintro w' ⟨s0, s1, s2, s3, s4, s5, s6, s7, s8⟩
                    go_simp
                    first | with_reducible rfl | (rw [if_neg (by simp only [ByteArray.size_append, ByteArray.size_extract, decide_eq_true_eq, eq_iff_iff, iff_true] at *; omega)]; try with_reducible rfl)
                   rotate_left
                   ·simp only [Act.put, List.setIfInBounds_toArray, List.set_cons_zero, List.set_cons_succ, i64_w, i32_w]
                    rfl
                   refine pure_ (i := 16) (N := some 73) (v := ?_) (a' := ?_) #[true, true, true, true, true, true, true, true, true, true, true, true, true, true, true, true, true, false] rfl rfl (any_of HT_.out (by kernel_rfl)) (fun _ _ _ h => h) (Or.inl ⟨by rfl, ?_⟩) ?_ ?_
                   rotate_left
                   ·intro w'
                    go_simp
                    first | with_reducible rfl | (rw [if_neg (by simp only [ByteArray.size_append, ByteArray.size_extract, decide_eq_true_eq, eq_iff_iff, iff_true] at *; omega)]; try with_reducible rfl)
                   rotate_left
                   ·simp only [Act.put, List.setIfInBounds_toArray, List.set_cons_zero, List.set_cons_succ, i64_w, i32_w]
                    rfl
                   refine pure_ (i := 17) (N := some 74) (v := ?_) (a' := ?_) #[true, true, true, true, true, true, true, true, true, true, true, true, true, true, true, true, true, true] rfl rfl (any_of HT_.out (by kernel_rfl)) (fun _ _ _ h => h) (Or.inl ⟨by rfl, ?_⟩) ?_ ?_
                   rotate_left
                   ·intro w'
                    go_simp
                    first | with_reducible rfl | (rw [if_neg (by simp only [ByteArray.size_append, ByteArray.size_extract, decide_eq_true_eq, eq_iff_iff, iff_true] at *; omega)]; try with_reducible rfl)
                   rotate_left
                   ·simp only [Act.put, List.setIfInBounds_toArray, List.set_cons_zero, List.set_cons_succ, i64_w, i32_w]
                    rfl
                   refine done_ (done_of HT_.out (by kernel_rfl)) ?_
                   try go_wp2
                   go_roundg k2
                   case measure => have := HJ18.out; have := HK2.out; omega
                   case rel => exact ⟨(wrap64 (x46_2 + 1)), (by first | rfl | (simp; done) | (simp [*]; done)), H', ⟨by have := HJ18.out; have := HK2.out; omega⟩, ⟨by (with_reducible repeat (first | apply Kd.R_alloc | apply Kd.R_drewN | apply Kd.R_drew)); exact HO_6.out⟩, ⟨by (with_reducible repeat (first | apply Kd.R_alloc | apply Kd.R_drewN | apply Kd.R_drew)); exact HO_8.out⟩, ⟨by (with_reducible repeat (first | apply Kd.R_alloc | apply Kd.R_drewN | apply Kd.R_drew)); exact HO_213001.out⟩, ⟨by (with_reducible repeat (first | apply Kd.R_alloc | apply Kd.R_drewN | apply Kd.R_drew)); exact Kd.R_mono HO_213002.out (fun _ hk => trivial)⟩, ⟨by (with_reducible repeat (first | refine blk_drewN ?_ _ | refine blk_drew ?_ | refine blk_alloc ?_ _)); exact BK212.out⟩, ⟨by repeat (first | (with_reducible first | exact HB.out | apply below_alloc | apply pw_below_drewN | apply below_drew1 | refine below_set ?_ GE212.out | refine below_set ?_ GE225.out) | exact HB.out)⟩⟩
                 ·rw [if_neg c41] at H
                  exact absurd H (by simp)
                ·rw [if_neg c40] at H
                 exact absurd H (by simp)
               ·rw [if_neg c39] at H
                exact absurd H (by simp)
              ·rw [if_neg c38] at H
               exact absurd H (by simp)
             ·rw [if_neg c37] at H
              exact absurd H (by simp)
            ·rw [if_neg c36] at H
             exact absurd H (by simp)
           ·rw [if_neg c35] at H
            exact absurd H (by simp)
          ·rw [if_neg c34] at H
           exact absurd H (by simp)
         ·rw [if_neg c33] at H
          have c33b0 : decide (x46_2 < (t213.length : Int)) = false := decide_eq_false c33
          clear c33
          replace H := Option.bind_eq_some_iff.mp H
          obtain ⟨t229, A650, H⟩ := H
          replace H : (if t229 = true then (if 0 ≤ (rd t213 t217) then (if (rd t213 t217) < (t209.length : Int) then (if 0 ≤ ((rd_T36 t209 (rd t213 t217)).f2) then (if ((rd_T36 t209 (rd t213 t217)).f2) < (t219.length : Int) then (if rdOf false t219 ((rd_T36 t209 (rd t213 t217)).f2) = true then (if 0 ≤ ((rd_T36 t209 (rd t213 t217)).f1) then (if ((rd_T36 t209 (rd t213 t217)).f1) < (t219.length : Int) then (some (!(rdOf false t219 ((rd_T36 t209 (rd t213 t217)).f1)))) else (none)) else (none)) else (some false)) else (none)) else (none)) else (none)) else (none)) else (some false)) = some r := H
          have A65 := Aside0.mk A650
          clear A650
          by_cases c66 : t229 = true
          ·subst c66
           have H1 : (if 0 ≤ (rd t213 t217) then (if (rd t213 t217) < (t209.length : Int) then (if 0 ≤ ((rd_T36 t209 (rd t213 t217)).f2) then (if ((rd_T36 t209 (rd t213 t217)).f2) < (t219.length : Int) then (if rdOf false t219 ((rd_T36 t209 (rd t213 t217)).f2) = true then (if 0 ≤ ((rd_T36 t209 (rd t213 t217)).f1) then (if ((rd_T36 t209 (rd t213 t217)).f1) < (t219.length : Int) then (some (!(rdOf false t219 ((rd_T36 t209 (rd t213 t217)).f1)))) else (none)) else (none)) else (some false)) else (none)) else (none)) else (none)) else (none)) = some r := by rw [if_pos rfl] at H; exact H
           clear H
           have H := H1
           clear H1
           by_cases c67 : 0 ≤ (rd t213 t217)
           ·rw [if_pos c67] at H
            have c67b0 : decide (0 ≤ (rd t213 t217)) = true := decide_eq_true c67
            clear c67
            by_cases c68 : (rd t213 t217) < (t209.length : Int)
            ·rw [if_pos c68] at H
             have c68b0 : decide ((rd t213 t217) < (t209.length : Int)) = true := decide_eq_true c68
             clear c68
             by_cases c69 : 0 ≤ ((rd_T36 t209 (rd t213 t217)).f2)
             ·rw [if_pos c69] at H
              have c69b0 : decide (0 ≤ ((rd_T36 t209 (rd t213 t217)).f2)) = true := decide_eq_true c69
              clear c69
              by_cases c70 : ((rd_T36 t209 (rd t213 t217)).f2) < (t219.length : Int)
              ·rw [if_pos c70] at H
               have c70b0 : decide (((rd_T36 t209 (rd t213 t217)).f2) < (t219.length : Int)) = true := decide_eq_true c70
               clear c70
               obtain ⟨bq71, hbq71⟩ : ∃ b_ : Bool, b_ = (rdOf false t219 ((rd_T36 t209 (rd t213 t217)).f2)) := ⟨_, rfl⟩
               replace H : (if bq71 = true then (if 0 ≤ ((rd_T36 t209 (rd t213 t217)).f1) then (if ((rd_T36 t209 (rd t213 t217)).f1) < (t219.length : Int) then (some (!(rdOf false t219 ((rd_T36 t209 (rd t213 t217)).f1)))) else (none)) else (none)) else (some false)) = some r := by rw [← hbq71] at H; exact H
               have Nbq71 := Aside0.mk hbq71
               clear hbq71
               by_cases c72 : bq71 = true
               ·subst c72
                have H1 : (if 0 ≤ ((rd_T36 t209 (rd t213 t217)).f1) then (if ((rd_T36 t209 (rd t213 t217)).f1) < (t219.length : Int) then (some (!(rdOf false t219 ((rd_T36 t209 (rd t213 t217)).f1)))) else (none)) else (none)) = some r := by rw [if_pos rfl] at H; exact H
                clear H
                have H := H1
                clear H1
                by_cases c73 : 0 ≤ ((rd_T36 t209 (rd t213 t217)).f1)
                ·rw [if_pos c73] at H
                 have c73b0 : decide (0 ≤ ((rd_T36 t209 (rd t213 t217)).f1)) = true := decide_eq_true c73
                 clear c73
                 by_cases c74 : ((rd_T36 t209 (rd t213 t217)).f1) < (t219.length : Int)
                 ·rw [if_pos c74] at H
                  have c74b0 : decide (((rd_T36 t209 (rd t213 t217)).f1) < (t219.length : Int)) = true := decide_eq_true c74
                  clear c74
                  obtain rfl := Option.some.inj H
                  go_wp2_with (first | ((with_reducible refine gate_callee (f := 33) rfl ?_); refine goesL_ (some 76) rfl rfl Try.func33 (by kernel_rfl) rfl #[] rfl (by (try simp only [List.map_toArray, List.map_cons, List.map_nil]); first | done | rfl | (simp only [List.length_drop, List.length_take]; rfl)) ?_; (with_reducible refine (railplanlaw16_awake.calls k2  true _ A65.out).mono ?_); rintro e w75 ⟨rfl, hb⟩; refine ⟨_, rfl, ?_⟩; have n0_ := Aside0.mk (Kd.R_below (by (with_reducible repeat (first | apply Kd.R_alloc | apply Kd.R_drewN | apply Kd.R_drew)); exact HO_6.out) hb); have n1_ := Aside0.mk (Kd.R_below (by (with_reducible repeat (first | apply Kd.R_alloc | apply Kd.R_drewN | apply Kd.R_drew)); exact HO_8.out) hb); have n2_ := Aside0.mk (Kd.R_below (by (with_reducible repeat (first | apply Kd.R_alloc | apply Kd.R_drewN | apply Kd.R_drew)); exact HO_213001.out) hb); have n3_ := Aside0.mk (Kd.R_below (by (with_reducible repeat (first | apply Kd.R_alloc | apply Kd.R_drewN | apply Kd.R_drew)); exact HO_213002.out) hb); have n4_ := Aside0.mk (blk_below (g := gb212) (o := .cells #[.int .i64 t205, .slice Ao23 t206.length co23, .slice Ao24 t209.length co24] 26 (0, 0)) (by (with_reducible repeat (first | refine blk_drewN ?_ _ | refine blk_drew ?_ | refine blk_alloc ?_ _)); exact BK212.out) hb); have n5_ := Aside0.mk (below_step (by repeat (first | (with_reducible first | exact HB.out | apply below_alloc | apply pw_below_drewN | apply below_drew1 | refine below_set ?_ GE212.out) | exact HB.out)) hb); clear HO_6; clear HO_8; clear HO_213001; clear HO_213002; clear BK212; clear HB; have HO_6 := n0_; have HO_8 := n1_; have HO_213001 := n2_; have HO_213002 := n3_; have BK212 := n4_; have HB := n5_; clear n0_ n1_ n2_ n3_ n4_ n5_; (try clear hb); (try clear hb2); (try clear hk); (try clear hi); have hcz76_0 : w75.cell? ⟨gb212, 0, none⟩ = some (.int .i64 t205) := (blk_cell BK212.out 0).trans rfl; have hcz76_1 : w75.cell? ⟨gb212, 1, none⟩ = some (.slice Ao23 t206.length co23) := (blk_cell BK212.out 1).trans rfl; have hcz76_2 : w75.cell? ⟨gb212, 2, none⟩ = some (.slice Ao24 t209.length co24) := (blk_cell BK212.out 2).trans rfl; have hfz76_0 := blk_frozen BK212.out 0; have hfz76_1 := blk_frozen BK212.out 1; have hfz76_2 := blk_frozen BK212.out 2; have p230 : 0 ≤ ((rd t213 t217) : Int) := of_decide_eq_true (by first | (with_reducible assumption) | assumption); have q230 : (rd t213 t217) < (t209.length : Int) := of_decide_eq_true (by first | (with_reducible assumption) | assumption); obtain ⟨ad230, e230, hx230_0, hx230_1, hx230_2, hx230_3, hx230_4, hx230_5⟩ := at_T36 (Kd.R_reads' HO_213002.out).2.2 (rd t213 t217) p230 q230; cases e230; replace p230 := eq_true p230; replace q230 := eq_true q230; obtain ⟨Ao77, co77, eo77⟩ := Kd.R_slice HO_8.out; subst eo77; have p231 : 0 ≤ (((rd_T36 t209 (rd t213 t217)).f2) : Int) := of_decide_eq_true (by first | (with_reducible assumption) | assumption); have q231 : ((rd_T36 t209 (rd t213 t217)).f2) < (t219.length : Int) := of_decide_eq_true (by first | (with_reducible assumption) | assumption); obtain ⟨ad231, e231, hx231_0⟩ := Kd.at_bool (Kd.R_reads' HO_8.out).2.2 ((rd_T36 t209 (rd t213 t217)).f2) p231 q231; (try rw [← Nbq71.out] at hx231_0); cases e231; replace p231 := eq_true p231; replace q231 := eq_true q231; have p232 : 0 ≤ ((rd t213 t217) : Int) := of_decide_eq_true (by first | (with_reducible assumption) | assumption); have q232 : (rd t213 t217) < (t209.length : Int) := of_decide_eq_true (by first | (with_reducible assumption) | assumption); obtain ⟨ad232, e232, hx232_0, hx232_1, hx232_2, hx232_3, hx232_4, hx232_5⟩ := at_T36 (Kd.R_reads' HO_213002.out).2.2 (rd t213 t217) p232 q232; obtain rfl : ad230 = ad232 := (by injection e232); replace p232 := eq_true p232; replace q232 := eq_true q232; have p233 : 0 ≤ (((rd_T36 t209 (rd t213 t217)).f1) : Int) := of_decide_eq_true (by first | (with_reducible assumption) | assumption); have q233 : ((rd_T36 t209 (rd t213 t217)).f1) < (t219.length : Int) := of_decide_eq_true (by first | (with_reducible assumption) | assumption); obtain ⟨ad233, e233, hx233_0⟩ := Kd.at_bool (Kd.R_reads' HO_8.out).2.2 ((rd_T36 t209 (rd t213 t217)).f1) p233 q233; (try rw [← Nbq71.out] at hx233_0); obtain rfl : ad231 = ad233 := (by injection e233); replace p233 := eq_true p233; replace q233 := eq_true q233))
                  go_ret
                  exact ⟨by first | rfl | (simp [errW_none, errW_some] <;> rfl) | (simp [*, errW_none, errW_some] <;> rfl), by repeat (first | (with_reducible first | exact HB.out | apply below_alloc | apply pw_below_drewN | apply below_drew1 | refine below_set ?_ GE212.out) | exact HB.out)⟩
                 ·rw [if_neg c74] at H
                  exact absurd H (by simp)
                ·rw [if_neg c73] at H
                 exact absurd H (by simp)
               ·replace c72 := Bool.eq_false_iff.mpr c72
                subst c72
                have H1 : (some false) = some r := by rw [if_neg (show ¬ (false = true) by decide)] at H; exact H
                clear H
                have H := H1
                clear H1
                obtain rfl := Option.some.inj H
                go_wp2_with (first | ((with_reducible refine gate_callee (f := 33) rfl ?_); refine goesL_ (some 76) rfl rfl Try.func33 (by kernel_rfl) rfl #[] rfl (by (try simp only [List.map_toArray, List.map_cons, List.map_nil]); first | done | rfl | (simp only [List.length_drop, List.length_take]; rfl)) ?_; (with_reducible refine (railplanlaw16_awake.calls k2  true _ A65.out).mono ?_); rintro e w78 ⟨rfl, hb⟩; refine ⟨_, rfl, ?_⟩; have n0_ := Aside0.mk (Kd.R_below (by (with_reducible repeat (first | apply Kd.R_alloc | apply Kd.R_drewN | apply Kd.R_drew)); exact HO_6.out) hb); have n1_ := Aside0.mk (Kd.R_below (by (with_reducible repeat (first | apply Kd.R_alloc | apply Kd.R_drewN | apply Kd.R_drew)); exact HO_8.out) hb); have n2_ := Aside0.mk (Kd.R_below (by (with_reducible repeat (first | apply Kd.R_alloc | apply Kd.R_drewN | apply Kd.R_drew)); exact HO_213001.out) hb); have n3_ := Aside0.mk (Kd.R_below (by (with_reducible repeat (first | apply Kd.R_alloc | apply Kd.R_drewN | apply Kd.R_drew)); exact HO_213002.out) hb); have n4_ := Aside0.mk (blk_below (g := gb212) (o := .cells #[.int .i64 t205, .slice Ao23 t206.length co23, .slice Ao24 t209.length co24] 26 (0, 0)) (by (with_reducible repeat (first | refine blk_drewN ?_ _ | refine blk_drew ?_ | refine blk_alloc ?_ _)); exact BK212.out) hb); have n5_ := Aside0.mk (below_step (by repeat (first | (with_reducible first | exact HB.out | apply below_alloc | apply pw_below_drewN | apply below_drew1 | refine below_set ?_ GE212.out) | exact HB.out)) hb); clear HO_6; clear HO_8; clear HO_213001; clear HO_213002; clear BK212; clear HB; have HO_6 := n0_; have HO_8 := n1_; have HO_213001 := n2_; have HO_213002 := n3_; have BK212 := n4_; have HB := n5_; clear n0_ n1_ n2_ n3_ n4_ n5_; (try clear hb); (try clear hb2); (try clear hk); (try clear hi); have hcz79_0 : w78.cell? ⟨gb212, 0, none⟩ = some (.int .i64 t205) := (blk_cell BK212.out 0).trans rfl; have hcz79_1 : w78.cell? ⟨gb212, 1, none⟩ = some (.slice Ao23 t206.length co23) := (blk_cell BK212.out 1).trans rfl; have hcz79_2 : w78.cell? ⟨gb212, 2, none⟩ = some (.slice Ao24 t209.length co24) := (blk_cell BK212.out 2).trans rfl; have hfz79_0 := blk_frozen BK212.out 0; have hfz79_1 := blk_frozen BK212.out 1; have hfz79_2 := blk_frozen BK212.out 2; have p230 : 0 ≤ ((rd t213 t217) : Int) := of_decide_eq_true (by first | (with_reducible assumption) | assumption); have q230 : (rd t213 t217) < (t209.length : Int) := of_decide_eq_true (by first | (with_reducible assumption) | assumption); obtain ⟨ad230, e230, hx230_0, hx230_1, hx230_2, hx230_3, hx230_4, hx230_5⟩ := at_T36 (Kd.R_reads' HO_213002.out).2.2 (rd t213 t217) p230 q230; cases e230; replace p230 := eq_true p230; replace q230 := eq_true q230; obtain ⟨Ao80, co80, eo80⟩ := Kd.R_slice HO_8.out; subst eo80; have p231 : 0 ≤ (((rd_T36 t209 (rd t213 t217)).f2) : Int) := of_decide_eq_true (by first | (with_reducible assumption) | assumption); have q231 : ((rd_T36 t209 (rd t213 t217)).f2) < (t219.length : Int) := of_decide_eq_true (by first | (with_reducible assumption) | assumption); obtain ⟨ad231, e231, hx231_0⟩ := Kd.at_bool (Kd.R_reads' HO_8.out).2.2 ((rd_T36 t209 (rd t213 t217)).f2) p231 q231; (try rw [← Nbq71.out] at hx231_0); cases e231; replace p231 := eq_true p231; replace q231 := eq_true q231))
                go_ret
                exact ⟨by first | rfl | (simp [errW_none, errW_some] <;> rfl) | (simp [*, errW_none, errW_some] <;> rfl), by repeat (first | (with_reducible first | exact HB.out | apply below_alloc | apply pw_below_drewN | apply below_drew1 | refine below_set ?_ GE212.out) | exact HB.out)⟩
              ·rw [if_neg c70] at H
               exact absurd H (by simp)
             ·rw [if_neg c69] at H
              exact absurd H (by simp)
            ·rw [if_neg c68] at H
             exact absurd H (by simp)
           ·rw [if_neg c67] at H
            exact absurd H (by simp)
          ·replace c66 := Bool.eq_false_iff.mpr c66
           subst c66
           have H1 : (some false) = some r := by rw [if_neg (show ¬ (false = true) by decide)] at H; exact H
           clear H
           have H := H1
           clear H1
           obtain rfl := Option.some.inj H
           go_wp2_with (first | ((with_reducible refine gate_callee (f := 33) rfl ?_); refine goesL_ (some 76) rfl rfl Try.func33 (by kernel_rfl) rfl #[] rfl (by (try simp only [List.map_toArray, List.map_cons, List.map_nil]); first | done | rfl | (simp only [List.length_drop, List.length_take]; rfl)) ?_; (with_reducible refine (railplanlaw16_awake.calls k2  false _ A65.out).mono ?_); rintro e w81 ⟨rfl, hb⟩; refine ⟨_, rfl, ?_⟩; have n0_ := Aside0.mk (Kd.R_below (by (with_reducible repeat (first | apply Kd.R_alloc | apply Kd.R_drewN | apply Kd.R_drew)); exact HO_6.out) hb); have n1_ := Aside0.mk (Kd.R_below (by (with_reducible repeat (first | apply Kd.R_alloc | apply Kd.R_drewN | apply Kd.R_drew)); exact HO_8.out) hb); have n2_ := Aside0.mk (Kd.R_below (by (with_reducible repeat (first | apply Kd.R_alloc | apply Kd.R_drewN | apply Kd.R_drew)); exact HO_213001.out) hb); have n3_ := Aside0.mk (Kd.R_below (by (with_reducible repeat (first | apply Kd.R_alloc | apply Kd.R_drewN | apply Kd.R_drew)); exact HO_213002.out) hb); have n4_ := Aside0.mk (blk_below (g := gb212) (o := .cells #[.int .i64 t205, .slice Ao23 t206.length co23, .slice Ao24 t209.length co24] 26 (0, 0)) (by (with_reducible repeat (first | refine blk_drewN ?_ _ | refine blk_drew ?_ | refine blk_alloc ?_ _)); exact BK212.out) hb); have n5_ := Aside0.mk (below_step (by repeat (first | (with_reducible first | exact HB.out | apply below_alloc | apply pw_below_drewN | apply below_drew1 | refine below_set ?_ GE212.out) | exact HB.out)) hb); clear HO_6; clear HO_8; clear HO_213001; clear HO_213002; clear BK212; clear HB; have HO_6 := n0_; have HO_8 := n1_; have HO_213001 := n2_; have HO_213002 := n3_; have BK212 := n4_; have HB := n5_; clear n0_ n1_ n2_ n3_ n4_ n5_; (try clear hb); (try clear hb2); (try clear hk); (try clear hi)))
           go_ret
           exact ⟨by first | rfl | (simp [errW_none, errW_some] <;> rfl) | (simp [*, errW_none, errW_some] <;> rfl), by repeat (first | (with_reducible first | exact HB.out | apply below_alloc | apply pw_below_drewN | apply below_drew1 | refine below_set ?_ GE212.out) | exact HB.out)⟩
   ·rw [if_neg c17] at H
    exact absurd H (by simp)
  ·rw [if_neg c16] at H
   exact absurd H (by simp)

/-- THE ONE PURE STATEMENT of railplanlaw16_SimplexCutSplits: yours. -/
def railplanlaw16_SimplexCutSplits.Pure : Prop := ∀ (l0 : List Int) (a1 : Int), l0.length ≤ maxLen → l0.length * 8 ≤ 140737488351232 → (∀ x ∈ l0, (Lit.int .i64 x).wf = true) → (Lit.int .i64 a1).wf = true → ∃ k, railplanlaw16_SimplexCutSplits.f k l0 a1 = some true
theorem railplanlaw16_SimplexCutSplits.walk (P : railplanlaw16_SimplexCutSplits.Pure) (a0 : Option Addr) (len0 cap0 : Nat) (z0 : List Int) (a1 : Int) (w : World) (w0 : (a0 = none ∧ len0 = 0 ∧ cap0 = 0 ∧ z0 = []) ∨ ∃ x, a0 = some x ∧ len0 ≤ cap0 ∧ cap0 ≤ maxLen ∧ z0.length = cap0 ∧ (∀ i, i < z0.length → w.cell? (x.add i) = some (.int .i64 (z0.getD i 0))) ∧ ∀ n ∈ z0, (Lit.int .i64 n).wf = true) (y0 : len0 * 8 ≤ 140737488351232) (w1 : (Lit.int .i64 a1).wf = true) :
  Calls Try.prog 3 #[.slice a0 len0 cap0, .int .i64 a1] w fun e w' => e = .returned (.bool true) ∧ Below w.heap.size w w' := by
 obtain ⟨l0, rfl, hr0, hm0, hw0, hc0⟩ := ReadsInt.ofRowC w0
 obtain ⟨k, h⟩ := P l0 a1 hm0 y0 hw0 w1
 refine (railplanlaw16_SimplexCutSplits.calls k _ _ l0 a1 true w (Kd.C_of_reads (d := (0 : Int)) (h1 := fun _ => rfl) hr0) hc0 h).mono ?_
 rintro e w' ⟨rfl, hd⟩
 exact ⟨rfl, hd⟩

end Go.Proofs.Ytbkjplomoegbdaa.PB
