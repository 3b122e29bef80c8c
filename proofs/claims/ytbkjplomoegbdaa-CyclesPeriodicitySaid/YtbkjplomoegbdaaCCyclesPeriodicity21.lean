/- Parts of the proof of CyclesPeriodicity, gathered by a program of this claim out of texts that it or the kit's print wrote: lemmas alone, no condition of their own. -/
import Derived.Test.YtbkjplomoegbdaaCCyclesPeriodicity4
import Derived.Test.YtbkjplomoegbdaaCCyclesPeriodicity8
section
namespace Go.Proofs.Ytbkjplomoegbdaa.PB
open Go.RowKit Go.Proofs.YtbkjplomoegbdaaW.PrintWords Go.Proofs.YtbkjplomoegbdaaW.PrintLast Go.Proofs.YtbkjplomoegbdaaW.PrintMore
attribute [local go_sem] max2_int min2_int max_two min_two max_three min_three max_four min_four
set_option linter.unusedVariables false
set_option linter.unusedSimpArgs false
def network_Lasts.f (a0 : Int) (a1_0 : Int) (a1_1 : Int) (a1_2 : Int) (a1_3 : Int) (a1_4 : Int) (a1_5 : Int) (a2 : Int) (a3 : Int) : Option (Int) := (arith_Mod.f (wrap64 ((wrap64 (a3 - a2)) - a1_3)) a0).bind fun t322 => (some (wrap64 (a1_3 + t322)))
set_option maxHeartbeats 8000000 in
set_option maxRecDepth 100000 in
theorem network_Lasts.calls (a0 : Int) (a1_0 : Int) (a1_1 : Int) (a1_2 : Int) (a1_3 : Int) (a1_4 : Int) (a1_5 : Int) (a2 : Int) (a3 : Int) (r : Int) (w : World) (h : network_Lasts.f a0 a1_0 a1_1 a1_2 a1_3 a1_4 a1_5 a2 a3 = some r) :
  Calls Try.prog 94 #[.int .i64 a0, .agg #[.int .i64 a1_0, .int .i64 a1_1, .int .i64 a1_2, .int .i64 a1_3, .int .i64 a1_4, .int .i64 a1_5], .int .i64 a2, .int .i64 a3] w fun e w' => e = .returned (.int .i64 r) ∧ Below w.heap.size w w' := by
 have hu36 := Try.underlying36
 have HB := Aside0.mk (Below.refl w.heap.size w)
 have H : ((arith_Mod.f (wrap64 ((wrap64 (a3 - a2)) - a1_3)) a0).bind fun t322 => (some (wrap64 (a1_3 + t322)))) = some r := h
 clear h
 replace H := Option.bind_eq_some_iff.mp H
 obtain ⟨t322, A50, H⟩ := H
 replace H : (some (wrap64 (a1_3 + t322))) = some r := H
 have A5 := Aside0.mk A50
 clear A50
 obtain rfl := Option.some.inj H
 go_enter Try.func94, Try.ntmps94
 go_wp2_with (first | ((with_reducible refine gate_dst (N := 5) rfl ?_); refine box_event ?hg (N := 5) ?hd (cs := #[.int .i64 a1_0, .int .i64 a1_1, .int .i64 a1_2, .int .i64 a1_3, .int .i64 a1_4, .int .i64 a1_5]) (t := 36) ?hr ?_; (case hd => rfl); (case hg => rfl); (case hr => first | (go_simp; done) | (go_simp; rfl)); intro gb321 hg w6 hbox hb; have n0_ := Aside0.mk (below_step (by repeat (first | (with_reducible first | exact HB.out | apply below_alloc | apply pw_below_drewN | apply below_drew1) | exact HB.out)) hb); have n1_ := Aside0.mk (hbox); have n2_ := Aside0.mk ((by rw [hg]; exact (below_size (by repeat (first | (with_reducible first | exact HB.out | apply below_alloc | apply pw_below_drewN | apply below_drew1) | exact HB.out))) : w.heap.size ≤ gb321)); have n3_ := Aside0.mk ((by rw [hg]; exact (below_size (by repeat (first | (with_reducible first | exact HB.out | apply below_alloc | apply pw_below_drewN | apply below_drew1) | exact HB.out))) : w.heap.size ≤ gb321)); clear HB; have HB := n0_; have BK321 := n1_; have GW321 := n2_; have GE321 := n3_; clear n0_ n1_ n2_ n3_; clear hb hbox hg; have hcz7_0 : w6.cell? ⟨gb321, 0, none⟩ = some (.int .i64 a1_0) := (blk_cell BK321.out 0).trans rfl; have hcz7_1 : w6.cell? ⟨gb321, 1, none⟩ = some (.int .i64 a1_1) := (blk_cell BK321.out 1).trans rfl; have hcz7_2 : w6.cell? ⟨gb321, 2, none⟩ = some (.int .i64 a1_2) := (blk_cell BK321.out 2).trans rfl; have hcz7_3 : w6.cell? ⟨gb321, 3, none⟩ = some (.int .i64 a1_3) := (blk_cell BK321.out 3).trans rfl; have hcz7_4 : w6.cell? ⟨gb321, 4, none⟩ = some (.int .i64 a1_4) := (blk_cell BK321.out 4).trans rfl; have hcz7_5 : w6.cell? ⟨gb321, 5, none⟩ = some (.int .i64 a1_5) := (blk_cell BK321.out 5).trans rfl; have hfz7_0 := blk_frozen BK321.out 0; have hfz7_1 := blk_frozen BK321.out 1; have hfz7_2 := blk_frozen BK321.out 2; have hfz7_3 := blk_frozen BK321.out 3; have hfz7_4 := blk_frozen BK321.out 4; have hfz7_5 := blk_frozen BK321.out 5) | (go_at_call 102; (with_reducible refine (arith_Mod.calls (wrap64 ((wrap64 (a3 - a2)) - a1_3)) a0 t322 _ A5.out).mono ?_); rintro e w' ⟨rfl, ⟨nd, rfl⟩⟩; (try first | exact ⟨rfl, _, World.drewN_drewN _ _ _⟩ | exact ⟨rfl, _, Eq.trans (World.drewN_drewN _ _ _) (congrArg (World.drewN _) (Nat.add_assoc _ _ _))⟩)))
 repeat (go_quiet (first | ((with_reducible refine gate_dst (N := 5) rfl ?_); refine box_event ?hg (N := 5) ?hd (cs := #[.int .i64 a1_0, .int .i64 a1_1, .int .i64 a1_2, .int .i64 a1_3, .int .i64 a1_4, .int .i64 a1_5]) (t := 36) ?hr ?_; (case hd => rfl); (case hg => rfl); (case hr => first | (go_simp; done) | (go_simp; rfl)); intro gb321 hg w6 hbox hb; have n0_ := Aside0.mk (below_step (by repeat (first | (with_reducible first | exact HB.out | apply below_alloc | apply pw_below_drewN | apply below_drew1) | exact HB.out)) hb); have n1_ := Aside0.mk (hbox); have n2_ := Aside0.mk ((by rw [hg]; exact (below_size (by repeat (first | (with_reducible first | exact HB.out | apply below_alloc | apply pw_below_drewN | apply below_drew1) | exact HB.out))) : w.heap.size ≤ gb321)); have n3_ := Aside0.mk ((by rw [hg]; exact (below_size (by repeat (first | (with_reducible first | exact HB.out | apply below_alloc | apply pw_below_drewN | apply below_drew1) | exact HB.out))) : w.heap.size ≤ gb321)); clear HB; have HB := n0_; have BK321 := n1_; have GW321 := n2_; have GE321 := n3_; clear n0_ n1_ n2_ n3_; clear hb hbox hg; have hcz7_0 : w6.cell? ⟨gb321, 0, none⟩ = some (.int .i64 a1_0) := (blk_cell BK321.out 0).trans rfl; have hcz7_1 : w6.cell? ⟨gb321, 1, none⟩ = some (.int .i64 a1_1) := (blk_cell BK321.out 1).trans rfl; have hcz7_2 : w6.cell? ⟨gb321, 2, none⟩ = some (.int .i64 a1_2) := (blk_cell BK321.out 2).trans rfl; have hcz7_3 : w6.cell? ⟨gb321, 3, none⟩ = some (.int .i64 a1_3) := (blk_cell BK321.out 3).trans rfl; have hcz7_4 : w6.cell? ⟨gb321, 4, none⟩ = some (.int .i64 a1_4) := (blk_cell BK321.out 4).trans rfl; have hcz7_5 : w6.cell? ⟨gb321, 5, none⟩ = some (.int .i64 a1_5) := (blk_cell BK321.out 5).trans rfl; have hfz7_0 := blk_frozen BK321.out 0; have hfz7_1 := blk_frozen BK321.out 1; have hfz7_2 := blk_frozen BK321.out 2; have hfz7_3 := blk_frozen BK321.out 3; have hfz7_4 := blk_frozen BK321.out 4; have hfz7_5 := blk_frozen BK321.out 5) | (go_at_call 102; (with_reducible refine (arith_Mod.calls (wrap64 ((wrap64 (a3 - a2)) - a1_3)) a0 t322 _ A5.out).mono ?_); rintro e w' ⟨rfl, ⟨nd, rfl⟩⟩; (try first | exact ⟨rfl, _, World.drewN_drewN _ _ _⟩ | exact ⟨rfl, _, Eq.trans (World.drewN_drewN _ _ _) (congrArg (World.drewN _) (Nat.add_assoc _ _ _))⟩))); try go_wp2_with (first | ((with_reducible refine gate_dst (N := 5) rfl ?_); refine box_event ?hg (N := 5) ?hd (cs := #[.int .i64 a1_0, .int .i64 a1_1, .int .i64 a1_2, .int .i64 a1_3, .int .i64 a1_4, .int .i64 a1_5]) (t := 36) ?hr ?_; (case hd => rfl); (case hg => rfl); (case hr => first | (go_simp; done) | (go_simp; rfl)); intro gb321 hg w6 hbox hb; have n0_ := Aside0.mk (below_step (by repeat (first | (with_reducible first | exact HB.out | apply below_alloc | apply pw_below_drewN | apply below_drew1) | exact HB.out)) hb); have n1_ := Aside0.mk (hbox); have n2_ := Aside0.mk ((by rw [hg]; exact (below_size (by repeat (first | (with_reducible first | exact HB.out | apply below_alloc | apply pw_below_drewN | apply below_drew1) | exact HB.out))) : w.heap.size ≤ gb321)); have n3_ := Aside0.mk ((by rw [hg]; exact (below_size (by repeat (first | (with_reducible first | exact HB.out | apply below_alloc | apply pw_below_drewN | apply below_drew1) | exact HB.out))) : w.heap.size ≤ gb321)); clear HB; have HB := n0_; have BK321 := n1_; have GW321 := n2_; have GE321 := n3_; clear n0_ n1_ n2_ n3_; clear hb hbox hg; have hcz7_0 : w6.cell? ⟨gb321, 0, none⟩ = some (.int .i64 a1_0) := (blk_cell BK321.out 0).trans rfl; have hcz7_1 : w6.cell? ⟨gb321, 1, none⟩ = some (.int .i64 a1_1) := (blk_cell BK321.out 1).trans rfl; have hcz7_2 : w6.cell? ⟨gb321, 2, none⟩ = some (.int .i64 a1_2) := (blk_cell BK321.out 2).trans rfl; have hcz7_3 : w6.cell? ⟨gb321, 3, none⟩ = some (.int .i64 a1_3) := (blk_cell BK321.out 3).trans rfl; have hcz7_4 : w6.cell? ⟨gb321, 4, none⟩ = some (.int .i64 a1_4) := (blk_cell BK321.out 4).trans rfl; have hcz7_5 : w6.cell? ⟨gb321, 5, none⟩ = some (.int .i64 a1_5) := (blk_cell BK321.out 5).trans rfl; have hfz7_0 := blk_frozen BK321.out 0; have hfz7_1 := blk_frozen BK321.out 1; have hfz7_2 := blk_frozen BK321.out 2; have hfz7_3 := blk_frozen BK321.out 3; have hfz7_4 := blk_frozen BK321.out 4; have hfz7_5 := blk_frozen BK321.out 5) | (go_at_call 102; (with_reducible refine (arith_Mod.calls (wrap64 ((wrap64 (a3 - a2)) - a1_3)) a0 t322 _ A5.out).mono ?_); rintro e w' ⟨rfl, ⟨nd, rfl⟩⟩; (try first | exact ⟨rfl, _, World.drewN_drewN _ _ _⟩ | exact ⟨rfl, _, Eq.trans (World.drewN_drewN _ _ _) (congrArg (World.drewN _) (Nat.add_assoc _ _ _))⟩))))
 go_ret
 exact ⟨by first | rfl | (simp [errW_none, errW_some] <;> rfl) | (simp [*, errW_none, errW_some] <;> rfl), by repeat (first | (with_reducible first | exact HB.out | apply below_alloc | apply pw_below_drewN | apply below_drew1 | refine below_set ?_ GE321.out) | exact HB.out)⟩
end Go.Proofs.Ytbkjplomoegbdaa.PB
end
section
namespace Go.Proofs.Ytbkjplomoegbdaa.PB
open Go.RowKit Go.Proofs.YtbkjplomoegbdaaW.PrintWords Go.Proofs.YtbkjplomoegbdaaW.PrintLast Go.Proofs.YtbkjplomoegbdaaW.PrintMore
attribute [local go_sem] max2_int min2_int max_two min_two max_three min_three max_four min_four
set_option linter.unusedVariables false
set_option linter.unusedSimpArgs false
def railplanref1_Mod.f (a0 : Int) (a1 : Int) : Option (Int) := if a1 < 1 then (some 0) else (if a1 = 0 then (none) else (if (Int.tmod a0 a1) < 0 then (some (wrap64 ((Int.tmod a0 a1) + a1))) else (some (Int.tmod a0 a1))))
set_option maxHeartbeats 8000000 in
set_option maxRecDepth 100000 in
theorem railplanref1_Mod.calls (a0 : Int) (a1 : Int) (r : Int) (w : World) (h : railplanref1_Mod.f a0 a1 = some r) :
  Calls Try.prog 44 #[.int .i64 a0, .int .i64 a1] w fun e w' => e = .returned (.int .i64 r) ∧ Drawn0 w w' := by
 have H : (if a1 < 1 then (some 0) else (if a1 = 0 then (none) else (if (Int.tmod a0 a1) < 0 then (some (wrap64 ((Int.tmod a0 a1) + a1))) else (some (Int.tmod a0 a1))))) = some r := h
 clear h
 by_cases c3 : a1 < 1
 ·rw [if_pos c3] at H
  have c3b0 : decide (a1 < 1) = true := decide_eq_true c3
  clear c3
  obtain rfl := Option.some.inj H
  go_enter Try.func44, Try.ntmps44
  go_wp2
  go_ret
  exact ⟨by first | rfl | (simp; done) | (simp [*]; done), by repeat (first | exact Drawn0.refl _ | apply Drawn0.step)⟩
 ·rw [if_neg c3] at H
  have c3b0 : decide (a1 < 1) = false := decide_eq_false c3
  clear c3
  by_cases c4 : a1 = 0
  ·rw [if_pos c4] at H
   exact absurd H (by simp)
  ·rw [if_neg c4] at H
   have c4b0 : (a1 == 0) = false := beq_eq_false_iff_ne.mpr c4
   have c4b1 : (a1 != 0) = true := bne_iff_ne.mpr c4
   by_cases c5 : (Int.tmod a0 a1) < 0
   ·rw [if_pos c5] at H
    have c5b0 : decide ((Int.tmod a0 a1) < 0) = true := decide_eq_true c5
    clear c5
    obtain rfl := Option.some.inj H
    go_enter Try.func44, Try.ntmps44
    go_wp2
    go_ret
    exact ⟨by first | rfl | (simp; done) | (simp [*]; done), by repeat (first | exact Drawn0.refl _ | apply Drawn0.step)⟩
   ·rw [if_neg c5] at H
    have c5b0 : decide ((Int.tmod a0 a1) < 0) = false := decide_eq_false c5
    clear c5
    obtain rfl := Option.some.inj H
    go_enter Try.func44, Try.ntmps44
    go_wp2
    go_ret
    exact ⟨by first | rfl | (simp; done) | (simp [*]; done), by repeat (first | exact Drawn0.refl _ | apply Drawn0.step)⟩
end Go.Proofs.Ytbkjplomoegbdaa.PB
end
section
namespace Go.Proofs.Ytbkjplomoegbdaa.PB
open Go.RowKit Go.Proofs.YtbkjplomoegbdaaW.PrintWords Go.Proofs.YtbkjplomoegbdaaW.PrintLast Go.Proofs.YtbkjplomoegbdaaW.PrintMore
attribute [local go_sem] max2_int min2_int max_two min_two max_three min_three max_four min_four
set_option linter.unusedVariables false
set_option linter.unusedSimpArgs false
def IsS138 (w0 W : World) (g : Nat) (f0 : List Int) (f1 : Int) : Prop := ∃ A0 c0, W.heap[g]? = some (.cells #[.slice A0 f0.length c0, .int .i64 f1] 138 (0, 0)) ∧ w0.heap.size ≤ g ∧ Kd.C (Kd.int .i64) w0 A0 f0.length f0
theorem IsS138.grown {w0 W : World} {g : Nat} {f0 : List Int} {f1 : Int} {W1 : World} {row : Option Nat} (h : IsS138 w0 W g f0 f1) (hw : W.grownBy W1 row) (hne : some g ≠ row) : IsS138 w0 W1 g f0 f1 := by
 obtain ⟨A0, c0, hb, hg, hr0⟩ := h
 exact ⟨A0, c0, blk_grown hb hw hne, hg, hr0⟩
theorem IsS138.kept {w0 W : World} {g : Nat} {f0 : List Int} {f1 : Int} {W1 : World} {S : Nat → Prop} (h : IsS138 w0 W g f0 f1) (hk : Kept W W1 S) (hne : ¬ S g) : IsS138 w0 W1 g f0 f1 := by
 obtain ⟨A0, c0, hb, hg, hr0⟩ := h
 exact ⟨A0, c0, blk_kept hb hk hne, hg, hr0⟩
theorem IsS138.below {w0 W : World} {g : Nat} {f0 : List Int} {f1 : Int} {W1 : World} (h : IsS138 w0 W g f0 f1) (hw : Below W.heap.size W W1) : IsS138 w0 W1 g f0 f1 := h.grown (grown_of_below hw none) (by simp)
theorem IsS138.alloc {w0 W : World} {g : Nat} {f0 : List Int} {f1 : Int} (h : IsS138 w0 W g f0 f1) (o : Obj) : IsS138 w0 (W.alloc o) g f0 f1 := h.below (below_alloc (Below.refl _ _) o)
theorem IsS138.drewN {w0 W : World} {g : Nat} {f0 : List Int} {f1 : Int} (h : IsS138 w0 W g f0 f1) (m : Nat) : IsS138 w0 (W.drewN m) g f0 f1 := h
theorem IsS138.drew {w0 W : World} {g : Nat} {f0 : List Int} {f1 : Int} (h : IsS138 w0 W g f0 f1) : IsS138 w0 W.drew g f0 f1 := h
theorem IsS138.apart {w0 W : World} {g : Nat} {f0 : List Int} {f1 : Int} {α : Type} {d : Kd α} {e : Nat} {base : Nat} {ok : Nat → Prop} {v : Value} {xs : List α} (h : IsS138 w0 W g f0 f1) (ho : d.R e W base ok v xs) (ht : ∀ q, q ∈ e :: d.E → q ≠ 138) : d.R e W base (fun k => ok k ∧ k ≠ g) v xs := by
 obtain ⟨A0, c0, hb, hg, hr0⟩ := h
 exact Kd.R_types ho hb ht
theorem IsS138.own_ne {w0 W : World} {g : Nat} {f0 : List Int} {f1 : Int} {α : Type} {d : Kd α} {e : Nat} {base : Nat} {ok : Nat → Prop} {v : Value} {xs : List α} (h : IsS138 w0 W g f0 f1) (ho : d.R e W base ok v xs) (ht : e ≠ 138) : some g ≠ v.ownBlock := by
 obtain ⟨A0, c0, hb, hg, hr0⟩ := h
 exact Kd.R_ne ho hb ht
theorem IsS138.lt {w0 W : World} {g : Nat} {f0 : List Int} {f1 : Int} (h : IsS138 w0 W g f0 f1) : g < W.heap.size := by
 obtain ⟨A0, c0, hb, hg, hr0⟩ := h
 exact blk_lt hb
theorem IsS138.ge {w0 W : World} {g : Nat} {f0 : List Int} {f1 : Int} (h : IsS138 w0 W g f0 f1) : w0.heap.size ≤ g := by
 obtain ⟨A0, c0, hb, hg, hr0⟩ := h
 exact hg
theorem IsS138.ne_blk {w0 W : World} {g : Nat} {f0 : List Int} {f1 : Int} {a : Nat} {cs : Array Value} {t : TypeId} {fr : Nat × Nat} (h : IsS138 w0 W g f0 f1) (hb2 : W.heap[a]? = some (.cells cs t fr)) (ht : t ≠ 138) : g ≠ a := by
 obtain ⟨A0, c0, hb, hg, hr0⟩ := h
 rintro rfl
 rw [hb] at hb2
 injection hb2 with hb2
 injection hb2 with _ ht2
 exact ht ht2.symm
theorem IsS138.far {w0 W : World} {g : Nat} {f0 : List Int} {f1 : Int} {p : Addr} (h : IsS138 w0 W g f0 f1) (hne : g ≠ p.block) (u : Value) : IsS138 w0 (W.setCell p u) g f0 f1 := by
 obtain ⟨A0, c0, hb, hg, hr0⟩ := h
 exact ⟨A0, c0, blk_far hb hne u, hg, hr0⟩
theorem cellS138_0 {W : World} {g : Nat} {A0 : Option Addr} {c0 : Nat} {f0 : List Int} {f1 : Int} (h : W.heap[g]? = some (.cells #[.slice A0 f0.length c0, .int .i64 f1] 138 (0, 0))) : W.cell? ⟨g, 0, none⟩ = some (.slice A0 f0.length c0) := (blk_cell h 0).trans rfl
theorem cellS138_1 {W : World} {g : Nat} {A0 : Option Addr} {c0 : Nat} {f0 : List Int} {f1 : Int} (h : W.heap[g]? = some (.cells #[.slice A0 f0.length c0, .int .i64 f1] 138 (0, 0))) : W.cell? ⟨g, 1, none⟩ = some (.int .i64 f1) := (blk_cell h 1).trans rfl
theorem IsS138.set_1 {w0 W : World} {g : Nat} {f0 : List Int} {f1 : Int} (h : IsS138 w0 W g f0 f1) (x : Int) : IsS138 w0 (W.setCell ⟨g, 1, none⟩ (.int .i64 x)) g f0 x := by
 obtain ⟨A0, c0, hb, hg, hr0⟩ := h
 exact ⟨A0, c0, by simpa using blk_set hb 1 (.int .i64 x), hg, hr0⟩
def railplankeep_From.f (l0 : List Int) : Option (List Int × Int) := some (l0, 0)
set_option maxHeartbeats 8000000 in
set_option maxRecDepth 100000 in
theorem railplankeep_From.calls (A0 : Option Addr) (c0 : Nat) (l0 : List Int) (r1 : List Int) (r2 : Int) (w0 w : World) (hB : Below w0.heap.size w0 w) (hr0 : Kd.C (Kd.int .i64) w0 A0 l0.length l0) (hc0 : l0.length ≤ c0) (h : railplankeep_From.f l0 = some (r1, r2)) :
  Calls Try.prog 83 #[.slice A0 l0.length c0] w fun e w' => ∃ g_ : Nat, e = .returned (.pointer (some ⟨g_, 0, none⟩)) ∧ IsS138 w0 w' g_ r1 r2 ∧ Below w0.heap.size w0 w' ∧ Below w.heap.size w w' := by
 have hu138 := Try.underlying138
 have HR0 := Aside0.mk hr0
 have HC0 := Aside0.mk hc0
 clear hr0 hc0
 have HBW := Aside0.mk (Below.refl w.heap.size w)
 have HW0 := Aside0.mk hB.size
 have HB := Aside0.mk hB
 clear hB
 have H : (some (l0, 0)) = some (r1, r2) := h
 clear h
 simp only [Option.some.injEq, Prod.mk.injEq] at H
 obtain ⟨rfl, rfl⟩ := H
 go_enter Try.func83, Try.ntmps83
 go_wp2_with (first | ((with_reducible refine gate_dst (N := 5) rfl ?_); refine box_event ?hg (N := 5) ?hd (cs := #[.slice A0 l0.length c0, .int .i64 0]) (t := 138) ?hr ?_; (case hd => rfl); (case hg => rfl); (case hr => first | (go_simp; done) | (go_simp; rfl)); intro gb101 hg w2 hbox hb; have n0_ := Aside0.mk (below_step HBW.out hb); have n1_ := Aside0.mk (below_step (by repeat (first | (with_reducible first | exact HB.out | apply below_alloc | apply pw_below_drewN | apply below_drew1) | exact HB.out)) hb); have n2_ := Aside0.mk (hbox); have n3_ := Aside0.mk ((by rw [hg]; exact (below_size (by repeat (first | (with_reducible first | exact HBW.out | apply below_alloc | apply pw_below_drewN | apply below_drew1) | exact HBW.out))) : w.heap.size ≤ gb101)); have n4_ := Aside0.mk ((Nat.le_trans HW0.out (by rw [hg]; exact (below_size (by repeat (first | (with_reducible first | exact HBW.out | apply below_alloc | apply pw_below_drewN | apply below_drew1) | exact HBW.out))) : w.heap.size ≤ gb101) : w0.heap.size ≤ gb101)); clear HBW; clear HB; have HBW := n0_; have HB := n1_; have BK101 := n2_; have GW101 := n3_; have GE101 := n4_; clear n0_ n1_ n2_ n3_ n4_; clear hb hbox hg))
 go_ret
 exact ⟨_, rfl, (show IsS138 w0 _ gb101 l0 0 from ⟨_, _, by (with_reducible repeat (first | refine blk_drewN ?_ _ | refine blk_drew ?_ | refine blk_alloc ?_ _)); exact BK101.out, GE101.out, HR0.out⟩), by repeat (first | (with_reducible first | exact HB.out | apply below_alloc | apply pw_below_drewN | apply below_drew1 | refine below_set ?_ GE101.out) | exact HB.out), by repeat (first | (with_reducible first | exact HBW.out | apply below_alloc | apply pw_below_drewN | apply below_drew1 | refine below_set ?_ GW101.out) | exact HBW.out)⟩
end Go.Proofs.Ytbkjplomoegbdaa.PB
end
section
namespace Go.Proofs.Ytbkjplomoegbdaa.PB
open Go.RowKit Go.Proofs.YtbkjplomoegbdaaW.PrintWords Go.Proofs.YtbkjplomoegbdaaW.PrintLast Go.Proofs.YtbkjplomoegbdaaW.PrintMore
attribute [local go_sem] max2_int min2_int max_two min_two max_three min_three max_four min_four
set_option linter.unusedVariables false
set_option linter.unusedSimpArgs false
def railplankeep_Source_Next.f (s0_0 : List Int) (s0_1 : Int) (a1 : Int) : Option (Int × Int) := if s0_1 ≥ (s0_0.length : Int) then (some (0, s0_1)) else (if 0 ≤ (wrap64 ((wrap64 (s0_1 + 1)) - 1)) then (if (wrap64 ((wrap64 (s0_1 + 1)) - 1)) < (s0_0.length : Int) then ((railplankeep_Pick.f (rd s0_0 (wrap64 ((wrap64 (s0_1 + 1)) - 1))) a1).bind fun t103 => (some (t103, wrap64 (s0_1 + 1)))) else (none)) else (none))
set_option maxHeartbeats 8000000 in
set_option maxRecDepth 100000 in
theorem railplankeep_Source_Next.calls (g : Nat) (s0_0 : List Int) (s0_1 : Int) (a1 : Int) (r1 : Int) (r2 : Int) (w0 w : World) (hI : IsS138 w0 w g s0_0 s0_1) (hB : Below w0.heap.size w0 w) (h : railplankeep_Source_Next.f s0_0 s0_1 a1 = some (r1, r2)) :
  Calls Try.prog 84 #[.pointer (some ⟨g, 0, none⟩), .int .i64 a1] w fun e w' => e = .returned (.int .i64 r1) ∧ IsS138 w0 w' g s0_0 r2 ∧ Below w0.heap.size w0 w' ∧ KeepBut w w' g none := by
 have HI0 := Aside0.mk hI
 have HK := Aside0.mk (KeepBut.refl w g none)
 have HL := Aside0.mk hB.size
 clear hI
 have HW0 := Aside0.mk hB.size
 have HB := Aside0.mk hB
 clear hB
 have H : (if s0_1 ≥ (s0_0.length : Int) then (some (0, s0_1)) else (if 0 ≤ (wrap64 ((wrap64 (s0_1 + 1)) - 1)) then (if (wrap64 ((wrap64 (s0_1 + 1)) - 1)) < (s0_0.length : Int) then ((railplankeep_Pick.f (rd s0_0 (wrap64 ((wrap64 (s0_1 + 1)) - 1))) a1).bind fun t103 => (some (t103, wrap64 (s0_1 + 1)))) else (none)) else (none))) = some (r1, r2) := h
 clear h
 by_cases c3 : s0_1 ≥ (s0_0.length : Int)
 ·rw [if_pos c3] at H
  have c3b0 : decide ((s0_0.length : Int) ≤ s0_1) = true := decide_eq_true c3
  clear c3
  simp only [Option.some.injEq, Prod.mk.injEq] at H
  obtain ⟨rfl, rfl⟩ := H
  obtain ⟨ASz4_0, cSz4_0, HGz4, hgz4, HSz4_0⟩ := HI0.out
  have hcz4_0 := cellS138_0 HGz4
  have hcz4_1 := cellS138_1 HGz4
  have hfz4_1 := blk_frozen HGz4 1
  clear HGz4 hgz4
  go_enter Try.func84, Try.ntmps84
  go_wp2
  repeat (go_quiet (fail); try go_wp2)
  go_ret
  exact ⟨by first | rfl | (simp [errW_none, errW_some] <;> rfl) | (simp [*, errW_none, errW_some] <;> rfl), by repeat (first | (with_reducible first | exact HI0.out | apply IsS138.alloc | apply IsS138.drewN | apply IsS138.drew | apply IsS138.set_1) | exact HI0.out), by repeat (first | (with_reducible first | exact HB.out | apply below_alloc | apply pw_below_drewN | apply below_drew1 | refine below_set ?_ (IsS138.ge HI0.out)) | exact HB.out), by repeat (first | (with_reducible first | exact HK.out | apply KeepBut.set_ | apply keep_drewN | apply keep_drew | apply keep_alloc) | exact HK.out)⟩
 ·rw [if_neg c3] at H
  have c3b0 : decide ((s0_0.length : Int) ≤ s0_1) = false := decide_eq_false c3
  clear c3
  obtain ⟨ji5, hji5⟩ : ∃ j_ : Int, (wrap64 ((wrap64 (s0_1 + 1)) - 1)) = j_ := ⟨_, rfl⟩
  replace H : (if 0 ≤ (ji5) then (if (ji5) < (s0_0.length : Int) then ((railplankeep_Pick.f (rd s0_0 (ji5)) a1).bind fun t103 => (some (t103, wrap64 (s0_1 + 1)))) else (none)) else (none)) = some (r1, r2) := by first | (rw [hji5] at H; exact H) | (simp only [hji5] at H ⊢; exact H)
  have hji5w : (IntKind.i64.wrap ((wrap64 (s0_1 + 1)) - 1)) = ji5 := (i64_w _).trans hji5
  by_cases c6 : 0 ≤ (ji5)
  ·rw [if_pos c6] at H
   have c6b0 : decide (0 ≤ (ji5)) = true := decide_eq_true c6
   clear c6
   by_cases c7 : (ji5) < (s0_0.length : Int)
   ·rw [if_pos c7] at H
    have c7b0 : decide ((ji5) < (s0_0.length : Int)) = true := decide_eq_true c7
    clear c7
    replace H := Option.bind_eq_some_iff.mp H
    obtain ⟨t103, A80, H⟩ := H
    replace H : (some (t103, wrap64 (s0_1 + 1))) = some (r1, r2) := H
    have A8 := Aside0.mk A80
    clear A80
    simp only [Option.some.injEq, Prod.mk.injEq] at H
    obtain ⟨rfl, rfl⟩ := H
    obtain ⟨ASz9_0, cSz9_0, HGz9, hgz9, HSz9_0⟩ := HI0.out
    have hcz9_0 := cellS138_0 HGz9
    have hcz9_1 := cellS138_1 HGz9
    have hfz9_1 := blk_frozen HGz9 1
    clear HGz9 hgz9
    have p102 : 0 ≤ ((ji5) : Int) := of_decide_eq_true (by first | (with_reducible assumption) | assumption)
    have q102 : (ji5) < (s0_0.length : Int) := of_decide_eq_true (by first | (with_reducible assumption) | assumption)
    obtain ⟨ad102, e102, hx102_0⟩ := Kd.at_int HSz9_0 (ji5) p102 q102
    cases e102
    have hn102_0 : ad102.block ≠ g := Nat.ne_of_lt (Nat.lt_of_lt_of_le (by have := World.block_lt_of_cell? _ _ hx102_0; first | rwa [add_block] at this | exact this) (IsS138.ge HI0.out))
    replace hx102_0 := pw_cell_below HB.out hx102_0
    replace hx102_0 := (cell_far (p := ⟨g, 1, none⟩) (by first | (rw [add_block]; exact hn102_0) | (show (Addr.add _ _).block ≠ _; rw [add_block]; exact hn102_0) | exact hn102_0) (.int .i64 (wrap64 (s0_1 + 1)))).trans hx102_0
    (try have hy102_0 := fun (n_ : Nat) => (show (((w.drewN n_).setCell ⟨g, 1, none⟩ (.int .i64 (wrap64 (s0_1 + 1))))).cell? _ = some _ from hx102_0))
    clear hn102_0
    replace p102 := eq_true p102
    replace q102 := eq_true q102
    go_enter Try.func84, Try.ntmps84
    go_wp2_with (first | (go_at_call 34; (with_reducible refine (railplankeep_Pick.calls (rd s0_0 (ji5)) a1 t103 _ A8.out).mono ?_); rintro e w' ⟨rfl, ⟨nd, rfl⟩⟩; (try first | exact ⟨rfl, _, World.drewN_drewN _ _ _⟩ | exact ⟨rfl, _, Eq.trans (World.drewN_drewN _ _ _) (congrArg (World.drewN _) (Nat.add_assoc _ _ _))⟩)))
    repeat (go_quiet (first | (go_at_call 34; (with_reducible refine (railplankeep_Pick.calls (rd s0_0 (ji5)) a1 t103 _ A8.out).mono ?_); rintro e w' ⟨rfl, ⟨nd, rfl⟩⟩; (try first | exact ⟨rfl, _, World.drewN_drewN _ _ _⟩ | exact ⟨rfl, _, Eq.trans (World.drewN_drewN _ _ _) (congrArg (World.drewN _) (Nat.add_assoc _ _ _))⟩))); try go_wp2_with (first | (go_at_call 34; (with_reducible refine (railplankeep_Pick.calls (rd s0_0 (ji5)) a1 t103 _ A8.out).mono ?_); rintro e w' ⟨rfl, ⟨nd, rfl⟩⟩; (try first | exact ⟨rfl, _, World.drewN_drewN _ _ _⟩ | exact ⟨rfl, _, Eq.trans (World.drewN_drewN _ _ _) (congrArg (World.drewN _) (Nat.add_assoc _ _ _))⟩))))
    go_ret
    exact ⟨by first | rfl | (simp [errW_none, errW_some] <;> rfl) | (simp only [← hji5]; first | rfl | (simp [errW_none, errW_some] <;> rfl)) | (simp [*, errW_none, errW_some] <;> rfl), by repeat (first | (with_reducible first | exact HI0.out | apply IsS138.alloc | apply IsS138.drewN | apply IsS138.drew | apply IsS138.set_1) | exact HI0.out), by repeat (first | (with_reducible first | exact HB.out | apply below_alloc | apply pw_below_drewN | apply below_drew1 | refine below_set ?_ (IsS138.ge HI0.out)) | exact HB.out), by repeat (first | (with_reducible first | exact HK.out | apply KeepBut.set_ | apply keep_drewN | apply keep_drew | apply keep_alloc) | exact HK.out)⟩
   ·rw [if_neg c7] at H
    exact absurd H (by simp)
  ·rw [if_neg c6] at H
   exact absurd H (by simp)
end Go.Proofs.Ytbkjplomoegbdaa.PB
end
