/- Parts of the proof of CyclesPeriodicity, gathered by a program of this claim out of texts that it or the kit's print wrote: lemmas alone, no condition of their own. -/
import Derived.Test.YtbkjplomoegbdaaCCyclesPeriodicity7
import Derived.Test.YtbkjplomoegbdaaCCyclesPeriodicity4
section
namespace Go.Proofs.Ytbkjplomoegbdaa.UF
open Go.RowKit Go.Proofs.Ytbkjplomoegbdaa.PB Go.Proofs.YtbkjplomoegbdaaW.PrintWords Go.Proofs.YtbkjplomoegbdaaW.PrintLast Go.Proofs.YtbkjplomoegbdaaW.PrintMore
def at_ (g : List Int) (i : Nat) : Nat := (g.getD i 0).toNat
def WF (g : List Int) : Prop := ∀ i, i < g.length → 0 ≤ g.getD i 0 ∧ g.getD i 0 ≤ (i : Int)
theorem WF.le {g : List Int} (h : WF g) {i : Nat} (hi : i < g.length) : at_ g i ≤ i := by have := h i hi; unfold at_; omega
theorem WF.eq {g : List Int} (h : WF g) {i : Nat} (hi : i < g.length) : g.getD i 0 = (at_ g i : Int) := by have := h i hi; unfold at_; omega
def root (g : List Int) (i : Nat) : Nat := if _h : at_ g i < i then root g (at_ g i) else i
termination_by i
theorem root_le (g : List Int) (i : Nat) : root g i ≤ i := by
  induction i using Nat.strongRecOn with
  | _ i ih =>
    rw [root]
    split
    · rename_i h; exact Nat.le_trans (ih _ h) (Nat.le_of_lt h)
    · exact Nat.le_refl _
theorem root_fix {g : List Int} (h : WF g) : ∀ i, i < g.length → at_ g (root g i) = root g i := by
  intro i
  induction i using Nat.strongRecOn with
  | _ i ih =>
    intro hi
    rw [root]
    split
    · rename_i hl; exact ih _ hl (by omega)
    · have := h.le hi; omega
theorem root_step {g : List Int} (h : WF g) {i : Nat} (hi : i < g.length) : root g (at_ g i) = root g i := by
  by_cases hl : at_ g i < i
  · conv => rhs; rw [root, dif_pos hl]
  · have : at_ g i = i := by have := h.le hi; omega
    rw [this]
theorem root_of_fix {g : List Int} {i : Nat} (h : at_ g i = i) : root g i = i := by rw [root, dif_neg (by omega)]
theorem at_set (g : List Int) (i j : Nat) (v : Int) (hi : i < g.length) : at_ (g.set i v) j = if i = j then v.toNat else at_ g j := by
  unfold at_
  simp only [List.getD_eq_getElem?_getD, List.getElem?_set]
  split
  · rfl
  · rfl
theorem WF.set {g : List Int} (h : WF g) {i v : Nat} (hi : i < g.length) (hv : v ≤ i) : WF (g.set i (v : Int)) := by
  intro j hj
  have hj' : j < g.length := by simpa using hj
  have := h j hj'
  simp only [List.getD_eq_getElem?_getD, List.getElem?_set] at this ⊢
  split
  · rename_i e; subst e; simp; omega
  · exact this
theorem root_halve {g : List Int} (h : WF g) {i : Nat} (hi : i < g.length) : ∀ j, j < g.length → root (g.set i ((at_ g (at_ g i) : Nat) : Int)) j = root g j := by
  have h1 := h.le hi
  have h2 := h.le (i := at_ g i) (by omega)
  intro j
  induction j using Nat.strongRecOn with
  | _ j ih =>
    intro hj
    have hs := h.le hj
    rw [root, at_set _ _ _ _ hi]
    by_cases e : i = j
    · subst e
      rw [if_pos rfl, Int.toNat_natCast]
      by_cases hl : at_ g i < i
      · rw [dif_pos (by omega), ih _ (by omega) (by omega), root_step h (by omega), root_step h hi]
      · have e1 : at_ g i = i := by omega
        rw [dif_neg (by rw [e1, e1]; omega), root_of_fix e1]
    · rw [if_neg e]
      split
      · rename_i hl
        rw [ih _ hl (by omega), root_step h hj]
      · conv => rhs; rw [root, dif_neg (by omega)]
theorem find_ev : ∀ (i : Nat) (g : List Int), WF g → i < g.length →
    ∃ g', Ev (fun k => cycles_groups_find.l0 k g (i : Int)) ((root g i : Nat), g') ∧ WF g' ∧ g'.length = g.length ∧ ∀ j, j < g.length → root g' j = root g j := by
  intro i
  induction i using Nat.strongRecOn with
  | _ i ih =>
    intro g h hi
    have h1 := h.le hi
    have e1 : rd g (i : Int) = (at_ g i : Int) := by unfold rd; rw [Int.toNat_natCast]; exact h.eq hi
    by_cases hl : at_ g i < i
    · have h2 := h.le (i := at_ g i) (by omega)
      have e2 : rd g (at_ g i : Int) = (at_ g (at_ g i) : Int) := by unfold rd; rw [Int.toNat_natCast]; exact h.eq (by omega)
      obtain ⟨g', hev, w, hl', hr⟩ := ih (at_ g (at_ g i)) (by omega) (g.set i ((at_ g (at_ g i) : Nat) : Int)) (h.set hi (by omega)) (by simp; omega)
      refine ⟨g', ?_, w, by simpa using hl', fun j hj => by rw [hr j (by simpa using hj), root_halve h hi j hj]⟩
      refine Ev.step (f := fun k => cycles_groups_find.l0 k (g.set i ((at_ g (at_ g i) : Nat) : Int)) ((at_ g (at_ g i) : Nat) : Int)) (fun k => ?_) ?_
      · have e4 : rd (g.set i ((at_ g (at_ g i) : Nat) : Int)) (i : Int) = ((at_ g (at_ g i) : Nat) : Int) := by
          unfold rd; rw [Int.toNat_natCast]; simp [List.getD_eq_getElem?_getD, hi]
        simp only [cycles_groups_find.l0]
        rw [if_pos (by omega), if_pos (by omega), if_neg (by rw [e1]; omega), if_pos (by rw [e1]; omega), if_pos (by rw [e1]; omega), Option.bind_some, e1, e2, Int.toNat_natCast, e4]
      · have : root (g.set i ((at_ g (at_ g i) : Nat) : Int)) (at_ g (at_ g i)) = root g i := by
          rw [root_halve h hi _ (by omega), root_step h (by omega), root_step h hi]
        rw [this] at hev
        exact hev
    · have e3 : at_ g i = i := by omega
      refine ⟨g, ?_, h, rfl, fun _ _ => rfl⟩
      rw [root_of_fix e3]
      refine Ev.of (k := 1) (fun k => cycles_groups_find.mono_l k _ _) ?_
      simp only [cycles_groups_find.l0]
      rw [if_pos (by omega), if_pos (by omega), if_pos (by rw [e1]; omega)]
theorem root_join {g : List Int} (h : WF g) {a b : Nat} (_ha : a < g.length) (hb : b < g.length) (hab : a ≤ b) (fa : at_ g a = a) (fb : at_ g b = b) :
    ∀ j, j < g.length → root (g.set b ((a : Nat) : Int)) j = if root g j = b then a else root g j := by
  intro j
  induction j using Nat.strongRecOn with
  | _ j ih =>
    intro hj
    have hs := h.le hj
    rw [root, at_set _ _ _ _ hb]
    by_cases e : b = j
    · subst e
      rw [if_pos rfl, Int.toNat_natCast, root_of_fix fb, if_pos rfl]
      by_cases hl : a < b
      · rw [dif_pos hl, ih a hl (by omega), root_of_fix fa]
        split <;> rfl
      · rw [dif_neg hl]; omega
    · rw [if_neg e]
      split
      · rename_i hl
        rw [ih _ hl (by omega), root_step h hj]
      · have e2 : at_ g j = j := by omega
        rw [root_of_fix e2, if_neg (fun h => e h.symm)]
theorem mx_nat (a b : Nat) : mx (a : Int) (b : Int) = ((max a b : Nat) : Int) := by unfold mx; split <;> omega
theorem mn_nat (a b : Nat) : mn (a : Int) (b : Int) = ((min a b : Nat) : Int) := by unfold mn; split <;> omega
theorem merge_ev (g : List Int) (h : WF g) (i k : Nat) (hi : i < g.length) (hk : k < g.length) :
    ∃ g', Ev (fun n => cycles_groups_merge.f n g (i : Int) (k : Int)) ((root g i : Int) != (root g k : Int), g') ∧ WF g' ∧ g'.length = g.length ∧
      ∀ j, j < g.length → root g' j = if root g j = max (root g i) (root g k) then min (root g i) (root g k) else root g j := by
  obtain ⟨g1, hev1, w1, l1, r1⟩ := find_ev i g h hi
  obtain ⟨g2, hev2, w2, l2, r2⟩ := find_ev k g1 w1 (by omega)
  have rr : ∀ j, j < g.length → root g2 j = root g j := fun j hj => by rw [r2 j (by omega), r1 j hj]
  have li := root_le g i
  have lk := root_le g k
  have e1 := root_fix w2 i (by omega)
  have e2 := root_fix w2 k (by omega)
  rw [rr i hi] at e1
  rw [rr k hk] at e2
  have em : at_ g2 (max (root g i) (root g k)) = max (root g i) (root g k) := by
    rcases Nat.le_total (root g i) (root g k) with c | c
    · rw [Nat.max_eq_right c]; exact e2
    · rw [Nat.max_eq_left c]; exact e1
  have en : at_ g2 (min (root g i) (root g k)) = min (root g i) (root g k) := by
    rcases Nat.le_total (root g i) (root g k) with c | c
    · rw [Nat.min_eq_left c]; exact e1
    · rw [Nat.min_eq_right c]; exact e2
  refine ⟨g2.set (max (root g i) (root g k)) ((min (root g i) (root g k) : Nat) : Int), ?_, w2.set (by omega) (by omega), by simp; omega, fun j hj => ?_⟩
  · have hr1 : root g1 k = root g k := r1 k hk
    rw [hr1] at hev2
    refine Ev.congr (f := fun n => (cycles_groups_find.l0 n g (i : Int)).bind fun x => (cycles_groups_find.l0 n x.2 (k : Int)).bind fun y => (if 0 ≤ (mx x.1 y.1) then (if (mx x.1 y.1) < (g.length : Int) then (some ((x.1 != y.1), (y.2.set ((mx x.1 y.1) : Int).toNat (mn x.1 y.1)))) else (none)) else (none))) (fun n => rfl) ?_
    refine Ev.bind hev1 (Ev.bind hev2 ?_)
    simp only [mx_nat, mn_nat]
    rw [if_pos (by omega), if_pos (by omega), Int.toNat_natCast]
    exact Ev.now _
  · rw [root_join w2 (a := min (root g i) (root g k)) (b := max (root g i) (root g k)) (by omega) (by omega) (by omega) en em j (by omega), rr j hj]
def idn (n : Nat) : List Int := (List.range n).map (fun (i : Nat) => (i : Int))
theorem idn_getD (n i : Nat) (h : i < n) : (idn n).getD i 0 = (i : Int) := by
  unfold idn
  simp [List.getD_eq_getElem?_getD, h]
theorem idn_length (n : Nat) : (idn n).length = n := by simp [idn]
theorem idn_WF (n : Nat) : WF (idn n) := by
  intro i hi
  rw [idn_length] at hi
  rw [idn_getD n i hi]
  omega
theorem idn_root (n i : Nat) (h : i < n) : root (idn n) i = i := root_of_fix (by unfold at_; rw [idn_getD n i h]; simp)
theorem alone_l0 (n : Nat) (hn : n ≤ 35184372088832) : ∀ (d i : Nat) (x : List Int), i + d = n → x.length = n → (∀ j, j < i → x.getD j 0 = (j : Int)) →
    Ev (fun k => cycles_alone.l0 k x (n : Int) (i : Int)) (idn n) := by
  intro d
  induction d with
  | zero =>
    intro i x hi hx hj
    refine Ev.of (k := 1) (fun k => cycles_alone.mono_l k _ _ _) ?_
    simp only [cycles_alone.l0]
    rw [if_neg (by omega)]
    congr 1
    refine List.ext_getElem (by rw [hx, idn_length]) fun j h1 h2 => ?_
    have := hj j (by omega)
    simp [List.getD_eq_getElem?_getD, h1] at this
    rw [this]
    simp [idn]
  | succ d ih =>
    intro i x hi hx hj
    refine Ev.step (f := fun k => cycles_alone.l0 k (x.set i (i : Int)) (n : Int) ((i + 1 : Nat) : Int)) (fun k => ?_) (ih (i + 1) _ (by omega) (by simpa using hx) ?_)
    · simp only [cycles_alone.l0]
      rw [if_pos (by omega), if_pos (by omega), if_pos (by omega), Int.toNat_natCast]
      congr 1
      unfold wrap64
      omega
    · intro j hj'
      simp only [List.getD_eq_getElem?_getD, List.getElem?_set]
      split
      · rename_i e; subst e; rw [if_pos (by omega)]; rfl
      · have := hj j (by omega)
        simpa [List.getD_eq_getElem?_getD] using this
theorem alone_ev (n : Nat) (hn : n ≤ 35184372088832) : Ev (fun k => cycles_alone.f k (n : Int)) (idn n) := by
  refine Ev.congr (f := fun k => cycles_alone.l0 k (List.replicate n 0) (n : Int) 0) (fun k => ?_) (alone_l0 n hn n 0 _ (by omega) (by simp) (fun j hj => by omega))
  unfold cycles_alone.f
  rw [if_pos (by omega), if_pos (by omega), Int.toNat_natCast]
  simp
end Go.Proofs.Ytbkjplomoegbdaa.UF
end
section
namespace Go.Proofs.Ytbkjplomoegbdaa.PB
open Go.RowKit Go.Proofs.YtbkjplomoegbdaaW.PrintWords Go.Proofs.YtbkjplomoegbdaaW.PrintLast Go.Proofs.YtbkjplomoegbdaaW.PrintMore
attribute [local go_sem] max2_int min2_int max_two min_two max_three min_three max_four min_four
set_option linter.unusedVariables false
set_option linter.unusedSimpArgs false
def railplanref11_in.f (a0 : Int) (a1 : Int) (a2 : Int) : Option (Bool) := if a0 ≥ a1 then (some (decide (a0 ≤ a2))) else (some false)
set_option maxHeartbeats 8000000 in
set_option maxRecDepth 100000 in
theorem railplanref11_in.calls (a0 : Int) (a1 : Int) (a2 : Int) (r : Bool) (w : World) (h : railplanref11_in.f a0 a1 a2 = some r) :
  Calls Try.prog 110 #[.int .i64 a0, .int .i64 a1, .int .i64 a2] w fun e w' => e = .returned (.bool r) ∧ Drawn0 w w' := by
 have H : (if a0 ≥ a1 then (some (decide (a0 ≤ a2))) else (some false)) = some r := h
 clear h
 by_cases c4 : a0 ≥ a1
 ·rw [if_pos c4] at H
  have c4b0 : decide (a1 ≤ a0) = true := decide_eq_true c4
  clear c4
  obtain rfl := Option.some.inj H
  go_enter Try.func110, Try.ntmps110
  go_wp2
  go_ret
  exact ⟨by first | rfl | (simp; done) | (simp [*]; done), by repeat (first | exact Drawn0.refl _ | apply Drawn0.step)⟩
 ·rw [if_neg c4] at H
  have c4b0 : decide (a1 ≤ a0) = false := decide_eq_false c4
  clear c4
  obtain rfl := Option.some.inj H
  go_enter Try.func110, Try.ntmps110
  go_wp2
  go_ret
  exact ⟨by first | rfl | (simp; done) | (simp [*]; done), by repeat (first | exact Drawn0.refl _ | apply Drawn0.step)⟩
end Go.Proofs.Ytbkjplomoegbdaa.PB
end
section
namespace Go.Proofs.Ytbkjplomoegbdaa.PB
open Go.RowKit Go.Proofs.YtbkjplomoegbdaaW.PrintWords Go.Proofs.YtbkjplomoegbdaaW.PrintLast Go.Proofs.YtbkjplomoegbdaaW.PrintMore
attribute [local go_sem] max2_int min2_int max_two min_two max_three min_three max_four min_four
set_option linter.unusedVariables false
set_option linter.unusedSimpArgs false
def railplankeep_Pick.f (a0 : Int) (a1 : Int) : Option (Int) := if (IntKind.u64.wrap (a1)) = 0 then (none) else (some (wrap64 (Int.tmod (IntKind.u64.wrap (a0)) (IntKind.u64.wrap (a1)))))
set_option maxHeartbeats 8000000 in
set_option maxRecDepth 100000 in
theorem railplankeep_Pick.calls (a0 : Int) (a1 : Int) (r : Int) (w : World) (h : railplankeep_Pick.f a0 a1 = some r) :
  Calls Try.prog 34 #[.int .i64 a0, .int .i64 a1] w fun e w' => e = .returned (.int .i64 r) ∧ Drawn0 w w' := by
 have H : (if (IntKind.u64.wrap (a1)) = 0 then (none) else (some (wrap64 (Int.tmod (IntKind.u64.wrap (a0)) (IntKind.u64.wrap (a1)))))) = some r := h
 clear h
 by_cases c3 : (IntKind.u64.wrap (a1)) = 0
 ·rw [if_pos c3] at H
  exact absurd H (by simp)
 ·rw [if_neg c3] at H
  have c3b0 : ((IntKind.u64.wrap (a1)) == 0) = false := beq_eq_false_iff_ne.mpr c3
  have c3b1 : ((IntKind.u64.wrap (a1)) != 0) = true := bne_iff_ne.mpr c3
  obtain rfl := Option.some.inj H
  go_enter Try.func34, Try.ntmps34
  go_wp2
  go_ret
  exact ⟨by first | rfl | (simp; done) | (simp [*]; done), by repeat (first | exact Drawn0.refl _ | apply Drawn0.step)⟩
end Go.Proofs.Ytbkjplomoegbdaa.PB
end
section
namespace Go.Proofs.Ytbkjplomoegbdaa.PB
open Go.RowKit Go.Proofs.YtbkjplomoegbdaaW.PrintWords Go.Proofs.YtbkjplomoegbdaaW.PrintLast Go.Proofs.YtbkjplomoegbdaaW.PrintMore
attribute [local go_sem] max2_int min2_int max_two min_two max_three min_three max_four min_four
set_option linter.unusedVariables false
set_option linter.unusedSimpArgs false
def slices_Index_int_int.l0 : Nat → List Int → Int → Int → Int → Option (Int)
 | 0, _, _, _, _ => none
 | k + 1, x0, x1, x7, x8 => if x8 < x7 then (if 0 ≤ x8 then (if x8 < (x0.length : Int) then (if x1 = (rd x0 x8) then (some x8) else (slices_Index_int_int.l0 k x0 x1 x7 (wrap64 (x8 + 1)))) else (none)) else (none)) else (some (-1))
def slices_Index_int_int.f (k : Nat) (l0 : List Int) (a1 : Int) : Option (Int) := slices_Index_int_int.l0 k l0 a1 (l0.length : Int) 0
set_option maxHeartbeats 8000000 in
set_option maxRecDepth 100000 in
theorem slices_Index_int_int.calls (k : Nat) (A0 : Option Addr) (c0 : Nat) (l0 : List Int) (a1 : Int) (r : Int) (w : World) (hr0 : Kd.C (Kd.int .i64) w A0 l0.length l0) (hc0 : l0.length ≤ c0) (h : slices_Index_int_int.f k l0 a1 = some r) :
  Calls Try.prog 108 #[.slice A0 l0.length c0, .int .i64 a1] w fun e w' => e = .returned (.int .i64 r) ∧ Drawn0 w w' := by
 have HR0 := Aside0.mk hr0
 have HC0 := Aside0.mk hc0
 clear hr0 hc0
 have H : (slices_Index_int_int.l0 k l0 a1 (l0.length : Int) 0) = some r := h
 clear h
 have H' := Aside0.mk H
 clear H
 go_enter Try.func108, Try.ntmps108
 go_wp2
 go_loopg [8] k (fun kq v8 w' => ∃ (x8_1 : Int), v8 = .int .i64 x8_1 ∧ Aside0 (slices_Index_int_int.l0 kq l0 a1 (l0.length : Int) x8_1 = some r) ∧ Aside0 (kq ≤ k) ∧ Drawn0 w w')
 case atStart => exact ⟨(0), (by first | rfl | (simp; done) | (simp [*]; done)), H', ⟨Nat.le_refl _⟩, by repeat (first | exact Drawn0.refl _ | apply Drawn0.step)⟩
 case round =>
  clear H'
  try clear c1
  try clear p2
  obtain ⟨x8_1, rfl, HA, HK1, ⟨m1, rfl⟩⟩ := hrel
  cases gk with
  | zero => exact absurd HA.out (by simp [slices_Index_int_int.l0])
  | succ k1 =>
   have H := HA.out
   clear HA
   simp only [slices_Index_int_int.l0] at H
   by_cases c3 : x8_1 < (l0.length : Int)
   ·rw [if_pos c3] at H
    have c3b0 : decide (x8_1 < (l0.length : Int)) = true := decide_eq_true c3
    clear c3
    by_cases c4 : 0 ≤ x8_1
    ·rw [if_pos c4] at H
     have c4b0 : decide (0 ≤ x8_1) = true := decide_eq_true c4
     clear c4
     by_cases c5 : x8_1 < (l0.length : Int)
     ·rw [if_pos c5] at H
      have c5b0 : decide (x8_1 < (l0.length : Int)) = true := decide_eq_true c5
      clear c5
      by_cases c6 : a1 = (rd l0 x8_1)
      ·rw [if_pos c6] at H
       have c6b0 : (a1 == (rd l0 x8_1)) = true := beq_iff_eq.mpr c6
       have c6b1 : (a1 != (rd l0 x8_1)) = false := bne_eq_false_iff_eq.mpr c6
       clear c6
       obtain rfl := Option.some.inj H
       have p170 : 0 ≤ (x8_1 : Int) := of_decide_eq_true (by first | (with_reducible assumption) | assumption)
       have q170 : x8_1 < (l0.length : Int) := of_decide_eq_true (by first | (with_reducible assumption) | assumption)
       obtain ⟨ad170, e170, hx170_0⟩ := Kd.at_int HR0.out x8_1 p170 q170
       cases e170
       replace p170 := eq_true p170
       replace q170 := eq_true q170
       go_wp2
       go_ret
       exact ⟨by first | rfl | (simp; done) | (simp [*]; done), by repeat (first | exact Drawn0.refl _ | apply Drawn0.step)⟩
      ·rw [if_neg c6] at H
       have c6b0 : (a1 == (rd l0 x8_1)) = false := beq_eq_false_iff_ne.mpr c6
       have c6b1 : (a1 != (rd l0 x8_1)) = true := bne_iff_ne.mpr c6
       have H' := Aside0.mk H
       clear H
       have p170 : 0 ≤ (x8_1 : Int) := of_decide_eq_true (by first | (with_reducible assumption) | assumption)
       have q170 : x8_1 < (l0.length : Int) := of_decide_eq_true (by first | (with_reducible assumption) | assumption)
       obtain ⟨ad170, e170, hx170_0⟩ := Kd.at_int HR0.out x8_1 p170 q170
       cases e170
       replace p170 := eq_true p170
       replace q170 := eq_true q170
       go_wp2
       go_roundg k1
       case measure => have := HK1.out; omega
       case rel => exact ⟨(wrap64 (x8_1 + 1)), (by first | rfl | (simp; done) | (simp [*]; done)), H', ⟨by have := HK1.out; omega⟩, by repeat (first | exact Drawn0.refl _ | apply Drawn0.step)⟩
     ·rw [if_neg c5] at H
      exact absurd H (by simp)
    ·rw [if_neg c4] at H
     exact absurd H (by simp)
   ·rw [if_neg c3] at H
    have c3b0 : decide (x8_1 < (l0.length : Int)) = false := decide_eq_false c3
    clear c3
    obtain rfl := Option.some.inj H
    go_wp2
    go_ret
    exact ⟨by first | rfl | (simp; done) | (simp [*]; done), by repeat (first | exact Drawn0.refl _ | apply Drawn0.step)⟩
end Go.Proofs.Ytbkjplomoegbdaa.PB
end
section
namespace Go.Proofs.Ytbkjplomoegbdaa.PB
open Go.RowKit Go.Proofs.YtbkjplomoegbdaaW.PrintWords Go.Proofs.YtbkjplomoegbdaaW.PrintLast Go.Proofs.YtbkjplomoegbdaaW.PrintMore
attribute [local go_sem] max2_int min2_int max_two min_two max_three min_three max_four min_four
set_option linter.unusedVariables false
set_option linter.unusedSimpArgs false
def slices_Contains_int_int.f (k : Nat) (l0 : List Int) (a1 : Int) : Option (Bool) := (slices_Index_int_int.f k l0 a1).bind fun t171 => (some (decide (t171 ≥ 0)))
set_option maxHeartbeats 8000000 in
set_option maxRecDepth 100000 in
theorem slices_Contains_int_int.calls (k : Nat) (A0 : Option Addr) (c0 : Nat) (l0 : List Int) (a1 : Int) (r : Bool) (w : World) (hr0 : Kd.C (Kd.int .i64) w A0 l0.length l0) (hc0 : l0.length ≤ c0) (h : slices_Contains_int_int.f k l0 a1 = some r) :
  Calls Try.prog 89 #[.slice A0 l0.length c0, .int .i64 a1] w fun e w' => e = .returned (.bool r) ∧ Drawn0 w w' := by
 have HR0 := Aside0.mk hr0
 have HC0 := Aside0.mk hc0
 clear hr0 hc0
 have H : ((slices_Index_int_int.f k l0 a1).bind fun t171 => (some (decide (t171 ≥ 0)))) = some r := h
 clear h
 replace H := Option.bind_eq_some_iff.mp H
 obtain ⟨t171, A30, H⟩ := H
 replace H : (some (decide (t171 ≥ 0))) = some r := H
 have A3 := Aside0.mk A30
 clear A30
 obtain rfl := Option.some.inj H
 go_enter Try.func89, Try.ntmps89
 go_wp2_with (first | ((with_reducible refine gate_callee (f := 108) rfl ?_); refine goesL_ (some 7) rfl rfl Try.func108 (by kernel_rfl) rfl #[.slice A0 l0.length c0, .int .i64 a1] rfl (by (try simp only [List.map_toArray, List.map_cons, List.map_nil]); first | done | rfl | (simp only [List.length_drop, List.length_take]; rfl)) ?_; (with_reducible refine (slices_Index_int_int.calls k _ _ l0 a1 t171 _ ?side1 ?side2 A3.out).mono ?_); (case side1 => repeat (first | exact HR0.out | (with_reducible refine Kd.C_alloc ?_ _) | (with_reducible refine Kd.C_drewN ?_ _) | (with_reducible refine Kd.C_drew ?_))); (case side2 => exact HC0.out); rintro e w' ⟨rfl, ⟨nd, rfl⟩⟩; refine ⟨_, rfl, ?_⟩))
 go_ret
 exact ⟨by first | rfl | (simp; done) | (simp [*]; done), by repeat (first | exact Drawn0.refl _ | apply Drawn0.step)⟩
end Go.Proofs.Ytbkjplomoegbdaa.PB
end
section
namespace Go.Proofs.Ytbkjplomoegbdaa.PB
open Go.RowKit Go.Proofs.YtbkjplomoegbdaaW.PrintWords Go.Proofs.YtbkjplomoegbdaaW.PrintLast Go.Proofs.YtbkjplomoegbdaaW.PrintMore
set_option linter.unusedVariables false
set_option linter.unusedSimpArgs false
theorem index_l0 (l : List Int) (x : Int) (hl : l.length ≤ 9223372036854775807) : ∀ (d i : Nat), i + d = l.length → ∃ r, Ev (fun k => slices_Index_int_int.l0 k l x (l.length : Int) (i : Int)) r ∧ decide (r ≥ 0) = (l.drop i).contains x := by
  intro d
  induction d with
  | zero =>
    intro i hi
    refine ⟨-1, Ev.step (f := fun _ => some (-1)) (fun k => ?_) (Ev.now _), ?_⟩
    · simp only [slices_Index_int_int.l0]
      rw [if_neg (by omega)]
    · rw [List.drop_eq_nil_of_le (by omega)]; simp
  | succ d ih =>
    intro i hi
    have hr : rd l (i : Int) = l.getD i 0 := by unfold rd; rw [Int.toNat_natCast]
    have hd : l.drop i = l.getD i 0 :: l.drop (i + 1) := by
      rw [List.drop_eq_getElem_cons (by omega)]
      simp [List.getD_eq_getElem?_getD, show i < l.length by omega]
    rw [hd]
    by_cases c : x = l.getD i 0
    · refine ⟨i, Ev.step (f := fun _ => some (i : Int)) (fun k => ?_) (Ev.now _), ?_⟩
      · simp only [slices_Index_int_int.l0]
        rw [if_pos (by omega), if_pos (by omega), if_pos (by omega), hr, if_pos c]
      · rw [decide_eq_true (by omega)]; rw [c]; simp
    · obtain ⟨r, h1, h2⟩ := ih (i + 1) (by omega)
      have w1 : wrap64 ((i : Int) + 1) = ((i + 1 : Nat) : Int) := by unfold wrap64; omega
      refine ⟨r, Ev.step (fun k => ?_) h1, ?_⟩
      · simp only [slices_Index_int_int.l0]
        rw [if_pos (by omega), if_pos (by omega), if_pos (by omega), hr, if_neg c, w1]
      · rw [h2, List.contains_cons, beq_eq_false_iff_ne.2 c, Bool.false_or]
theorem contains_ev (l : List Int) (x : Int) (hl : l.length ≤ 9223372036854775807) : Ev (fun k => slices_Contains_int_int.f k l x) (l.contains x) := by
  obtain ⟨r, h1, h2⟩ := index_l0 l x hl l.length 0 (by omega)
  unfold slices_Contains_int_int.f slices_Index_int_int.f
  refine Ev.bind h1 ?_
  rw [h2]
  exact Ev.now _
theorem has_l0 (l : List Int) (x : Int) (hl : l.length ≤ 9223372036854775807) : ∀ (d i : Nat), i + d = l.length → Ev (fun k => railplanref11_has.l0 k l x (i : Int)) ((l.drop i).contains x) := by
  intro d
  induction d with
  | zero =>
    intro i hi
    refine Ev.step (f := fun _ => some false) (fun k => ?_) ?_
    · simp only [railplanref11_has.l0]
      rw [if_neg (by omega)]
    · rw [List.drop_eq_nil_of_le (by omega)]; exact Ev.now _
  | succ d ih =>
    intro i hi
    have hr : rd l (i : Int) = l.getD i 0 := by unfold rd; rw [Int.toNat_natCast]
    have hd : l.drop i = l.getD i 0 :: l.drop (i + 1) := by
      rw [List.drop_eq_getElem_cons (by omega)]
      simp [List.getD_eq_getElem?_getD, show i < l.length by omega]
    rw [hd]
    by_cases c : l.getD i 0 = x
    · refine Ev.step (f := fun _ => some true) (fun k => ?_) ?_
      · simp only [railplanref11_has.l0]
        rw [if_pos (by omega), if_pos (by omega), hr, if_pos c]
      · rw [c]; simp only [List.contains_cons, BEq.rfl, Bool.true_or]; exact Ev.now _
    · have w1 : wrap64 ((i : Int) + 1) = ((i + 1 : Nat) : Int) := by unfold wrap64; omega
      refine Ev.step (f := fun k => railplanref11_has.l0 k l x ((i + 1 : Nat) : Int)) (fun k => ?_) ?_
      · simp only [railplanref11_has.l0]
        rw [if_pos (by omega), if_pos (by omega), hr, if_neg c, w1]
      · rw [List.contains_cons, beq_eq_false_iff_ne.2 (fun h => c h.symm), Bool.false_or]
        exact ih (i + 1) (by omega)
theorem has_ev (l : List Int) (x : Int) (hl : l.length ≤ 9223372036854775807) : Ev (fun k => railplanref11_has.f k l x) (l.contains x) := by
  have := has_l0 l x hl l.length 0 (by omega)
  simpa [railplanref11_has.f] using this
theorem contains_c (A : Option Addr) (c : Nat) (l : List Int) (x : Int) (W : World) (hr : Kd.C (Kd.int .i64) W A l.length l) (hc : l.length ≤ c) :
    Calls Try.prog 89 #[.slice A l.length c, .int .i64 x] W fun e w' => e = .returned (.bool (l.contains x)) ∧ ∃ m, w' = W.drewN m := by
  obtain ⟨k, hk⟩ := (contains_ev l x hr.2.1).rounds
  exact (slices_Contains_int_int.calls k A c l x _ W hr hc hk).mono fun _ _ ⟨h1, h2⟩ => ⟨h1, h2.out⟩
theorem C_take {A : Option Addr} {l : List Int} {W : World} (i : Nat) (hi : i ≤ l.length) (h : Kd.C (Kd.int .i64) W A l.length l) : Kd.C (Kd.int .i64) W A (l.take i).length (l.take i) := by
  have hl : (l.take i).length = i := by rw [List.length_take]; omega
  rw [hl]
  exact Kd.C_of_reads (h1 := fun _ => rfl) ((Kd.reads_of_C (d := (0 : Int)) h).take_ i hi)
theorem take_c (A : Option Addr) (c : Nat) (l : List Int) (x : Int) (i : Nat) (W : World) (hi : i ≤ l.length) (hr : Kd.C (Kd.int .i64) W A l.length l) (hc : l.length ≤ c) :
    Calls Try.prog 89 #[.slice A i c, .int .i64 x] W fun e w' => e = .returned (.bool ((l.take i).contains x)) ∧ ∃ m, w' = W.drewN m := by
  have hl : (l.take i).length = i := by rw [List.length_take]; omega
  have := contains_c A c (l.take i) x W (C_take i hi hr) (by omega)
  rwa [hl] at this
end Go.Proofs.Ytbkjplomoegbdaa.PB
end
section
namespace Go.Proofs.Ytbkjplomoegbdaa.PB
open Go.RowKit Go.Proofs.YtbkjplomoegbdaaW.PrintWords Go.Proofs.YtbkjplomoegbdaaW.PrintLast Go.Proofs.YtbkjplomoegbdaaW.PrintMore
attribute [local go_sem] max2_int min2_int max_two min_two max_three min_three max_four min_four
set_option linter.unusedVariables false
set_option linter.unusedSimpArgs false
def arith_Mod.f (a0 : Int) (a1 : Int) : Option (Int) := if a1 < 1 then (some 0) else (if a1 = 0 then (none) else (if (Int.tmod a0 a1) < 0 then (some (wrap64 ((Int.tmod a0 a1) + a1))) else (some (Int.tmod a0 a1))))
set_option maxHeartbeats 8000000 in
set_option maxRecDepth 100000 in
theorem arith_Mod.calls (a0 : Int) (a1 : Int) (r : Int) (w : World) (h : arith_Mod.f a0 a1 = some r) :
  Calls Try.prog 102 #[.int .i64 a0, .int .i64 a1] w fun e w' => e = .returned (.int .i64 r) ∧ Drawn0 w w' := by
 have H : (if a1 < 1 then (some 0) else (if a1 = 0 then (none) else (if (Int.tmod a0 a1) < 0 then (some (wrap64 ((Int.tmod a0 a1) + a1))) else (some (Int.tmod a0 a1))))) = some r := h
 clear h
 by_cases c3 : a1 < 1
 ·rw [if_pos c3] at H
  have c3b0 : decide (a1 < 1) = true := decide_eq_true c3
  clear c3
  obtain rfl := Option.some.inj H
  go_enter Try.func102, Try.ntmps102
  go_wp2
  go_ret
  exact ⟨by first | rfl | (simp; done) | (simp [*]; done), by repeat (first | exact Drawn0.refl _ | apply Drawn0.step)⟩
 ·rw [if_neg c3] at H
  have c3b0 : decide (a1 < 1) = false := decide_eq_false c3
  clear c3
  by_cases c4 : a1 = 0
  ·rw [if_pos c4] at H
   exact absurd H (by simp)
  ·rw [if_neg c4] at H
   have c4b0 : (a1 == 0) = false := beq_eq_false_iff_ne.mpr c4
   have c4b1 : (a1 != 0) = true := bne_iff_ne.mpr c4
   by_cases c5 : (Int.tmod a0 a1) < 0
   ·rw [if_pos c5] at H
    have c5b0 : decide ((Int.tmod a0 a1) < 0) = true := decide_eq_true c5
    clear c5
    obtain rfl := Option.some.inj H
    go_enter Try.func102, Try.ntmps102
    go_wp2
    go_ret
    exact ⟨by first | rfl | (simp; done) | (simp [*]; done), by repeat (first | exact Drawn0.refl _ | apply Drawn0.step)⟩
   ·rw [if_neg c5] at H
    have c5b0 : decide ((Int.tmod a0 a1) < 0) = false := decide_eq_false c5
    clear c5
    obtain rfl := Option.some.inj H
    go_enter Try.func102, Try.ntmps102
    go_wp2
    go_ret
    exact ⟨by first | rfl | (simp; done) | (simp [*]; done), by repeat (first | exact Drawn0.refl _ | apply Drawn0.step)⟩
end Go.Proofs.Ytbkjplomoegbdaa.PB
end
