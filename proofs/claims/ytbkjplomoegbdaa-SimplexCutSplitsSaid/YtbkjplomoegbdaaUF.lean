/- Union by least element with path halving, as the printed 'find', 'merge' and 'alone' compute it: what the roots are. -/
import Derived.Test.YtbkjplomoegbdaaPBxf131
import Derived.Test.YtbkjplomoegbdaaPBxf130
namespace Go.Proofs.Ytbkjplomoegbdaa.UF
open Go.RowKit Go.Proofs.Ytbkjplomoegbdaa.PB Go.Proofs.YtbkjplomoegbdaaW.PrintWords Go.Proofs.YtbkjplomoegbdaaW.PrintLast Go.Proofs.YtbkjplomoegbdaaW.PrintMore

/-- Element i as a natural number. -/
def at_ (g : List Int) (i : Nat) : Nat := (g.getD i 0).toNat
/-- Every element points to one that isn't behind it. -/
def WF (g : List Int) : Prop := ∀ i, i < g.length → 0 ≤ g.getD i 0 ∧ g.getD i 0 ≤ (i : Int)
theorem WF.le {g : List Int} (h : WF g) {i : Nat} (hi : i < g.length) : at_ g i ≤ i := by have := h i hi; unfold at_; omega
theorem WF.eq {g : List Int} (h : WF g) {i : Nat} (hi : i < g.length) : g.getD i 0 = (at_ g i : Int) := by have := h i hi; unfold at_; omega

def root (g : List Int) (i : Nat) : Nat := if _h : at_ g i < i then root g (at_ g i) else i
termination_by i

theorem root_le (g : List Int) (i : Nat) : root g i ≤ i := by
  induction i using Nat.strongRecOn with
  | _ i ih =>
    rw [root]
    split
    · rename_i h; exact Nat.le_trans (ih _ h) (Nat.le_of_lt h)
    · exact Nat.le_refl _
theorem root_fix {g : List Int} (h : WF g) : ∀ i, i < g.length → at_ g (root g i) = root g i := by
  intro i
  induction i using Nat.strongRecOn with
  | _ i ih =>
    intro hi
    rw [root]
    split
    · rename_i hl; exact ih _ hl (by omega)
    · have := h.le hi; omega
theorem root_step {g : List Int} (h : WF g) {i : Nat} (hi : i < g.length) : root g (at_ g i) = root g i := by
  by_cases hl : at_ g i < i
  · conv => rhs; rw [root, dif_pos hl]
  · have : at_ g i = i := by have := h.le hi; omega
    rw [this]
theorem root_of_fix {g : List Int} {i : Nat} (h : at_ g i = i) : root g i = i := by rw [root, dif_neg (by omega)]
theorem at_set (g : List Int) (i j : Nat) (v : Int) (hi : i < g.length) : at_ (g.set i v) j = if i = j then v.toNat else at_ g j := by
  unfold at_
  simp only [List.getD_eq_getElem?_getD, List.getElem?_set]
  split
  · rfl
  · rfl
theorem WF.set {g : List Int} (h : WF g) {i v : Nat} (hi : i < g.length) (hv : v ≤ i) : WF (g.set i (v : Int)) := by
  intro j hj
  have hj' : j < g.length := by simpa using hj
  have := h j hj'
  simp only [List.getD_eq_getElem?_getD, List.getElem?_set] at this ⊢
  split
  · rename_i e; subst e; simp; omega
  · exact this
/-- Path halving turns no root. -/
theorem root_halve {g : List Int} (h : WF g) {i : Nat} (hi : i < g.length) : ∀ j, j < g.length → root (g.set i ((at_ g (at_ g i) : Nat) : Int)) j = root g j := by
  have h1 := h.le hi
  have h2 := h.le (i := at_ g i) (by omega)
  intro j
  induction j using Nat.strongRecOn with
  | _ j ih =>
    intro hj
    have hs := h.le hj
    rw [root, at_set _ _ _ _ hi]
    by_cases e : i = j
    · subst e
      rw [if_pos rfl, Int.toNat_natCast]
      by_cases hl : at_ g i < i
      · rw [dif_pos (by omega), ih _ (by omega) (by omega), root_step h (by omega), root_step h hi]
      · have e1 : at_ g i = i := by omega
        rw [dif_neg (by rw [e1, e1]; omega), root_of_fix e1]
    · rw [if_neg e]
      split
      · rename_i hl
        rw [ih _ hl (by omega), root_step h hj]
      · conv => rhs; rw [root, dif_neg (by omega)]

theorem find_ev : ∀ (i : Nat) (g : List Int), WF g → i < g.length →
    ∃ g', Ev (fun k => cycles_groups_find.l0 k g (i : Int)) ((root g i : Nat), g') ∧ WF g' ∧ g'.length = g.length ∧ ∀ j, j < g.length → root g' j = root g j := by
  intro i
  induction i using Nat.strongRecOn with
  | _ i ih =>
    intro g h hi
    have h1 := h.le hi
    have e1 : rd g (i : Int) = (at_ g i : Int) := by unfold rd; rw [Int.toNat_natCast]; exact h.eq hi
    by_cases hl : at_ g i < i
    · have h2 := h.le (i := at_ g i) (by omega)
      have e2 : rd g (at_ g i : Int) = (at_ g (at_ g i) : Int) := by unfold rd; rw [Int.toNat_natCast]; exact h.eq (by omega)
      obtain ⟨g', hev, w, hl', hr⟩ := ih (at_ g (at_ g i)) (by omega) (g.set i ((at_ g (at_ g i) : Nat) : Int)) (h.set hi (by omega)) (by simp; omega)
      refine ⟨g', ?_, w, by simpa using hl', fun j hj => by rw [hr j (by simpa using hj), root_halve h hi j hj]⟩
      refine Ev.step (f := fun k => cycles_groups_find.l0 k (g.set i ((at_ g (at_ g i) : Nat) : Int)) ((at_ g (at_ g i) : Nat) : Int)) (fun k => ?_) ?_
      · have e4 : rd (g.set i ((at_ g (at_ g i) : Nat) : Int)) (i : Int) = ((at_ g (at_ g i) : Nat) : Int) := by
          unfold rd; rw [Int.toNat_natCast]; simp [List.getD_eq_getElem?_getD, hi]
        simp only [cycles_groups_find.l0]
        rw [if_pos (by omega), if_pos (by omega), if_neg (by rw [e1]; omega), if_pos (by rw [e1]; omega), if_pos (by rw [e1]; omega), Option.bind_some, e1, e2, Int.toNat_natCast, e4]
      · have : root (g.set i ((at_ g (at_ g i) : Nat) : Int)) (at_ g (at_ g i)) = root g i := by
          rw [root_halve h hi _ (by omega), root_step h (by omega), root_step h hi]
        rw [this] at hev
        exact hev
    · have e3 : at_ g i = i := by omega
      refine ⟨g, ?_, h, rfl, fun _ _ => rfl⟩
      rw [root_of_fix e3]
      refine Ev.of (k := 1) (fun k => cycles_groups_find.mono_l k _ _) ?_
      simp only [cycles_groups_find.l0]
      rw [if_pos (by omega), if_pos (by omega), if_pos (by rw [e1]; omega)]

/-- What merge does to the roots. -/
theorem root_join {g : List Int} (h : WF g) {a b : Nat} (_ha : a < g.length) (hb : b < g.length) (hab : a ≤ b) (fa : at_ g a = a) (fb : at_ g b = b) :
    ∀ j, j < g.length → root (g.set b ((a : Nat) : Int)) j = if root g j = b then a else root g j := by
  intro j
  induction j using Nat.strongRecOn with
  | _ j ih =>
    intro hj
    have hs := h.le hj
    rw [root, at_set _ _ _ _ hb]
    by_cases e : b = j
    · subst e
      rw [if_pos rfl, Int.toNat_natCast, root_of_fix fb, if_pos rfl]
      by_cases hl : a < b
      · rw [dif_pos hl, ih a hl (by omega), root_of_fix fa]
        split <;> rfl
      · rw [dif_neg hl]; omega
    · rw [if_neg e]
      split
      · rename_i hl
        rw [ih _ hl (by omega), root_step h hj]
      · have e2 : at_ g j = j := by omega
        rw [root_of_fix e2, if_neg (fun h => e h.symm)]
theorem mx_nat (a b : Nat) : mx (a : Int) (b : Int) = ((max a b : Nat) : Int) := by unfold mx; split <;> omega
theorem mn_nat (a b : Nat) : mn (a : Int) (b : Int) = ((min a b : Nat) : Int) := by unfold mn; split <;> omega
theorem merge_ev (g : List Int) (h : WF g) (i k : Nat) (hi : i < g.length) (hk : k < g.length) :
    ∃ g', Ev (fun n => cycles_groups_merge.f n g (i : Int) (k : Int)) ((root g i : Int) != (root g k : Int), g') ∧ WF g' ∧ g'.length = g.length ∧
      ∀ j, j < g.length → root g' j = if root g j = max (root g i) (root g k) then min (root g i) (root g k) else root g j := by
  obtain ⟨g1, hev1, w1, l1, r1⟩ := find_ev i g h hi
  obtain ⟨g2, hev2, w2, l2, r2⟩ := find_ev k g1 w1 (by omega)
  have rr : ∀ j, j < g.length → root g2 j = root g j := fun j hj => by rw [r2 j (by omega), r1 j hj]
  have li := root_le g i
  have lk := root_le g k
  have e1 := root_fix w2 i (by omega)
  have e2 := root_fix w2 k (by omega)
  rw [rr i hi] at e1
  rw [rr k hk] at e2
  have em : at_ g2 (max (root g i) (root g k)) = max (root g i) (root g k) := by
    rcases Nat.le_total (root g i) (root g k) with c | c
    · rw [Nat.max_eq_right c]; exact e2
    · rw [Nat.max_eq_left c]; exact e1
  have en : at_ g2 (min (root g i) (root g k)) = min (root g i) (root g k) := by
    rcases Nat.le_total (root g i) (root g k) with c | c
    · rw [Nat.min_eq_left c]; exact e1
    · rw [Nat.min_eq_right c]; exact e2
  refine ⟨g2.set (max (root g i) (root g k)) ((min (root g i) (root g k) : Nat) : Int), ?_, w2.set (by omega) (by omega), by simp; omega, fun j hj => ?_⟩
  · have hr1 : root g1 k = root g k := r1 k hk
    rw [hr1] at hev2
    refine Ev.congr (f := fun n => (cycles_groups_find.l0 n g (i : Int)).bind fun x => (cycles_groups_find.l0 n x.2 (k : Int)).bind fun y => (if 0 ≤ (mx x.1 y.1) then (if (mx x.1 y.1) < (g.length : Int) then (some ((x.1 != y.1), (y.2.set ((mx x.1 y.1) : Int).toNat (mn x.1 y.1)))) else (none)) else (none))) (fun n => rfl) ?_
    refine Ev.bind hev1 (Ev.bind hev2 ?_)
    simp only [mx_nat, mn_nat]
    rw [if_pos (by omega), if_pos (by omega), Int.toNat_natCast]
    exact Ev.now _
  · rw [root_join w2 (a := min (root g i) (root g k)) (b := max (root g i) (root g k)) (by omega) (by omega) (by omega) en em j (by omega), rr j hj]

/-- 0, 1, .., n - 1. -/
def idn (n : Nat) : List Int := (List.range n).map (fun (i : Nat) => (i : Int))
theorem idn_getD (n i : Nat) (h : i < n) : (idn n).getD i 0 = (i : Int) := by
  unfold idn
  simp [List.getD_eq_getElem?_getD, h]
theorem idn_length (n : Nat) : (idn n).length = n := by simp [idn]
theorem idn_WF (n : Nat) : WF (idn n) := by
  intro i hi
  rw [idn_length] at hi
  rw [idn_getD n i hi]
  omega
theorem idn_root (n i : Nat) (h : i < n) : root (idn n) i = i := root_of_fix (by unfold at_; rw [idn_getD n i h]; simp)
theorem alone_l0 (n : Nat) (hn : n ≤ 35184372088832) : ∀ (d i : Nat) (x : List Int), i + d = n → x.length = n → (∀ j, j < i → x.getD j 0 = (j : Int)) →
    Ev (fun k => cycles_alone.l0 k x (n : Int) (i : Int)) (idn n) := by
  intro d
  induction d with
  | zero =>
    intro i x hi hx hj
    refine Ev.of (k := 1) (fun k => cycles_alone.mono_l k _ _ _) ?_
    simp only [cycles_alone.l0]
    rw [if_neg (by omega)]
    congr 1
    refine List.ext_getElem (by rw [hx, idn_length]) fun j h1 h2 => ?_
    have := hj j (by omega)
    simp [List.getD_eq_getElem?_getD, h1] at this
    rw [this]
    simp [idn]
  | succ d ih =>
    intro i x hi hx hj
    refine Ev.step (f := fun k => cycles_alone.l0 k (x.set i (i : Int)) (n : Int) ((i + 1 : Nat) : Int)) (fun k => ?_) (ih (i + 1) _ (by omega) (by simpa using hx) ?_)
    · simp only [cycles_alone.l0]
      rw [if_pos (by omega), if_pos (by omega), if_pos (by omega), Int.toNat_natCast]
      congr 1
      unfold wrap64
      omega
    · intro j hj'
      simp only [List.getD_eq_getElem?_getD, List.getElem?_set]
      split
      · rename_i e; subst e; rw [if_pos (by omega)]; rfl
      · have := hj j (by omega)
        simpa [List.getD_eq_getElem?_getD] using this
theorem alone_ev (n : Nat) (hn : n ≤ 35184372088832) : Ev (fun k => cycles_alone.f k (n : Int)) (idn n) := by
  refine Ev.congr (f := fun k => cycles_alone.l0 k (List.replicate n 0) (n : Int) 0) (fun k => ?_) (alone_l0 n hn n 0 _ (by omega) (by simp) (fun j hj => by omega))
  unfold cycles_alone.f
  rw [if_pos (by omega), if_pos (by omega), Int.toNat_natCast]
  simp
end Go.Proofs.Ytbkjplomoegbdaa.UF
