/- The reference's Tree of a valid network is a spanning forest: plain Lean over the printed functions. -/
import Derived.Test.YtbkjplomoegbdaaGraph
import Derived.Test.YtbkjplomoegbdaaHForest2
import Derived.Test.YtbkjplomoegbdaaPBxf32
namespace Go.Proofs.Ytbkjplomoegbdaa.RefTree
open Go.RowKit Go.Proofs.Ytbkjplomoegbdaa.PB Go.Proofs.Ytbkjplomoegbdaa.Graph Go.Proofs.YtbkjplomoegbdaaW.PrintWords Go.Proofs.YtbkjplomoegbdaaW.PrintLast Go.Proofs.YtbkjplomoegbdaaW.PrintMore

theorem in_b (a b c : Int) : railplanref11_in.f a b c = some (decide (b ≤ a) && decide (a ≤ c)) := by
  unfold railplanref11_in.f
  by_cases h : a ≥ b
  · rw [if_pos h]; simp [show b ≤ a from h]
  · rw [if_neg h]; simp [show ¬ b ≤ a from h]
/-- The reference's Check answers as the program's. -/
theorem check_l0 (per : Int) (evs : List S97) (acts : List S36) (he : evs.length ≤ 48) (ha : acts.length ≤ 512) : ∀ (d i : Nat), i + d = acts.length →
    Ev (fun k => railplanref11_Check.l0 k (i : Int) per evs acts) (!((acts.drop i).any (badAct per ((evs.length : Int) - 1)))) := by
  intro d
  induction d with
  | zero =>
    intro i hi
    refine Ev.step (f := fun _ => some true) (fun k => ?_) ?_
    · simp only [railplanref11_Check.l0]
      rw [if_neg (by omega)]
    · rw [List.drop_eq_nil_of_le (by omega)]
      exact Ev.now _
  | succ d ih =>
    intro i hi
    have hd : acts.drop i = acts.getD i z36 :: acts.drop (i + 1) := by
      rw [List.drop_eq_getElem_cons (by omega)]
      simp [List.getD_eq_getElem?_getD, show i < acts.length by omega]
    have key : ∀ k, railplanref11_Check.l0 (k + 1) (i : Int) per evs acts = if badAct per ((evs.length : Int) - 1) (acts.getD i z36) = true then some false else railplanref11_Check.l0 k ((i + 1 : Nat) : Int) per evs acts := by
      intro k
      simp only [railplanref11_Check.l0]
      rw [if_pos (by omega), if_pos (by omega)]
      have hr : rd_T36 acts (i : Int) = acts.getD i z36 := by unfold rd_T36; rw [Int.toNat_natCast]
      have hl : wrap64 ((evs.length : Int) - 1) = (evs.length : Int) - 1 := by unfold wrap64; omega
      have hi1 : wrap64 ((i : Int) + 1) = ((i + 1 : Nat) : Int) := by unfold wrap64; omega
      rw [hr, hl, hi1]
      generalize acts.getD i z36 = a
      generalize (evs.length : Int) - 1 = last
      simp only [in_b, Option.bind_some, badAct, Bool.or_eq_true, Bool.not_eq_true', Bool.and_eq_true, Bool.and_eq_false_iff, decide_eq_true_eq, decide_eq_false_iff_not, beq_iff_eq]
      generalize wrap64 (a.f4 - a.f3) = g
      repeat' split
      all_goals first | rfl | (exfalso; omega)
    by_cases hb : badAct per ((evs.length : Int) - 1) (acts.getD i z36) = true
    · refine Ev.step (f := fun _ => some false) (fun k => by rw [key, if_pos hb]) ?_
      rw [hd, List.any_cons, hb]
      exact Ev.now _
    · refine Ev.step (f := fun k => railplanref11_Check.l0 k ((i + 1 : Nat) : Int) per evs acts) (fun k => by rw [key, if_neg hb]) ?_
      rw [hd, List.any_cons, Bool.eq_false_iff.2 hb, Bool.false_or]
      exact ih (i + 1) (by omega)
theorem check_ev (per : Int) (evs : List S97) (acts : List S36) : Ev (fun k => railplanref11_Check.f k per evs acts) (netOk per evs.length acts) := by
  unfold netOk
  have hj1 : Ev (fun k => railplanref11_Check.j0 k true per evs acts) false := Ev.step (f := fun _ => some false) (fun k => by simp only [railplanref11_Check.j0]; rfl) (Ev.now _)
  by_cases hp : 2 ≤ per ∧ per ≤ 7200
  · by_cases he : evs.length ≤ 48
    · by_cases ha : acts.length ≤ 512
      · refine Ev.congr (f := fun k => railplanref11_Check.j0 k false per evs acts) (fun k => ?_) (Ev.step (f := fun k => railplanref11_Check.l0 k ((0 : Nat) : Int) per evs acts) (fun k => by simp only [railplanref11_Check.j0]; rfl) ?_)
        · unfold railplanref11_Check.f
          rw [in_b, Option.bind_some, if_pos (by simp; omega), if_neg (by omega), decide_eq_false (by omega)]
        · have := check_l0 per evs acts he ha acts.length 0 (by omega)
          simpa [hp.1, hp.2, he, ha] using this
      · refine Ev.congr (f := fun k => railplanref11_Check.j0 k true per evs acts) (fun k => ?_) ?_
        · unfold railplanref11_Check.f
          rw [in_b, Option.bind_some, if_pos (by simp; omega), if_neg (by omega), decide_eq_true (by omega)]
        · simpa [ha] using hj1
    · refine Ev.congr (f := fun k => railplanref11_Check.j0 k true per evs acts) (fun k => ?_) ?_
      · unfold railplanref11_Check.f
        rw [in_b, Option.bind_some, if_pos (by simp; omega), if_pos (by omega)]
      · simpa [he] using hj1
  · refine Ev.congr (f := fun k => railplanref11_Check.j0 k true per evs acts) (fun k => ?_) ?_
    · unfold railplanref11_Check.f
      rw [in_b, Option.bind_some, if_neg (by simp; omega)]
    · have : (decide (2 ≤ per) && decide (per ≤ 7200)) = false := by simp; omega
      simpa [this] using hj1

/-- The labels of the reference's groups tell what the edges connect. -/
def TellsI (n : Nat) (es : List (Nat × Nat)) (g : List Int) : Prop := g.length = n ∧ ∀ i j, i < n → j < n → (g.getD i 0 = g.getD j 0 ↔ Conn es i j)
def mergeL (g : List Int) (a b : Nat) : List Int := g.map fun x => if x = g.getD b 0 then g.getD a 0 else x
theorem arith (x y p q : Int) : ((if x = q then p else x) = (if y = q then p else y)) ↔ (x = y ∨ (x = p ∧ q = y) ∨ (x = q ∧ p = y)) := by
  by_cases hx : x = q <;> by_cases hy : y = q
  · rw [if_pos hx, if_pos hy]; omega
  · rw [if_pos hx, if_neg hy]; omega
  · rw [if_neg hx, if_pos hy]; omega
  · rw [if_neg hx, if_neg hy]; omega
theorem TellsI.merge {n : Nat} {es : List (Nat × Nat)} {g : List Int} {a b : Nat} (h : TellsI n es g) (ha : a < n) (hb : b < n) : TellsI n (es ++ [(a, b)]) (mergeL g a b) := by
  refine ⟨by simp [mergeL, h.1], fun i j hi hj => ?_⟩
  have hl := h.1
  unfold mergeL
  rw [getD_map _ g i 0 0 (by omega), getD_map _ g j 0 0 (by omega)]
  refine (arith _ _ _ _).trans ?_
  rw [h.2 i j hi hj, h.2 i a hi ha, h.2 b j hb hj, h.2 i b hi hb, h.2 a j ha hj]
  show Conn ((a, b) :: es) i j ↔ _
  exact Conn.snoc_iff.symm
theorem merge_l0 (g : List Int) (p q : Int) (hn : g.length ≤ 35184372088832) : ∀ (d i : Nat) (x : List Int), i + d = g.length → x.length = g.length → (∀ j, j < i → x.getD j 0 = if g.getD j 0 = q then p else g.getD j 0) → (∀ j, i ≤ j → x.getD j 0 = g.getD j 0) →
    Ev (fun k => railplanref11_merge.l0 k x p q (g.length : Int) (i : Int)) (true, g.map fun x => if x = q then p else x) := by
  intro d
  induction d with
  | zero =>
    intro i x hi hx h1 h2
    refine Ev.step (f := fun _ => some (true, x)) (fun k => ?_) ?_
    · simp only [railplanref11_merge.l0]
      rw [if_neg (by omega)]
    · have : x = g.map fun x => if x = q then p else x := by
        refine List.ext_getElem (by simp [hx]) fun j a b => ?_
        have := h1 j (by omega)
        simp only [List.getD_eq_getElem?_getD, List.getElem?_eq_getElem a, List.getElem?_eq_getElem (show j < g.length by omega), Option.getD_some] at this
        rw [this, List.getElem_map]
      rw [← this]
      exact Ev.now _
  | succ d ih =>
    intro i x hi hx h1 h2
    have w1 : wrap64 ((i : Int) + 1) = ((i + 1 : Nat) : Int) := by unfold wrap64; omega
    have hr : rd x (i : Int) = g.getD i 0 := by unfold rd; rw [Int.toNat_natCast]; exact h2 i (Nat.le_refl _)
    by_cases c : g.getD i 0 = q
    · refine Ev.step (f := fun k => railplanref11_merge.l0 k (x.set i p) p q (g.length : Int) ((i + 1 : Nat) : Int)) (fun k => ?_) (ih (i + 1) _ (by omega) (by simpa using hx) ?_ ?_)
      · simp only [railplanref11_merge.l0]
        rw [if_pos (by omega), if_pos (by omega), if_pos (by omega), hr, if_pos c, w1, Int.toNat_natCast]
      · intro j hj
        by_cases e : i = j
        · subst e
          rw [if_pos c]
          simp [List.getD_eq_getElem?_getD, show i < x.length by omega]
        · have := h1 j (by omega)
          rw [← this]
          simp only [List.getD_eq_getElem?_getD, List.getElem?_set_ne e]
      · intro j hj
        have := h2 j (by omega)
        rw [← this]
        simp only [List.getD_eq_getElem?_getD, List.getElem?_set_ne (show i ≠ j by omega)]
    · refine Ev.step (f := fun k => railplanref11_merge.l0 k x p q (g.length : Int) ((i + 1 : Nat) : Int)) (fun k => ?_) (ih (i + 1) _ (by omega) hx ?_ (fun j hj => h2 j (by omega)))
      · simp only [railplanref11_merge.l0]
        rw [if_pos (by omega), if_pos (by omega), if_pos (by omega), hr, if_neg c, w1]
      · intro j hj
        by_cases e : i = j
        · subst e
          rw [if_neg c]
          exact h2 i (Nat.le_refl _)
        · exact h1 j (by omega)
theorem merge_ev (g : List Int) (x : S36) (a b : Nat) (ha : x.f1 = (a : Int)) (hb : x.f2 = (b : Int)) (hal : a < g.length) (hbl : b < g.length) (hn : g.length ≤ 35184372088832) :
    Ev (fun k => railplanref11_merge.f k g x.f0 x.f1 x.f2 x.f3 x.f4 x.f5) (if g.getD a 0 = g.getD b 0 then (false, g) else (true, mergeL g a b)) := by
  have h1 : rd g (a : Int) = g.getD a 0 := by unfold rd; rw [Int.toNat_natCast]
  have h2 : rd g (b : Int) = g.getD b 0 := by unfold rd; rw [Int.toNat_natCast]
  by_cases c : g.getD a 0 = g.getD b 0
  · rw [if_pos c]
    refine Ev.congr (f := fun _ => some (false, g)) (fun k => ?_) (Ev.now _)
    unfold railplanref11_merge.f
    rw [ha, hb, if_pos (by omega), if_pos (by omega), if_pos (by omega), if_pos (by omega), h1, h2, if_pos c]
  · rw [if_neg c]
    refine Ev.congr (f := fun k => railplanref11_merge.l0 k g (g.getD a 0) (g.getD b 0) (g.length : Int) ((0 : Nat) : Int)) (fun k => ?_) (merge_l0 g _ _ hn g.length 0 g (by omega) rfl (fun j hj => by omega) (fun j _ => rfl))
    unfold railplanref11_merge.f
    rw [ha, hb, if_pos (by omega), if_pos (by omega), if_pos (by omega), if_pos (by omega), h1, h2, if_neg c]
    rfl
end Go.Proofs.Ytbkjplomoegbdaa.RefTree
