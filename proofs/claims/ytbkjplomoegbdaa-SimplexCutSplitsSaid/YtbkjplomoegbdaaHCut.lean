/- The contract of simplex.cut: the Go code returns 'cutIter's list, for every network, list and arc for which it does not panic. -/
import Derived.Test.YtbkjplomoegbdaaHForest
import Derived.RegionTactic
import Derived.ChangeAlike
namespace Go.Proofs.Ytbkjplomoegbdaa.PB
open Go.RowKit Go.Proofs.Ytbkjplomoegbdaa.UF Go.Proofs.YtbkjplomoegbdaaW.PrintWords Go.Proofs.YtbkjplomoegbdaaW.PrintLast Go.Proofs.YtbkjplomoegbdaaW.PrintMore
set_option linter.unusedVariables false
set_option linter.unusedSimpArgs false

/-- The ends of an activity. -/
def fromOf (acts : List S36) (k : Int) : Nat := (acts.getD k.toNat z36).f1.toNat
def toOf (acts : List S36) (k : Int) : Nat := (acts.getD k.toNat z36).f2.toNat
/-- One pass over the list. -/
def cutPass (acts : List S36) (arc : Int) : List Int → List Bool → Bool → List Bool × Bool
  | [], m, gr => (m, gr)
  | k :: t, m, gr =>
    if k ≠ arc ∧ m.getD (fromOf acts k) false ≠ m.getD (toOf acts k) false then cutPass acts arc t ((m.set (fromOf acts k) true).set (toOf acts k) true) true
    else cutPass acts arc t m gr
def cutIter (acts : List S36) (arc : Int) (tree : List Int) : Nat → List Bool → List Bool
  | 0, m => m
  | n + 1, m => if (cutPass acts arc tree m false).2 then cutIter acts arc tree n (cutPass acts arc tree m false).1 else (cutPass acts arc tree m false).1
/-- Are the indices of an activity in range? -/
def fitB (n : Nat) (acts : List S36) (k : Int) : Bool := decide (0 ≤ k) && decide (k < acts.length) && decide (0 ≤ (acts.getD k.toNat z36).f1) && decide ((acts.getD k.toNat z36).f1 < n) && decide (0 ≤ (acts.getD k.toNat z36).f2) && decide ((acts.getD k.toNat z36).f2 < n)
theorem fitB_iff {n : Nat} {acts : List S36} {k : Int} (h : fitB n acts k = true) : 0 ≤ k ∧ k < acts.length ∧ (acts.getD k.toNat z36).f1 = (fromOf acts k : Int) ∧ fromOf acts k < n ∧ (acts.getD k.toNat z36).f2 = (toOf acts k : Int) ∧ toOf acts k < n := by
  simp [fitB] at h
  unfold fromOf toOf
  simp only [List.getD_eq_getElem?_getD]
  omega
def falses (m : List Bool) : Nat := m.countP (fun b => !b)
theorem falses_set {m : List Bool} {i : Nat} (hi : i < m.length) : falses (m.set i true) = if m.getD i false = false then falses m - 1 else falses m := by
  unfold falses
  rw [List.countP_set hi]
  simp only [List.getD_eq_getElem?_getD, hi, List.getElem?_eq_getElem, Option.getD_some]
  cases m[i] <;> simp
theorem falses_pos {m : List Bool} {i : Nat} (hi : i < m.length) (h : m.getD i false = false) : 0 < falses m := by
  unfold falses
  rw [List.countP_pos_iff]
  exact ⟨m[i], List.getElem_mem hi, by simpa [List.getD_eq_getElem?_getD, hi] using h⟩
theorem cutPass_facts (n : Nat) (acts : List S36) (arc : Int) : ∀ (t : List Int) (m : List Bool) (gr : Bool), m.length = n → (∀ k ∈ t, fitB n acts k = true) →
    (cutPass acts arc t m gr).1.length = n ∧ falses (cutPass acts arc t m gr).1 ≤ falses m ∧ ((cutPass acts arc t m gr).2 = true → gr = true ∨ falses (cutPass acts arc t m gr).1 < falses m)
  | [], m, gr, hl, _ => ⟨hl, Nat.le_refl _, fun h => .inl h⟩
  | k :: t, m, gr, hl, hf => by
    obtain ⟨_, _, _, ha, _, hb⟩ := fitB_iff (hf k (by simp))
    unfold cutPass
    split
    · rename_i hc
      obtain ⟨h1, h2, h3⟩ := cutPass_facts n acts arc t ((m.set (fromOf acts k) true).set (toOf acts k) true) true (by simp [hl]) (fun k hk => hf k (by simp [hk]))
      have e1 := falses_set (m := m) (i := fromOf acts k) (by omega)
      have e2 := falses_set (m := m.set (fromOf acts k) true) (i := toOf acts k) (by simp; omega)
      have hlt : falses ((m.set (fromOf acts k) true).set (toOf acts k) true) < falses m := by
        rw [e2, e1]
        rcases hd : m.getD (fromOf acts k) false with _ | _
        · have := falses_pos (by omega) hd
          simp
          split <;> omega
        · have hd2 : m.getD (toOf acts k) false = false := by
            have := hc.2
            rw [hd] at this
            cases hx : m.getD (toOf acts k) false
            · rfl
            · rw [hx] at this; simp at this
          have := falses_pos (by omega) hd2
          have hne : fromOf acts k ≠ toOf acts k := fun e => by rw [e, hd2] at hd; cases hd
          have hd3 : (m.set (fromOf acts k) true).getD (toOf acts k) false = false := by
            simp only [List.getD_eq_getElem?_getD] at hd2 ⊢
            rw [List.getElem?_set_ne hne]; exact hd2
          rw [if_pos hd3]
          simp
          omega
      exact ⟨h1, by omega, fun _ => .inr (by omega)⟩
    · exact cutPass_facts n acts arc t m gr hl (fun k hk => hf k (by simp [hk]))

/-- What holds of the memory. -/
structure CI (w0 : World) (cs : Array Value) (gv cap : Nat) (bn n : Nat) (W : World) (m : List Bool) : Prop where
  nb : W.heap[bn]? = some (.cells cs 26 (0, 0))
  row : Kd.R Kd.bool 4 W w0.heap.size (fun k => k ≠ bn) (.slice (some ⟨gv, 0, none⟩) n cap) m
  bel : Below w0.heap.size w0 W
  len : m.length = n
namespace CI
variable {w0 : World} {cs : Array Value} {gv cap bn n : Nat} {W : World} {m : List Bool}
theorem drewN (h : CI w0 cs gv cap bn n W m) (k : Nat) : CI w0 cs gv cap bn n (W.drewN k) m := ⟨h.nb, Kd.R_drewN h.row k, pw_below_drewN h.bel k, h.len⟩
theorem alloc (h : CI w0 cs gv cap bn n W m) (o : Obj) : CI w0 cs gv cap bn n (W.alloc o) m := ⟨blk_alloc h.nb o, Kd.R_alloc h.row o, below_alloc h.bel o, h.len⟩
theorem cell (h : CI w0 cs gv cap bn n W m) {i : Nat} (hi : i < n) : W.cell? ⟨gv, i, none⟩ = some (.bool (m.getD i false)) ∧ W.frozen? ⟨gv, i, none⟩ = false := by
  have := Kd.R_celln false h.row (i : Int) (by omega) (by omega)
  rw [Int.toNat_natCast] at this
  simpa [rdOf] using this
theorem put (h : CI w0 cs gv cap bn n W m) {i : Nat} (hi : i < n) (b : Bool) : CI w0 cs gv cap bn n (W.setCell ⟨gv, i, none⟩ (.bool b)) (m.set i b) := by
  have hr := Kd.R_putg h.row (i : Int) b
  rw [Int.toNat_natCast] at hr
  have hg : gv ≠ bn := h.row.1 gv rfl
  have hge : w0.heap.size ≤ gv := Kd.R_base h.row gv rfl
  exact ⟨blk_far h.nb (fun e => hg e.symm) _, hr.1, below_set h.bel hge, by simp [h.len]⟩
theorem start {w : World} {v : Value} (hn : 0 < n) (ho : Kd.R Kd.bool 4 W (w.alloc (.cells cs 26)).heap.size (fun _ => True) v (List.replicate n false)) (hb : Below (w.alloc (.cells cs 26)).heap.size (w.alloc (.cells cs 26)) W) :
    ∃ gv cap, v = .slice (some ⟨gv, 0, none⟩) n cap ∧ CI w cs gv cap w.heap.size n W (List.replicate n false) := by
  obtain ⟨gv, cap, e, hgb, hgl, _⟩ := Kd.R_form ho (by simp; omega)
  rw [List.length_replicate] at e
  subst e
  have hs : (w.alloc (.cells cs 26)).heap.size = w.heap.size + 1 := by simp
  refine ⟨gv, cap, rfl, blk_below (blk_new w (.cells cs 26)) hb, Kd.R_mono (Kd.R_lower (Kd.R_bound ho) (by omega)) (fun k hk => ?_), below_step (below_alloc (Below.refl _ _) _) hb, by simp⟩
  have := hk.2.1
  omega
end CI
end Go.Proofs.Ytbkjplomoegbdaa.PB
