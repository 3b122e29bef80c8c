/- Parts of the proof of CyclesPeriodicity, gathered by a program of this claim out of texts that it or the kit's print wrote: lemmas alone, no condition of their own. -/
import Derived.Test.YtbkjplomoegbdaaCCyclesPeriodicity5
import Derived.Test.YtbkjplomoegbdaaCCyclesPeriodicity9
import Derived.Test.YtbkjplomoegbdaaCCyclesPeriodicity12
import Derived.RegionTactic
import Derived.ChangeAlike
section
namespace Go.Proofs.Ytbkjplomoegbdaa.RefTree
open Go.RowKit Go.Proofs.Ytbkjplomoegbdaa.PB Go.Proofs.Ytbkjplomoegbdaa.Graph Go.Proofs.YtbkjplomoegbdaaW.PrintWords Go.Proofs.YtbkjplomoegbdaaW.PrintLast Go.Proofs.YtbkjplomoegbdaaW.PrintMore
theorem in_b (a b c : Int) : railplanref11_in.f a b c = some (decide (b ≤ a) && decide (a ≤ c)) := by
  unfold railplanref11_in.f
  by_cases h : a ≥ b
  · rw [if_pos h]; simp [show b ≤ a from h]
  · rw [if_neg h]; simp [show ¬ b ≤ a from h]
theorem check_l0 (per : Int) (evs : List S97) (acts : List S36) (he : evs.length ≤ 48) (ha : acts.length ≤ 512) : ∀ (d i : Nat), i + d = acts.length →
    Ev (fun k => railplanref11_Check.l0 k (i : Int) per evs acts) (!((acts.drop i).any (badAct per ((evs.length : Int) - 1)))) := by
  intro d
  induction d with
  | zero =>
    intro i hi
    refine Ev.step (f := fun _ => some true) (fun k => ?_) ?_
    · simp only [railplanref11_Check.l0]
      rw [if_neg (by omega)]
    · rw [List.drop_eq_nil_of_le (by omega)]
      exact Ev.now _
  | succ d ih =>
    intro i hi
    have hd : acts.drop i = acts.getD i z36 :: acts.drop (i + 1) := by
      rw [List.drop_eq_getElem_cons (by omega)]
      simp [List.getD_eq_getElem?_getD, show i < acts.length by omega]
    have key : ∀ k, railplanref11_Check.l0 (k + 1) (i : Int) per evs acts = if badAct per ((evs.length : Int) - 1) (acts.getD i z36) = true then some false else railplanref11_Check.l0 k ((i + 1 : Nat) : Int) per evs acts := by
      intro k
      simp only [railplanref11_Check.l0]
      rw [if_pos (by omega), if_pos (by omega)]
      have hr : rd_T36 acts (i : Int) = acts.getD i z36 := by unfold rd_T36; rw [Int.toNat_natCast]
      have hl : wrap64 ((evs.length : Int) - 1) = (evs.length : Int) - 1 := by unfold wrap64; omega
      have hi1 : wrap64 ((i : Int) + 1) = ((i + 1 : Nat) : Int) := by unfold wrap64; omega
      rw [hr, hl, hi1]
      generalize acts.getD i z36 = a
      generalize (evs.length : Int) - 1 = last
      simp only [in_b, Option.bind_some, badAct, Bool.or_eq_true, Bool.not_eq_true', Bool.and_eq_true, Bool.and_eq_false_iff, decide_eq_true_eq, decide_eq_false_iff_not, beq_iff_eq]
      generalize wrap64 (a.f4 - a.f3) = g
      repeat' split
      all_goals first | rfl | (exfalso; omega)
    by_cases hb : badAct per ((evs.length : Int) - 1) (acts.getD i z36) = true
    · refine Ev.step (f := fun _ => some false) (fun k => by rw [key, if_pos hb]) ?_
      rw [hd, List.any_cons, hb]
      exact Ev.now _
    · refine Ev.step (f := fun k => railplanref11_Check.l0 k ((i + 1 : Nat) : Int) per evs acts) (fun k => by rw [key, if_neg hb]) ?_
      rw [hd, List.any_cons, Bool.eq_false_iff.2 hb, Bool.false_or]
      exact ih (i + 1) (by omega)
theorem check_ev (per : Int) (evs : List S97) (acts : List S36) : Ev (fun k => railplanref11_Check.f k per evs acts) (netOk per evs.length acts) := by
  unfold netOk
  have hj1 : Ev (fun k => railplanref11_Check.j0 k true per evs acts) false := Ev.step (f := fun _ => some false) (fun k => by simp only [railplanref11_Check.j0]; rfl) (Ev.now _)
  by_cases hp : 2 ≤ per ∧ per ≤ 7200
  · by_cases he : evs.length ≤ 48
    · by_cases ha : acts.length ≤ 512
      · refine Ev.congr (f := fun k => railplanref11_Check.j0 k false per evs acts) (fun k => ?_) (Ev.step (f := fun k => railplanref11_Check.l0 k ((0 : Nat) : Int) per evs acts) (fun k => by simp only [railplanref11_Check.j0]; rfl) ?_)
        · unfold railplanref11_Check.f
          rw [in_b, Option.bind_some, if_pos (by simp; omega), if_neg (by omega), decide_eq_false (by omega)]
        · have := check_l0 per evs acts he ha acts.length 0 (by omega)
          simpa [hp.1, hp.2, he, ha] using this
      · refine Ev.congr (f := fun k => railplanref11_Check.j0 k true per evs acts) (fun k => ?_) ?_
        · unfold railplanref11_Check.f
          rw [in_b, Option.bind_some, if_pos (by simp; omega), if_neg (by omega), decide_eq_true (by omega)]
        · simpa [ha] using hj1
    · refine Ev.congr (f := fun k => railplanref11_Check.j0 k true per evs acts) (fun k => ?_) ?_
      · unfold railplanref11_Check.f
        rw [in_b, Option.bind_some, if_pos (by simp; omega), if_pos (by omega)]
      · simpa [he] using hj1
  · refine Ev.congr (f := fun k => railplanref11_Check.j0 k true per evs acts) (fun k => ?_) ?_
    · unfold railplanref11_Check.f
      rw [in_b, Option.bind_some, if_neg (by simp; omega)]
    · have : (decide (2 ≤ per) && decide (per ≤ 7200)) = false := by simp; omega
      simpa [this] using hj1
def TellsI (n : Nat) (es : List (Nat × Nat)) (g : List Int) : Prop := g.length = n ∧ ∀ i j, i < n → j < n → (g.getD i 0 = g.getD j 0 ↔ Conn es i j)
def mergeL (g : List Int) (a b : Nat) : List Int := g.map fun x => if x = g.getD b 0 then g.getD a 0 else x
theorem arith (x y p q : Int) : ((if x = q then p else x) = (if y = q then p else y)) ↔ (x = y ∨ (x = p ∧ q = y) ∨ (x = q ∧ p = y)) := by
  by_cases hx : x = q <;> by_cases hy : y = q
  · rw [if_pos hx, if_pos hy]; omega
  · rw [if_pos hx, if_neg hy]; omega
  · rw [if_neg hx, if_pos hy]; omega
  · rw [if_neg hx, if_neg hy]; omega
theorem TellsI.merge {n : Nat} {es : List (Nat × Nat)} {g : List Int} {a b : Nat} (h : TellsI n es g) (ha : a < n) (hb : b < n) : TellsI n (es ++ [(a, b)]) (mergeL g a b) := by
  refine ⟨by simp [mergeL, h.1], fun i j hi hj => ?_⟩
  have hl := h.1
  unfold mergeL
  rw [getD_map _ g i 0 0 (by omega), getD_map _ g j 0 0 (by omega)]
  refine (arith _ _ _ _).trans ?_
  rw [h.2 i j hi hj, h.2 i a hi ha, h.2 b j hb hj, h.2 i b hi hb, h.2 a j ha hj]
  show Conn ((a, b) :: es) i j ↔ _
  exact Conn.snoc_iff.symm
theorem merge_l0 (g : List Int) (p q : Int) (hn : g.length ≤ 35184372088832) : ∀ (d i : Nat) (x : List Int), i + d = g.length → x.length = g.length → (∀ j, j < i → x.getD j 0 = if g.getD j 0 = q then p else g.getD j 0) → (∀ j, i ≤ j → x.getD j 0 = g.getD j 0) →
    Ev (fun k => railplanref11_merge.l0 k x p q (g.length : Int) (i : Int)) (true, g.map fun x => if x = q then p else x) := by
  intro d
  induction d with
  | zero =>
    intro i x hi hx h1 h2
    refine Ev.step (f := fun _ => some (true, x)) (fun k => ?_) ?_
    · simp only [railplanref11_merge.l0]
      rw [if_neg (by omega)]
    · have : x = g.map fun x => if x = q then p else x := by
        refine List.ext_getElem (by simp [hx]) fun j a b => ?_
        have := h1 j (by omega)
        simp only [List.getD_eq_getElem?_getD, List.getElem?_eq_getElem a, List.getElem?_eq_getElem (show j < g.length by omega), Option.getD_some] at this
        rw [this, List.getElem_map]
      rw [← this]
      exact Ev.now _
  | succ d ih =>
    intro i x hi hx h1 h2
    have w1 : wrap64 ((i : Int) + 1) = ((i + 1 : Nat) : Int) := by unfold wrap64; omega
    have hr : rd x (i : Int) = g.getD i 0 := by unfold rd; rw [Int.toNat_natCast]; exact h2 i (Nat.le_refl _)
    by_cases c : g.getD i 0 = q
    · refine Ev.step (f := fun k => railplanref11_merge.l0 k (x.set i p) p q (g.length : Int) ((i + 1 : Nat) : Int)) (fun k => ?_) (ih (i + 1) _ (by omega) (by simpa using hx) ?_ ?_)
      · simp only [railplanref11_merge.l0]
        rw [if_pos (by omega), if_pos (by omega), if_pos (by omega), hr, if_pos c, w1, Int.toNat_natCast]
      · intro j hj
        by_cases e : i = j
        · subst e
          rw [if_pos c]
          simp [List.getD_eq_getElem?_getD, show i < x.length by omega]
        · have := h1 j (by omega)
          rw [← this]
          simp only [List.getD_eq_getElem?_getD, List.getElem?_set_ne e]
      · intro j hj
        have := h2 j (by omega)
        rw [← this]
        simp only [List.getD_eq_getElem?_getD, List.getElem?_set_ne (show i ≠ j by omega)]
    · refine Ev.step (f := fun k => railplanref11_merge.l0 k x p q (g.length : Int) ((i + 1 : Nat) : Int)) (fun k => ?_) (ih (i + 1) _ (by omega) hx ?_ (fun j hj => h2 j (by omega)))
      · simp only [railplanref11_merge.l0]
        rw [if_pos (by omega), if_pos (by omega), if_pos (by omega), hr, if_neg c, w1]
      · intro j hj
        by_cases e : i = j
        · subst e
          rw [if_neg c]
          exact h2 i (Nat.le_refl _)
        · exact h1 j (by omega)
theorem merge_ev (g : List Int) (x : S36) (a b : Nat) (ha : x.f1 = (a : Int)) (hb : x.f2 = (b : Int)) (hal : a < g.length) (hbl : b < g.length) (hn : g.length ≤ 35184372088832) :
    Ev (fun k => railplanref11_merge.f k g x.f0 x.f1 x.f2 x.f3 x.f4 x.f5) (if g.getD a 0 = g.getD b 0 then (false, g) else (true, mergeL g a b)) := by
  have h1 : rd g (a : Int) = g.getD a 0 := by unfold rd; rw [Int.toNat_natCast]
  have h2 : rd g (b : Int) = g.getD b 0 := by unfold rd; rw [Int.toNat_natCast]
  by_cases c : g.getD a 0 = g.getD b 0
  · rw [if_pos c]
    refine Ev.congr (f := fun _ => some (false, g)) (fun k => ?_) (Ev.now _)
    unfold railplanref11_merge.f
    rw [ha, hb, if_pos (by omega), if_pos (by omega), if_pos (by omega), if_pos (by omega), h1, h2, if_pos c]
  · rw [if_neg c]
    refine Ev.congr (f := fun k => railplanref11_merge.l0 k g (g.getD a 0) (g.getD b 0) (g.length : Int) ((0 : Nat) : Int)) (fun k => ?_) (merge_l0 g _ _ hn g.length 0 g (by omega) rfl (fun j hj => by omega) (fun j _ => rfl))
    unfold railplanref11_merge.f
    rw [ha, hb, if_pos (by omega), if_pos (by omega), if_pos (by omega), if_pos (by omega), h1, h2, if_neg c]
    rfl
end Go.Proofs.Ytbkjplomoegbdaa.RefTree
end
section
namespace Go.Proofs.Ytbkjplomoegbdaa.PB
open Go.RowKit Go.Proofs.Ytbkjplomoegbdaa.UF Go.Proofs.YtbkjplomoegbdaaW.PrintWords Go.Proofs.YtbkjplomoegbdaaW.PrintLast Go.Proofs.YtbkjplomoegbdaaW.PrintMore
set_option linter.unusedVariables false
set_option linter.unusedSimpArgs false
def fromOf (acts : List S36) (k : Int) : Nat := (acts.getD k.toNat z36).f1.toNat
def toOf (acts : List S36) (k : Int) : Nat := (acts.getD k.toNat z36).f2.toNat
def fitB (n : Nat) (acts : List S36) (k : Int) : Bool := decide (0 ≤ k) && decide (k < acts.length) && decide (0 ≤ (acts.getD k.toNat z36).f1) && decide ((acts.getD k.toNat z36).f1 < n) && decide (0 ≤ (acts.getD k.toNat z36).f2) && decide ((acts.getD k.toNat z36).f2 < n)
theorem fitB_iff {n : Nat} {acts : List S36} {k : Int} (h : fitB n acts k = true) : 0 ≤ k ∧ k < acts.length ∧ (acts.getD k.toNat z36).f1 = (fromOf acts k : Int) ∧ fromOf acts k < n ∧ (acts.getD k.toNat z36).f2 = (toOf acts k : Int) ∧ toOf acts k < n := by
  simp [fitB] at h
  unfold fromOf toOf
  simp only [List.getD_eq_getElem?_getD]
  omega
def falses (m : List Bool) : Nat := m.countP (fun b => !b)
theorem falses_set {m : List Bool} {i : Nat} (hi : i < m.length) : falses (m.set i true) = if m.getD i false = false then falses m - 1 else falses m := by
  unfold falses
  rw [List.countP_set hi]
  simp only [List.getD_eq_getElem?_getD, hi, List.getElem?_eq_getElem, Option.getD_some]
  cases m[i] <;> simp
theorem falses_pos {m : List Bool} {i : Nat} (hi : i < m.length) (h : m.getD i false = false) : 0 < falses m := by
  unfold falses
  rw [List.countP_pos_iff]
  exact ⟨m[i], List.getElem_mem hi, by simpa [List.getD_eq_getElem?_getD, hi] using h⟩
structure CI (w0 : World) (cs : Array Value) (gv cap : Nat) (bn n : Nat) (W : World) (m : List Bool) : Prop where
  nb : W.heap[bn]? = some (.cells cs 26 (0, 0))
  row : Kd.R Kd.bool 4 W w0.heap.size (fun k => k ≠ bn) (.slice (some ⟨gv, 0, none⟩) n cap) m
  bel : Below w0.heap.size w0 W
  len : m.length = n
namespace CI
variable {w0 : World} {cs : Array Value} {gv cap bn n : Nat} {W : World} {m : List Bool}
theorem drewN (h : CI w0 cs gv cap bn n W m) (k : Nat) : CI w0 cs gv cap bn n (W.drewN k) m := ⟨h.nb, Kd.R_drewN h.row k, pw_below_drewN h.bel k, h.len⟩
theorem alloc (h : CI w0 cs gv cap bn n W m) (o : Obj) : CI w0 cs gv cap bn n (W.alloc o) m := ⟨blk_alloc h.nb o, Kd.R_alloc h.row o, below_alloc h.bel o, h.len⟩
theorem cell (h : CI w0 cs gv cap bn n W m) {i : Nat} (hi : i < n) : W.cell? ⟨gv, i, none⟩ = some (.bool (m.getD i false)) ∧ W.frozen? ⟨gv, i, none⟩ = false := by
  have := Kd.R_celln false h.row (i : Int) (by omega) (by omega)
  rw [Int.toNat_natCast] at this
  simpa [rdOf] using this
theorem put (h : CI w0 cs gv cap bn n W m) {i : Nat} (hi : i < n) (b : Bool) : CI w0 cs gv cap bn n (W.setCell ⟨gv, i, none⟩ (.bool b)) (m.set i b) := by
  have hr := Kd.R_putg h.row (i : Int) b
  rw [Int.toNat_natCast] at hr
  have hg : gv ≠ bn := h.row.1 gv rfl
  have hge : w0.heap.size ≤ gv := Kd.R_base h.row gv rfl
  exact ⟨blk_far h.nb (fun e => hg e.symm) _, hr.1, below_set h.bel hge, by simp [h.len]⟩
theorem start {w : World} {v : Value} (hn : 0 < n) (ho : Kd.R Kd.bool 4 W (w.alloc (.cells cs 26)).heap.size (fun _ => True) v (List.replicate n false)) (hb : Below (w.alloc (.cells cs 26)).heap.size (w.alloc (.cells cs 26)) W) :
    ∃ gv cap, v = .slice (some ⟨gv, 0, none⟩) n cap ∧ CI w cs gv cap w.heap.size n W (List.replicate n false) := by
  obtain ⟨gv, cap, e, hgb, hgl, _⟩ := Kd.R_form ho (by simp; omega)
  rw [List.length_replicate] at e
  subst e
  have hs : (w.alloc (.cells cs 26)).heap.size = w.heap.size + 1 := by simp
  refine ⟨gv, cap, rfl, blk_below (blk_new w (.cells cs 26)) hb, Kd.R_mono (Kd.R_lower (Kd.R_bound ho) (by omega)) (fun k hk => ?_), below_step (below_alloc (Below.refl _ _) _) hb, by simp⟩
  have := hk.2.1
  omega
end CI
end Go.Proofs.Ytbkjplomoegbdaa.PB
end
section
namespace Go.Proofs.Ytbkjplomoegbdaa.RefTree
open Go.RowKit Go.Proofs.Ytbkjplomoegbdaa.PB Go.Proofs.Ytbkjplomoegbdaa.Graph Go.Proofs.Ytbkjplomoegbdaa.UF Go.Proofs.YtbkjplomoegbdaaW.PrintWords Go.Proofs.YtbkjplomoegbdaaW.PrintLast Go.Proofs.YtbkjplomoegbdaaW.PrintMore
def edge (acts : List S36) (i : Nat) : Nat × Nat := ((acts.getD i z36).f1.toNat, (acts.getD i z36).f2.toNat)
def edges (acts : List S36) (K : List Nat) : List (Nat × Nat) := K.map (edge acts)
def dur (acts : List S36) (i : Nat) : Int := wrap64 ((acts.getD i z36).f4 - (acts.getD i z36).f3)
theorem getD_mem' {acts : List S36} {i : Nat} (h : i < acts.length) : acts.getD i z36 ∈ acts := by
  simp [List.getD_eq_getElem?_getD, h]
theorem edge_ok {per : Int} {n : Nat} {acts : List S36} (h : netOk per n acts = true) {i : Nat} (hi : i < acts.length) :
    (acts.getD i z36).f1 = ((edge acts i).1 : Int) ∧ (acts.getD i z36).f2 = ((edge acts i).2 : Int) ∧ (edge acts i).1 < n ∧ (edge acts i).2 < n ∧ 0 ≤ dur acts i ∧ dur acts i < per ∧ (edge acts i).1 ≠ (edge acts i).2 := by
  simp only [netOk, Bool.and_eq_true, Bool.not_eq_true', List.any_eq_false] at h
  have := h.2 _ (getD_mem' hi)
  simp only [badAct, Bool.or_eq_true, Bool.not_eq_true', Bool.and_eq_false_iff, decide_eq_true_eq, decide_eq_false_iff_not, beq_iff_eq, not_or] at this
  unfold edge dur
  unfold wrap64 at this ⊢
  simp only
  omega
theorem edges_sub {acts : List S36} {K K' : List Nat} (h : ∀ i, i ∈ K → i ∈ K') {a b : Nat} (hc : Conn (edges acts K) a b) : Conn (edges acts K') a b := Conn.sub (fun x hx => by
  obtain ⟨i, hi, e⟩ := List.mem_map.1 hx
  exact List.mem_map.2 ⟨i, h i hi, e⟩) hc
theorem edges_lt {per : Int} {n : Nat} {acts : List S36} (h : netOk per n acts = true) {K : List Nat} (hK : ∀ i ∈ K, i < acts.length) : ∀ e ∈ edges acts K, e.1 < n ∧ e.2 < n := by
  intro e he
  obtain ⟨i, hi, rfl⟩ := List.mem_map.1 he
  have := edge_ok h (hK i hi)
  exact ⟨this.2.2.1, this.2.2.2.1⟩
structure KI (n : Nat) (acts : List S36) (g : List Int) (m : List Bool) (K : List Nat) : Prop where
  tells : TellsI n (edges acts K) g
  len : m.length = acts.length
  marks : ∀ i, i < acts.length → (m.getD i false = true ↔ i ∈ K)
  bound : ∀ i ∈ K, i < acts.length
  nodup : K.Nodup
  win : wins (edges acts K) (List.range n) = K.length
theorem KI.add {per : Int} {n : Nat} {acts : List S36} {g : List Int} {m : List Bool} {K : List Nat} (h : KI n acts g m K) (hok : netOk per n acts = true) {i : Nat} (hi : i < acts.length) (hne : g.getD (edge acts i).1 0 ≠ g.getD (edge acts i).2 0) :
    KI n acts (mergeL g (edge acts i).1 (edge acts i).2) (m.set i true) (K ++ [i]) := by
  obtain ⟨_, _, e1, e2, _⟩ := edge_ok hok hi
  have hc : ¬ Conn (edges acts K) (edge acts i).1 (edge acts i).2 := fun hc => hne ((h.tells.2 _ _ e1 e2).2 hc)
  have hni : i ∉ K := fun hK => hc (Conn.mem (List.mem_map.2 ⟨i, hK, rfl⟩))
  have he : edges acts (K ++ [i]) = edges acts K ++ [edge acts i] := by simp [edges]
  refine ⟨?_, by simpa using h.len, fun j hj => ?_, fun j hj => ?_, ?_, ?_⟩
  · rw [he]; exact h.tells.merge e1 e2
  · have := h.marks j hj
    have hl := h.len
    by_cases e : i = j
    · subst e
      simp [List.getD_eq_getElem?_getD, show i < m.length by omega]
    · simp only [List.getD_eq_getElem?_getD, List.getElem?_set_ne e, List.mem_append, List.mem_singleton] at this ⊢
      rw [this]
      exact ⟨.inl, fun h => h.resolve_right (fun h => e h.symm)⟩
  · rcases List.mem_append.1 hj with hj | hj
    · exact h.bound j hj
    · rw [List.mem_singleton.1 hj]; exact hi
  · rw [List.nodup_append]
    refine ⟨h.nodup, by simp, ?_⟩
    intro a ha b hb hab
    rw [List.mem_singleton.1 hb] at hab
    exact hni (hab ▸ ha)
  · rw [he]
    have := wins_snoc (edges_lt hok h.bound) ⟨e1, e2⟩ (h.win.trans (by simp [edges])) hc
    rw [this]
    simp [edges]
theorem l2_facts {acts : List S36} (hal : acts.length ≤ 512) {i : Nat} (hi : i < acts.length) : wrap64 ((i : Int) + 1) = ((i + 1 : Nat) : Int) ∧ rd_T36 acts (i : Int) = acts.getD i z36 ∧ (i : Int) < (acts.length : Int) ∧ (0 : Int) ≤ (i : Int) := by
  refine ⟨by unfold wrap64; omega, by unfold rd_T36; rw [Int.toNat_natCast], by omega, by omega⟩
theorem l2_other {per : Int} {evs : List S97} {acts : List S36} (hal : acts.length ≤ 512) {x6 : Int} {i : Nat} {g : List Int} {m : List Bool} (hi : i < acts.length) (c : dur acts i ≠ x6) {r : List Int}
    (hr : Ev (fun k => railplanref11_Tree.l2 k g m x6 ((i + 1 : Nat) : Int) per evs acts) r) : Ev (fun k => railplanref11_Tree.l2 k g m x6 (i : Int) per evs acts) r := by
  obtain ⟨w1, h1, h2, h3⟩ := l2_facts hal hi
  refine Ev.step (fun k => ?_) hr
  simp only [railplanref11_Tree.l2]
  rw [if_pos h2, if_pos h3, h1, if_neg (show ¬ wrap64 ((acts.getD i z36).f4 - (acts.getD i z36).f3) = x6 from c), w1]
theorem l2_take {per : Int} {evs : List S97} {acts : List S36} (hok : netOk per evs.length acts = true) (hev : evs.length ≤ 48) (hal : acts.length ≤ 512) {x6 : Int} {i : Nat} {g : List Int} {m : List Bool} (hi : i < acts.length) (hg : g.length = evs.length) (hm : m.length = acts.length) (c : dur acts i = x6) {r : List Int}
    (hr : Ev (fun k => railplanref11_Tree.l2 k (if g.getD (edge acts i).1 0 = g.getD (edge acts i).2 0 then g else mergeL g (edge acts i).1 (edge acts i).2) (if g.getD (edge acts i).1 0 = g.getD (edge acts i).2 0 then m else m.set i true) x6 ((i + 1 : Nat) : Int) per evs acts) r) : Ev (fun k => railplanref11_Tree.l2 k g m x6 (i : Int) per evs acts) r := by
  obtain ⟨w1, h1, h2, h3⟩ := l2_facts hal hi
  obtain ⟨f1, f2, e1, e2, _⟩ := edge_ok hok hi
  have hmg := merge_ev g (acts.getD i z36) _ _ f1 f2 (by omega) (by omega) (by omega)
  have h4 : (i : Int) < (m.length : Int) := by omega
  have hb : ∀ k, railplanref11_Tree.l2 (k + 1) g m x6 (i : Int) per evs acts = (railplanref11_merge.f k g (acts.getD i z36).f0 (acts.getD i z36).f1 (acts.getD i z36).f2 (acts.getD i z36).f3 (acts.getD i z36).f4 (acts.getD i z36).f5).bind fun bt163 => if bt163.1 = true then (railplanref11_Tree.l2 k bt163.2 (m.set i true) x6 ((i + 1 : Nat) : Int) per evs acts) else (railplanref11_Tree.l2 k bt163.2 m x6 ((i + 1 : Nat) : Int) per evs acts) := by
    intro k
    simp only [railplanref11_Tree.l2]
    rw [if_pos h2, if_pos h3, h1, if_pos (show wrap64 ((acts.getD i z36).f4 - (acts.getD i z36).f3) = x6 from c), w1]
    simp only [if_pos h4, Int.toNat_natCast]
  refine Ev.step hb (Ev.bind hmg ?_)
  by_cases cc : g.getD (edge acts i).1 0 = g.getD (edge acts i).2 0
  · simp only [if_pos cc] at hr ⊢
    simp only [Bool.false_eq_true, if_false]
    exact hr
  · simp only [if_neg cc] at hr ⊢
    simp only [if_true]
    exact hr
theorem l2_ev {per : Int} {evs : List S97} {acts : List S36} (hok : netOk per evs.length acts = true) (hev : evs.length ≤ 48) (hal : acts.length ≤ 512) (x6 : Int) :
    ∀ (d i : Nat) (g : List Int) (m : List Bool) (K : List Nat), i + d = acts.length → KI evs.length acts g m K →
      ∃ g' m' K', KI evs.length acts g' m' K' ∧ (∀ j, j ∈ K → j ∈ K') ∧ (∀ j, i ≤ j → j < acts.length → dur acts j = x6 → Conn (edges acts K') (edge acts j).1 (edge acts j).2) ∧
        ∀ r, Ev (fun k => railplanref11_Tree.l1 k g' m' (wrap64 (x6 + 1)) per evs acts) r → Ev (fun k => railplanref11_Tree.l2 k g m x6 (i : Int) per evs acts) r := by
  intro d
  induction d with
  | zero =>
    intro i g m K hi h
    refine ⟨g, m, K, h, fun _ h => h, fun j h1 h2 => by omega, fun r hr => Ev.step (fun k => ?_) hr⟩
    simp only [railplanref11_Tree.l2]
    rw [if_neg (by omega)]
  | succ d ih =>
    intro i g m K hi h
    have hil : i < acts.length := by omega
    have hor : ∀ j, i ≤ j → i + 1 ≤ j ∨ j = i := fun j _ => by omega
    by_cases c : dur acts i = x6
    · have ht := fun r => l2_take (r := r) hok hev hal hil h.tells.1 h.len c
      by_cases cc : g.getD (edge acts i).1 0 = g.getD (edge acts i).2 0
      · simp only [if_pos cc] at ht
        obtain ⟨g', m', K', h', hs, hcn, hev'⟩ := ih (i + 1) g m K (by omega) h
        refine ⟨g', m', K', h', hs, fun j h1 h2 h3 => ?_, fun r hr => ht r (hev' r hr)⟩
        rcases hor j h1 with hij | rfl
        · exact hcn j hij h2 h3
        · obtain ⟨_, _, e1, e2, _⟩ := edge_ok hok hil
          exact edges_sub hs ((h.tells.2 _ _ e1 e2).1 cc)
      · simp only [if_neg cc] at ht
        obtain ⟨g', m', K', h', hs, hcn, hev'⟩ := ih (i + 1) _ _ _ (by omega) (h.add hok hil cc)
        refine ⟨g', m', K', h', fun j hj => hs j (List.mem_append_left _ hj), fun j h1 h2 h3 => ?_, fun r hr => ht r (hev' r hr)⟩
        rcases hor j h1 with hij | rfl
        · exact hcn j hij h2 h3
        · exact Conn.mem (List.mem_map.2 ⟨j, hs j (List.mem_append_right _ (List.mem_singleton.2 rfl)), rfl⟩)
    · obtain ⟨g', m', K', h', hs, hcn, hev'⟩ := ih (i + 1) g m K (by omega) h
      refine ⟨g', m', K', h', hs, fun j h1 h2 h3 => ?_, fun r hr => l2_other hal hil c (hev' r hr)⟩
      rcases hor j h1 with hij | rfl
      · exact hcn j hij h2 h3
      · exact absurd h3 c
theorem l1_ev {per : Int} {evs : List S97} {acts : List S36} (hok : netOk per evs.length acts = true) (hev : evs.length ≤ 48) (hal : acts.length ≤ 512) (hp : 2 ≤ per ∧ per ≤ 7200) :
    ∀ (d i : Nat) (g : List Int) (m : List Bool) (K : List Nat), (i : Int) + d = per → KI evs.length acts g m K →
      ∃ g' m' K', KI evs.length acts g' m' K' ∧ (∀ j, j ∈ K → j ∈ K') ∧ (∀ j, j < acts.length → (i : Int) ≤ dur acts j → Conn (edges acts K') (edge acts j).1 (edge acts j).2) ∧
        ∀ r, Ev (fun k => railplanref11_Tree.l3 k m' [] (m'.length : Int) 0) r → Ev (fun k => railplanref11_Tree.l1 k g m (i : Int) per evs acts) r := by
  intro d
  induction d with
  | zero =>
    intro i g m K hi h
    refine ⟨g, m, K, h, fun _ h => h, fun j h1 h2 => ?_, fun r hr => Ev.step (fun k => ?_) hr⟩
    · have := edge_ok hok h1
      omega
    · simp only [railplanref11_Tree.l1]
      rw [if_neg (by omega)]
  | succ d ih =>
    intro i g m K hi h
    obtain ⟨g1, m1, K1, h1, s1, c1, ev1⟩ := l2_ev hok hev hal (i : Int) acts.length 0 g m K (by omega) h
    obtain ⟨g2, m2, K2, h2, s2, c2, ev2⟩ := ih (i + 1) g1 m1 K1 (by omega) h1
    have w1 : wrap64 ((i : Int) + 1) = ((i + 1 : Nat) : Int) := by unfold wrap64; omega
    rw [w1] at ev1
    refine ⟨g2, m2, K2, h2, fun j hj => s2 j (s1 j hj), fun j hj hd => ?_, fun r hr => Ev.step (fun k => ?_) (ev1 r (ev2 r hr))⟩
    · by_cases c : dur acts j = (i : Int)
      · exact edges_sub s2 (c1 j (by omega) hj c)
      · exact c2 j hj (by omega)
    · simp only [railplanref11_Tree.l1]
      rw [if_pos (by omega)]
      rfl
theorem l3_ev (m : List Bool) (hm : m.length ≤ 512) : ∀ (d i : Nat) (x : List Int), i + d = m.length → x.length ≤ i →
    Ev (fun k => railplanref11_Tree.l3 k m x (m.length : Int) (i : Int)) (x ++ ((List.range' i d).filter fun j => m.getD j false).map fun (j : Nat) => (j : Int)) := by
  intro d
  induction d with
  | zero =>
    intro i x hi hx
    refine Ev.step (f := fun _ => some x) (fun k => ?_) ?_
    · simp only [railplanref11_Tree.l3]
      rw [if_neg (by omega)]
    · simp only [List.range'_zero, List.filter_nil, List.map_nil, List.append_nil]
      exact Ev.now _
  | succ d ih =>
    intro i x hi hx
    have w1 : wrap64 ((i : Int) + 1) = ((i + 1 : Nat) : Int) := by unfold wrap64; omega
    have hr : rdOf false m (i : Int) = m.getD i false := by unfold rdOf; rw [Int.toNat_natCast]
    rw [List.range'_succ, List.filter_cons]
    by_cases c : m.getD i false = true
    · rw [if_pos c]
      refine Ev.step (fun k => ?_) (by simpa using ih (i + 1) (x ++ [(i : Int)]) (by omega) (by simp; omega))
      simp only [railplanref11_Tree.l3]
      rw [if_pos (by omega), if_pos (by omega), if_pos (by omega), hr, if_pos c, if_pos (by omega), w1]
      rfl
    · rw [if_neg c]
      refine Ev.step (fun k => ?_) (ih (i + 1) x (by omega) (by omega))
      simp only [railplanref11_Tree.l3]
      rw [if_pos (by omega), if_pos (by omega), if_pos (by omega), hr, if_neg c, w1]
theorem l0_ev {per : Int} {evs : List S97} {acts : List S36} (n : Nat) (hn : n ≤ 48) (ha : acts.length ≤ 512) (r : List Int) (hr : Ev (fun k => railplanref11_Tree.l1 k (idn n) (List.replicate acts.length false) 0 per evs acts) r) : ∀ (d i : Nat) (x : List Int), i + d = n → x.length = n → (∀ j, j < i → x.getD j 0 = (j : Int)) →
    Ev (fun k => railplanref11_Tree.l0 k x (n : Int) (i : Int) per evs acts) r := by
  intro d
  induction d with
  | zero =>
    intro i x hi hx hj
    have e : x = idn n := by
      refine List.ext_getElem (by rw [hx, idn_length]) fun j h1 h2 => ?_
      have := hj j (by omega)
      simp [List.getD_eq_getElem?_getD, h1] at this
      rw [this]
      simp [idn]
    subst e
    refine Ev.step (fun k => ?_) hr
    simp only [railplanref11_Tree.l0]
    rw [if_neg (by omega), if_pos (by omega), if_pos (by omega), Int.toNat_natCast]
  | succ d ih =>
    intro i x hi hx hj
    refine Ev.step (f := fun k => railplanref11_Tree.l0 k (x.set i (i : Int)) (n : Int) ((i + 1 : Nat) : Int) per evs acts) (fun k => ?_) (ih (i + 1) _ (by omega) (by simpa using hx) ?_)
    · simp only [railplanref11_Tree.l0]
      rw [if_pos (by omega), if_pos (by omega), if_pos (by omega), Int.toNat_natCast]
      congr 1
      unfold wrap64
      omega
    · intro j hj'
      simp only [List.getD_eq_getElem?_getD, List.getElem?_set]
      split
      · rename_i e; subst e; rw [if_pos (by omega)]; rfl
      · have := hj j (by omega)
        simpa [List.getD_eq_getElem?_getD] using this
theorem tree_ev {per : Int} {evs : List S97} {acts : List S36} (hok : netOk per evs.length acts = true) :
    ∃ T : List Nat, Ev (fun k => railplanref11_Tree.f k per evs acts) (T.map fun (i : Nat) => (i : Int)) ∧ T.Pairwise (· < ·) ∧ (∀ i ∈ T, i < acts.length) ∧ wins (edges acts T) (List.range evs.length) = T.length ∧
      ∀ j, j < acts.length → Conn (edges acts T) (edge acts j).1 (edge acts j).2 := by
  have hok' := hok
  simp only [netOk, Bool.and_eq_true, decide_eq_true_eq] at hok'
  obtain ⟨⟨⟨⟨hp1, hp2⟩, hev⟩, hal⟩, _⟩ := hok'
  have start : KI evs.length acts (idn evs.length) (List.replicate acts.length false) [] := by
    refine ⟨⟨idn_length _, fun i j hi hj => ?_⟩, by simp, fun i hi => ?_, by simp, by simp, rfl⟩
    · rw [idn_getD _ _ hi, idn_getD _ _ hj]
      exact ⟨fun h => show i = j by omega, fun h => by rw [show i = j from h]⟩
    · simp [List.getD_eq_getElem?_getD, hi]
  obtain ⟨g, m, K, h, _, hc, hev1⟩ := l1_ev hok hev hal ⟨hp1, hp2⟩ per.toNat 0 _ _ _ (by omega) start
  have hml := h.len
  have h3 := hev1 _ (l3_ev m (by omega) m.length 0 [] (by omega) (by simp))
  have hmem : ∀ i, i ∈ (List.range' 0 m.length).filter (fun j => m.getD j false) ↔ i ∈ K := by
    intro i
    rw [List.mem_filter, List.mem_range'_1]
    constructor
    · rintro ⟨⟨_, h1⟩, h2⟩
      exact (h.marks i (by omega)).1 h2
    · intro hi
      have := h.bound i hi
      exact ⟨⟨by omega, by omega⟩, (h.marks i this).2 hi⟩
  have hnd : ((List.range' 0 m.length).filter (fun j => m.getD j false)).Nodup := List.Pairwise.filter _ (List.nodup_range')
  have hperm := (List.perm_ext_iff_of_nodup hnd h.nodup).2 hmem
  have hb : ∀ i ∈ (List.range' 0 m.length).filter (fun j => m.getD j false), i < acts.length := fun i hi => h.bound i ((hmem i).1 hi)
  refine ⟨(List.range' 0 m.length).filter (fun j => m.getD j false), ?_, List.Pairwise.filter _ (List.pairwise_lt_range'), hb, ?_, fun j hj => ?_⟩
  · refine Ev.congr (f := fun k => (railplanref11_Check.f k per evs acts).bind fun t153 => (if t153 = true then (railplanref11_Tree.l0 k (List.replicate evs.length 0) (evs.length : Int) 0 per evs acts) else (some ([] : List Int)))) (fun k => ?_) (Ev.bind (check_ev per evs acts) ?_)
    · unfold railplanref11_Tree.f
      rw [if_pos (by omega), if_pos (by omega), Int.toNat_natCast, Option.bind_some, List.length_replicate]
    · rw [hok]
      simp only [if_true]
      exact l0_ev evs.length hev hal _ (by simpa using h3) evs.length 0 _ (by omega) (by simp) (fun j hj => by omega)
  · rw [(wins_perm (edges_lt hok hb) (edges_lt hok h.bound) (fun i j _ _ => ⟨edges_sub fun i hi => (hmem i).1 hi, edges_sub fun i hi => (hmem i).2 hi⟩)).1, h.win, hperm.length_eq]
  · exact edges_sub (fun i hi => (hmem i).2 hi) (hc j hj (edge_ok hok hj).2.2.2.2.1)
end Go.Proofs.Ytbkjplomoegbdaa.RefTree
end
