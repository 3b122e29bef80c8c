/- The marks of a cut of a spanning forest: it holds To, not From, and no other activity of the forest crosses it. -/
import Derived.Test.YtbkjplomoegbdaaRefTree2
import Derived.Test.YtbkjplomoegbdaaHCut2
import Derived.Test.YtbkjplomoegbdaaPBxf35
namespace Go.Proofs.Ytbkjplomoegbdaa.CutLaw
open Go.RowKit Go.Proofs.Ytbkjplomoegbdaa.PB Go.Proofs.Ytbkjplomoegbdaa.Graph Go.Proofs.Ytbkjplomoegbdaa.RefTree Go.Proofs.YtbkjplomoegbdaaW.PrintWords Go.Proofs.YtbkjplomoegbdaaW.PrintLast Go.Proofs.YtbkjplomoegbdaaW.PrintMore

/-- A list as the code has it. -/
def ints (T : List Nat) : List Int := T.map fun (i : Nat) => (i : Int)
theorem forestGo_of (acts : List S36) : ∀ (T : List Nat) (last : Int) (L : List Nat), (∀ i ∈ T, last < (i : Int) ∧ i < acts.length) → T.Pairwise (· < ·) → wins (edges acts T) L = T.length → forestGo acts (ints T) last L = some (run (edges acts T) L)
  | [], _, _, _, _, _ => rfl
  | i :: t, last, L, hb, hp, hw => by
    obtain ⟨h1, h2⟩ := hb i (by simp)
    have hp' := List.pairwise_cons.1 hp
    have hle := wins_le (edges acts t) (join L (edge acts i).1 (edge acts i).2)
    simp only [edges, List.map_cons, wins, List.length_cons, List.length_map] at hw hle
    have hne : ¬ L.getD (edge acts i).1 0 = L.getD (edge acts i).2 0 := by
      intro h
      rw [if_pos h] at hw
      omega
    rw [if_neg hne] at hw
    have ih := forestGo_of acts t (i : Int) (join L (edge acts i).1 (edge acts i).2) (fun j hj => ⟨by have := hp'.1 j hj; omega, (hb j (by simp [hj])).2⟩) hp'.2 (by simp only [edges]; omega)
    simp only [ints, List.map_cons, forestGo, Int.toNat_natCast]
    rw [if_neg (by omega), if_neg (show ¬ L.getD (acts.getD i z36).f1.toNat 0 = L.getD (acts.getD i z36).f2.toNat 0 from hne)]
    exact ih
/-- A list that spans is a forest for the program, too. -/
theorem forestB_of {per : Int} {n : Nat} {acts : List S36} (hok : netOk per n acts = true) {T : List Nat} (hp : T.Pairwise (· < ·)) (hb : ∀ i ∈ T, i < acts.length) (hw : wins (edges acts T) (List.range n) = T.length)
    (hc : ∀ j, j < acts.length → Conn (edges acts T) (edge acts j).1 (edge acts j).2) : forestB per n acts (ints T) = true := by
  unfold forestB
  rw [hok, forestGo_of acts T (-1) _ (fun i hi => ⟨by omega, hb i hi⟩) hp hw]
  simp only [Bool.true_and, List.all_eq_true, beq_iff_eq]
  intro a ha
  obtain ⟨j, hj, rfl⟩ := List.getElem_of_mem ha
  obtain ⟨_, _, e1, e2, _⟩ := edge_ok hok hj
  have := (run_tells (edges_lt hok hb) e1 e2).2 (hc j hj)
  have he : acts.getD j z36 = acts[j] := by simp [List.getD_eq_getElem?_getD, hj]
  rw [← he]
  exact this

theorem cutPass_grown (acts : List S36) (arc : Int) : ∀ (t : List Int) (m : List Bool), (cutPass acts arc t m true).2 = true
  | [], _ => rfl
  | k :: t, m => by
    unfold cutPass
    split
    · exact cutPass_grown acts arc t _
    · exact cutPass_grown acts arc t m
theorem cutPass_still (acts : List S36) (arc : Int) : ∀ (t : List Int) (m : List Bool) (gr : Bool), (cutPass acts arc t m gr).2 = false →
    (cutPass acts arc t m gr).1 = m ∧ ∀ k ∈ t, k ≠ arc → m.getD (fromOf acts k) false = m.getD (toOf acts k) false
  | [], m, gr, _ => ⟨rfl, by simp⟩
  | k :: t, m, gr, h => by
    unfold cutPass at h ⊢
    split at h
    · rw [cutPass_grown] at h
      cases h
    · rename_i hc
      rw [if_neg hc]
      obtain ⟨h1, h2⟩ := cutPass_still acts arc t m gr h
      refine ⟨h1, fun j hj hne => ?_⟩
      rcases List.mem_cons.1 hj with rfl | hj
      · exact Classical.byContradiction fun hx => hc ⟨hne, hx⟩
      · exact h2 j hj hne
theorem getD_set_true {m : List Bool} {i v : Nat} (h : (m.set i true).getD v false = true) : v = i ∨ m.getD v false = true := by
  by_cases e : i = v
  · exact .inl e.symm
  · simp only [List.getD_eq_getElem?_getD, List.getElem?_set_ne e] at h ⊢
    exact .inr h
theorem getD_set_keep {m : List Bool} {i v : Nat} (h : m.getD v false = true) : (m.set i true).getD v false = true := by
  by_cases e : i = v
  · subst e
    by_cases hl : i < m.length
    · simp [List.getD_eq_getElem?_getD, hl]
    · rw [List.set_eq_of_length_le (by omega)]; exact h
  · simp only [List.getD_eq_getElem?_getD, List.getElem?_set_ne e] at h ⊢
    exact h
theorem cutPass_conn (acts : List S36) (arc : Int) (es : List (Nat × Nat)) (r : Nat) : ∀ (t : List Int) (m : List Bool) (gr : Bool), (∀ k ∈ t, k ≠ arc → (fromOf acts k, toOf acts k) ∈ es) → (∀ v, m.getD v false = true → Conn es v r) →
    (∀ v, (cutPass acts arc t m gr).1.getD v false = true → Conn es v r) ∧ ∀ v, m.getD v false = true → (cutPass acts arc t m gr).1.getD v false = true
  | [], m, gr, _, h => ⟨h, fun _ h => h⟩
  | k :: t, m, gr, he, h => by
    unfold cutPass
    split
    · rename_i hc
      have hab := Conn.mem (he k (by simp) hc.1)
      have hor : Conn es (fromOf acts k) r := by
        cases hm : m.getD (fromOf acts k) false
        · have : m.getD (toOf acts k) false = true := by
            have := hc.2
            rw [hm] at this
            cases hx : m.getD (toOf acts k) false
            · rw [hx] at this; exact absurd rfl this
            · rfl
          exact hab.trans (h _ this)
        · exact h _ hm
      obtain ⟨h1, h2⟩ := cutPass_conn acts arc es r t ((m.set (fromOf acts k) true).set (toOf acts k) true) true (fun j hj => he j (by simp [hj])) (fun v hv => by
        rcases getD_set_true hv with rfl | hv
        · exact hab.symm.trans hor
        · rcases getD_set_true hv with rfl | hv
          · exact hor
          · exact h v hv)
      exact ⟨h1, fun v hv => h2 v (getD_set_keep (getD_set_keep hv))⟩
    · exact cutPass_conn acts arc es r t m gr (fun j hj => he j (by simp [hj])) h
theorem cutIter_facts (n : Nat) (acts : List S36) (arc : Int) (tree : List Int) (es : List (Nat × Nat)) (r : Nat) (hf : ∀ k ∈ tree, fitB n acts k = true) (he : ∀ k ∈ tree, k ≠ arc → (fromOf acts k, toOf acts k) ∈ es) :
    ∀ (fuel : Nat) (m : List Bool), m.length = n → falses m < fuel → (∀ v, m.getD v false = true → Conn es v r) →
      (cutIter acts arc tree fuel m).length = n ∧ (∀ v, (cutIter acts arc tree fuel m).getD v false = true → Conn es v r) ∧ (∀ v, m.getD v false = true → (cutIter acts arc tree fuel m).getD v false = true) ∧
        ∀ k ∈ tree, k ≠ arc → (cutIter acts arc tree fuel m).getD (fromOf acts k) false = (cutIter acts arc tree fuel m).getD (toOf acts k) false := by
  intro fuel
  induction fuel with
  | zero => intro m _ h; omega
  | succ fuel ih =>
    intro m hm hfl hc
    obtain ⟨h1, h2, h3⟩ := cutPass_facts n acts arc tree m false hm hf
    obtain ⟨c1, c2⟩ := cutPass_conn acts arc es r tree m false he hc
    unfold cutIter
    by_cases g : (cutPass acts arc tree m false).2 = true
    · rw [if_pos g]
      have hlt := (h3 g).resolve_left (by decide)
      obtain ⟨i1, i2, i3, i4⟩ := ih _ h1 (by omega) c1
      exact ⟨i1, i2, fun v hv => i3 v (c2 v hv), i4⟩
    · rw [if_neg g]
      obtain ⟨s1, s2⟩ := cutPass_still acts arc tree m false (Bool.eq_false_iff.2 g)
      refine ⟨h1, c1, c2, ?_⟩
      rw [s1]
      exact s2
theorem contains_l0 (l : List Int) (x : Int) (hl : l.length ≤ 512) : ∀ (d i : Nat), i + d = l.length → x ∈ l.drop i → ∃ j : Nat, Ev (fun k => slices_Index_int_int.l0 k l x (l.length : Int) (i : Int)) (j : Int) := by
  intro d
  induction d with
  | zero =>
    intro i hi hx
    rw [List.drop_eq_nil_of_le (by omega)] at hx
    cases hx
  | succ d ih =>
    intro i hi hx
    have hd : l.drop i = l.getD i 0 :: l.drop (i + 1) := by
      rw [List.drop_eq_getElem_cons (by omega)]
      simp [List.getD_eq_getElem?_getD, show i < l.length by omega]
    have hr : rd l (i : Int) = l.getD i 0 := by unfold rd; rw [Int.toNat_natCast]
    have w1 : wrap64 ((i : Int) + 1) = ((i + 1 : Nat) : Int) := by unfold wrap64; omega
    by_cases c : x = l.getD i 0
    · refine ⟨i, Ev.step (f := fun _ => some (i : Int)) (fun k => ?_) (Ev.now _)⟩
      simp only [slices_Index_int_int.l0]
      rw [if_pos (by omega), if_pos (by omega), if_pos (by omega), hr, if_pos c]
    · rw [hd] at hx
      obtain ⟨j, hj⟩ := ih (i + 1) (by omega) ((List.mem_cons.1 hx).resolve_left c)
      refine ⟨j, Ev.step (fun k => ?_) hj⟩
      simp only [slices_Index_int_int.l0]
      rw [if_pos (by omega), if_pos (by omega), if_pos (by omega), hr, if_neg c, w1]
theorem contains_ev (l : List Int) (x : Int) (hl : l.length ≤ 512) (hx : x ∈ l) : Ev (fun k => slices_Contains_int_int.f k l x) true := by
  obtain ⟨j, hj⟩ := contains_l0 l x hl l.length 0 (by omega) (by simpa using hx)
  unfold slices_Contains_int_int.f slices_Index_int_int.f
  refine Ev.bind hj ?_
  rw [decide_eq_true (by omega)]
  exact Ev.now _
/-- The program's Cut of a spanning forest. -/
theorem cut_ev {per : Int} {evs : List S97} {acts : List S36} (hok : netOk per evs.length acts = true) {T : List Nat} (hp : T.Pairwise (· < ·)) (hb : ∀ i ∈ T, i < acts.length) (hw : wins (edges acts T) (List.range evs.length) = T.length)
    (hc : ∀ j, j < acts.length → Conn (edges acts T) (edge acts j).1 (edge acts j).2) (a : Nat) (ha : a ∈ T) :
    ∃ m : List Bool, Ev (fun k => simplex_Cut.f k per evs acts (ints T) (a : Int)) (m, 0) ∧ m.length = evs.length ∧ m.getD (edge acts a).2 false = true ∧ m.getD (edge acts a).1 false = false ∧
      ∀ i ∈ T, i ≠ a → m.getD (edge acts i).1 false = m.getD (edge acts i).2 false := by
  have hok' := hok
  simp only [netOk, Bool.and_eq_true, decide_eq_true_eq] at hok'
  obtain ⟨⟨⟨⟨hp1, hp2⟩, hev⟩, hal⟩, _⟩ := hok'
  have fit : ∀ i, i ∈ T → fitB evs.length acts (i : Int) = true := by
    intro i hi
    obtain ⟨f1, f2, e1, e2, _⟩ := edge_ok hok (hb i hi)
    have := hb i hi
    simp only [fitB, Bool.and_eq_true, decide_eq_true_eq, Int.toNat_natCast]
    omega
  have fits : ∀ k ∈ ints T, fitB evs.length acts k = true := by
    intro k hk
    obtain ⟨i, hi, rfl⟩ := List.mem_map.1 hk
    exact fit i hi
  obtain ⟨p, q, hpq⟩ := List.append_of_mem ha
  have hed : edges acts T = edges acts p ++ edge acts a :: edges acts q := by rw [hpq]; simp [edges]
  have hnot := acyclic (edges_lt hok hb) (hw.trans (by simp [edges])) hed
  have hin : ∀ i ∈ T, i ≠ a → edge acts i ∈ edges acts p ++ edges acts q := by
    intro i hi hne
    rw [hpq] at hi
    rcases List.mem_append.1 hi with h | h
    · exact List.mem_append_left _ (List.mem_map.2 ⟨i, h, rfl⟩)
    · exact List.mem_append_right _ (List.mem_map.2 ⟨i, (List.mem_cons.1 h).resolve_left hne, rfl⟩)
  obtain ⟨_, _, e1, e2, _⟩ := edge_ok hok (hb a ha)
  have hto : toOf acts (a : Int) = (edge acts a).2 := rfl
  have hm0 : ((List.replicate evs.length false).set (toOf acts (a : Int)) true).length = evs.length := by simp
  have hst : ((List.replicate evs.length false).set (toOf acts (a : Int)) true).getD (edge acts a).2 false = true := by
    rw [hto]
    simp [List.getD_eq_getElem?_getD, e2]
  have hfl : falses ((List.replicate evs.length false).set (toOf acts (a : Int)) true) < evs.length + 1 := by
    have := List.countP_le_length (p := fun b : Bool => !b) (l := (List.replicate evs.length false).set (toOf acts (a : Int)) true)
    unfold falses
    omega
  obtain ⟨h1, h2, h3, h4⟩ := cutIter_facts evs.length acts (a : Int) (ints T) (edges acts p ++ edges acts q) (edge acts a).2 fits (fun k hk hne => by
    obtain ⟨i, hi, rfl⟩ := List.mem_map.1 hk
    exact hin i hi (fun h => hne (by rw [h]))) (evs.length + 1) _ hm0 hfl (fun v hv => by
      rcases getD_set_true hv with rfl | hv
      · exact Conn.refl _ _
      · exfalso
        simp only [List.getD_eq_getElem?_getD, List.getElem?_replicate] at hv
        split at hv <;> simp at hv)
  refine ⟨_, ?_, h1, h3 _ hst, ?_, fun i hi hne => h4 (i : Int) (List.mem_map.2 ⟨i, hi, rfl⟩) (fun h => hne (by omega))⟩
  · unfold simplex_Cut.f cycles_Forest.f
    rw [forestB_of hok hp hb hw hc]
    simp only [Option.bind_some, if_true]
    have hlen : (ints T).length ≤ 512 := by
      have : T.length ≤ evs.length := by
        have := (run_facts (edges acts T) [] _ (tells_range evs.length) (least_range evs.length) (edges_lt hok hb)).2.2
        rw [heads_range, hw] at this
        omega
      simp only [ints, List.length_map]
      omega
    refine Ev.bind (contains_ev (ints T) (a : Int) hlen (List.mem_map.2 ⟨a, ha, rfl⟩)) ?_
    simp only [if_true]
    have hcut : simplex_cut.f per evs acts (ints T) (a : Int) = some (cutIter acts (a : Int) (ints T) (evs.length + 1) ((List.replicate evs.length false).set (toOf acts (a : Int)) true)) := by
      unfold simplex_cut.f
      rw [if_pos]
      simp only [Bool.and_eq_true, List.all_eq_true, decide_eq_true_eq]
      exact ⟨⟨fit a ha, fits⟩, by omega⟩
    rw [hcut]
    exact Ev.now _
  · cases hx : (cutIter acts (a : Int) (ints T) (evs.length + 1) ((List.replicate evs.length false).set (toOf acts (a : Int)) true)).getD (edge acts a).1 false
    · rfl
    · exact absurd (h2 _ hx) hnot
end Go.Proofs.Ytbkjplomoegbdaa.CutLaw
