/- Parts of the proof of CyclesPeriodicity, gathered by a program of this claim out of texts that it or the kit's print wrote: lemmas alone, no condition of their own. -/
import Derived.Test.YtbkjplomoegbdaaCCyclesPeriodicity15
import Derived.Test.YtbkjplomoegbdaaCCyclesPeriodicity5
import Derived.Test.YtbkjplomoegbdaaCCyclesPeriodicity17
import Derived.Test.YtbkjplomoegbdaaCCyclesPeriodicity18
namespace Go.Proofs.Ytbkjplomoegbdaa.PathLaw
open Go.RowKit Go.Proofs.Ytbkjplomoegbdaa.PB Go.Proofs.Ytbkjplomoegbdaa.Graph Go.Proofs.Ytbkjplomoegbdaa.Ways Go.Proofs.Ytbkjplomoegbdaa.RefTree Go.Proofs.Ytbkjplomoegbdaa.CutLaw Go.Proofs.YtbkjplomoegbdaaW.PrintWords Go.Proofs.YtbkjplomoegbdaaW.PrintLast Go.Proofs.YtbkjplomoegbdaaW.PrintMore
set_option linter.unusedVariables false
theorem from_edge (acts : List S36) (i : Nat) : fromOf acts (i : Int) = (edge acts i).1 := rfl
theorem to_edge (acts : List S36) (i : Nat) : toOf acts (i : Int) = (edge acts i).2 := rfl
def Told (acts : List S36) (T : List Nat) (src n : Nat) (st : List Int × List Bool) (x : Nat) : Prop :=
  ∃ l, Ways.Way (edge acts) T src x l ∧ (nodes (edge acts) src l).Nodup ∧ (∀ y ∈ nodes (edge acts) src l, y < n ∧ st.2.getD y false = true) ∧ ∀ p ∈ l, st.1.getD (dst (edge acts) p) 0 = (p.1 : Int)
structure Inv (acts : List S36) (T : List Nat) (src n : Nat) (st : List Int × List Bool) : Prop where
  lv : st.1.length = n
  ls : st.2.length = n
  hs : st.2.getD src false = true
  told : ∀ x, x < n → st.2.getD x false = true → Told acts T src n st x
theorem getD_set {α : Type} (l : List α) (i j : Nat) (x d : α) (hi : i < l.length) : (l.set i x).getD j d = if j = i then x else l.getD j d := by
  by_cases e : j = i
  · subst e; simp [List.getD_eq_getElem?_getD, hi]
  · rw [if_neg e]; simp only [List.getD_eq_getElem?_getD, List.getElem?_set_ne (fun h => e h.symm)]
theorem Inv.grow {acts : List S36} {T : List Nat} {src n : Nat} {st : List Int × List Bool} (h : Inv acts T src n st) (p : Nat × Int) (hp : p.1 ∈ T) (hs : p.2 = 1 ∨ p.2 = -1) (h1 : Ways.src (edge acts) p < n) (h2 : dst (edge acts) p < n)
    (h3 : st.2.getD (Ways.src (edge acts) p) false = true) (h4 : st.2.getD (dst (edge acts) p) false = false) : Inv acts T src n (st.1.set (dst (edge acts) p) (p.1 : Int), st.2.set (dst (edge acts) p) true) := by
  have hl1 := h.lv
  have hl2 := h.ls
  have keep : ∀ x, x < n → Told acts T src n st x → Told acts T src n (st.1.set (dst (edge acts) p) (p.1 : Int), st.2.set (dst (edge acts) p) true) x := by
    rintro x hx ⟨l, a, b, c, d⟩
    refine ⟨l, a, b, fun y hy => ⟨(c y hy).1, ?_⟩, fun q hq => ?_⟩
    · show (st.2.set _ true).getD y false = true
      rw [getD_set _ _ _ _ _ (by omega)]
      split
      · rfl
      · exact (c y hy).2
    · show (st.1.set _ _).getD _ 0 = _
      rw [getD_set _ _ _ _ _ (by omega), if_neg, d q hq]
      intro e
      have := (c _ (a.ends q hq).2).2
      rw [e, h4] at this
      cases this
  refine ⟨by simp [hl1], by simp [hl2], ?_, fun x hx hxs => ?_⟩
  · show (st.2.set _ true).getD src false = true
    rw [getD_set _ _ _ _ _ (by omega)]
    split
    · rfl
    · exact h.hs
  · have hxs' : (st.2.set (dst (edge acts) p) true).getD x false = true := hxs
    rw [getD_set _ _ _ _ _ (by omega)] at hxs'
    by_cases e : x = dst (edge acts) p
    · subst e
      obtain ⟨l, a, b, c, d⟩ := h.told _ h1 h3
      have hnot : dst (edge acts) p ∉ nodes (edge acts) src l := fun hm => by
        have := (c _ hm).2
        rw [h4] at this
        cases this
      refine ⟨l ++ [p], a.append (Ways.Way.one hp hs), ?_, fun y hy => ?_, fun q hq => ?_⟩
      · rw [nodes_append]
        rw [List.nodup_append]
        refine ⟨b, by simp, fun y hy z hz => ?_⟩
        simp only [List.map_cons, List.map_nil, List.mem_singleton] at hz
        subst hz
        intro e
        exact hnot (e ▸ hy)
      · rw [nodes_append] at hy
        show y < n ∧ (st.2.set _ true).getD y false = true
        rw [getD_set _ _ _ _ _ (by omega)]
        rcases List.mem_append.1 hy with hy | hy
        · refine ⟨(c y hy).1, ?_⟩
          split
          · rfl
          · exact (c y hy).2
        · simp only [List.map_cons, List.map_nil, List.mem_singleton] at hy
          subst hy
          exact ⟨h2, by rw [if_pos rfl]⟩
      · show (st.1.set _ _).getD _ 0 = _
        rw [getD_set _ _ _ _ _ (by omega)]
        rcases List.mem_append.1 hq with hq | hq
        · rw [if_neg, d q hq]
          intro e
          exact hnot (e ▸ (a.ends q hq).2)
        · rw [List.mem_singleton.1 hq, if_pos rfl]
    · rw [if_neg e] at hxs'
      exact keep x hx (h.told x hx hxs')
theorem step_inv {per : Int} {acts : List S36} {T : List Nat} {src n : Nat} (hok : netOk per n acts = true) (hT : ∀ i ∈ T, i < acts.length) {st : List Int × List Bool} (h : Inv acts T src n st) {k : Nat} (hk : k ∈ T) :
    Inv acts T src n (pathStep acts st (k : Int)) ∧ falses (pathStep acts st (k : Int)).2 ≤ falses st.2 ∧ (falses (pathStep acts st (k : Int)).2 = falses st.2 → pathStep acts st (k : Int) = st ∧ st.2.getD (edge acts k).1 false = st.2.getD (edge acts k).2 false) := by
  obtain ⟨_, _, e1, e2, _⟩ := edge_ok hok (hT k hk)
  have hl2 := h.ls
  unfold pathStep
  rw [from_edge, to_edge]
  by_cases c : st.2.getD (edge acts k).1 false = true ∧ st.2.getD (edge acts k).2 false = false
  · rw [if_pos c]
    have h1 := falses_set (m := st.2) (i := (edge acts k).2) (by omega)
    have h2 := falses_pos (m := st.2) (i := (edge acts k).2) (by omega) c.2
    rw [if_pos c.2] at h1
    exact ⟨h.grow (k, 1) hk (.inl rfl) e1 e2 c.1 c.2, by show falses (st.2.set _ true) ≤ _; omega, fun e => by have e' : falses (st.2.set (edge acts k).2 true) = falses st.2 := e; omega⟩
  · rw [if_neg c]
    by_cases c2 : st.2.getD (edge acts k).2 false = true ∧ st.2.getD (edge acts k).1 false = false
    · rw [if_pos c2]
      have h1 := falses_set (m := st.2) (i := (edge acts k).1) (by omega)
      have h2 := falses_pos (m := st.2) (i := (edge acts k).1) (by omega) c2.2
      rw [if_pos c2.2] at h1
      exact ⟨h.grow (k, -1) hk (.inr rfl) e2 e1 c2.1 c2.2, by show falses (st.2.set _ true) ≤ _; omega, fun e => by have e' : falses (st.2.set (edge acts k).1 true) = falses st.2 := e; omega⟩
    · rw [if_neg c2]
      refine ⟨h, Nat.le_refl _, fun _ => ⟨rfl, ?_⟩⟩
      cases hx : st.2.getD (edge acts k).1 false <;> cases hy : st.2.getD (edge acts k).2 false
      · rfl
      · exact absurd ⟨hy, hx⟩ c2
      · exact absurd ⟨hx, hy⟩ c
      · rfl
theorem pass_inv {per : Int} {acts : List S36} {T : List Nat} {src n : Nat} (hok : netOk per n acts = true) (hT : ∀ i ∈ T, i < acts.length) : ∀ (K : List Nat) (st : List Int × List Bool), (∀ i ∈ K, i ∈ T) → Inv acts T src n st →
    Inv acts T src n (pathPass acts (ints K) st) ∧ falses (pathPass acts (ints K) st).2 ≤ falses st.2 ∧ (falses (pathPass acts (ints K) st).2 = falses st.2 → pathPass acts (ints K) st = st ∧ ∀ k ∈ K, st.2.getD (edge acts k).1 false = st.2.getD (edge acts k).2 false)
  | [], st, _, h => ⟨h, Nat.le_refl _, fun _ => ⟨rfl, fun k hk => by simp at hk⟩⟩
  | k :: K, st, hK, h => by
    obtain ⟨a1, a2, a3⟩ := step_inv hok hT h (hK k (by simp))
    obtain ⟨b1, b2, b3⟩ := pass_inv hok hT K _ (fun i hi => hK i (by simp [hi])) a1
    have e : pathPass acts (ints (k :: K)) st = pathPass acts (ints K) (pathStep acts st (k : Int)) := rfl
    rw [e]
    refine ⟨b1, by omega, fun hf => ?_⟩
    obtain ⟨c1, c2⟩ := a3 (by omega)
    obtain ⟨d1, d2⟩ := b3 (by omega)
    rw [c1] at d1 d2 ⊢
    refine ⟨d1, fun j hj => ?_⟩
    rcases List.mem_cons.1 hj with rfl | hj
    · exact c2
    · exact d2 j hj
theorem rounds_fix {acts : List S36} {K : List Int} {st : List Int × List Bool} (h : pathPass acts K st = st) : ∀ r, pathRounds acts K r st = st
  | 0 => rfl
  | r + 1 => by show pathRounds acts K r (pathPass acts K st) = st; rw [h]; exact rounds_fix h r
theorem rounds_inv {per : Int} {acts : List S36} {T : List Nat} {src n : Nat} (hok : netOk per n acts = true) (hT : ∀ i ∈ T, i < acts.length) : ∀ (r : Nat) (st : List Int × List Bool), Inv acts T src n st → falses st.2 < r →
    Inv acts T src n (pathRounds acts (ints T) r st) ∧ ∀ k ∈ T, (pathRounds acts (ints T) r st).2.getD (edge acts k).1 false = (pathRounds acts (ints T) r st).2.getD (edge acts k).2 false
  | 0, _, _, hr => absurd hr (Nat.not_lt_zero _)
  | r + 1, st, h, hr => by
    obtain ⟨a1, a2, a3⟩ := pass_inv hok hT T st (fun _ hi => hi) h
    by_cases e : falses (pathPass acts (ints T) st).2 = falses st.2
    · obtain ⟨b1, b2⟩ := a3 e
      rw [rounds_fix b1]
      exact ⟨h, b2⟩
    · exact rounds_inv hok hT r _ a1 (by omega)
theorem closed_conn {m : Nat → Bool} : ∀ {es : List (Nat × Nat)} {i j : Nat}, (∀ e ∈ es, m e.1 = m e.2) → Conn es i j → m i = m j
  | [], i, j, _, h => by cases h; rfl
  | e :: es, i, j, hm, h => by
    have he := hm e (by simp)
    have ih : ∀ {i j : Nat}, Conn es i j → m i = m j := fun {i j} h => closed_conn (fun x hx => hm x (by simp [hx])) h
    rcases h with h | ⟨h, k⟩ | ⟨h, k⟩
    · exact ih h
    · rw [ih h, he, ih k]
    · rw [ih h, ← he, ih k]
theorem back_way {per : Int} {acts : List S36} {T : List Nat} {src n : Nat} (hok : netOk per n acts = true) (hT : ∀ i ∈ T, i < acts.length) (via : List Int) : ∀ (k : Nat) (l : List (Nat × Int)) (x : Nat) (ar sg : List Int), l.length < k →
    Ways.Way (edge acts) T src x l → (nodes (edge acts) src l).Nodup → (∀ p ∈ l, via.getD (dst (edge acts) p) 0 = (p.1 : Int)) →
      pathBack n acts via src k x ar sg = some (l.map (fun p => (p.1 : Int)) ++ ar, l.map (·.2) ++ sg) := by
  intro k
  induction k with
  | zero => intro l x ar sg h; exact absurd h (Nat.not_lt_zero _)
  | succ k ih =>
    intro l x ar sg hlt hw hn hv
    rcases List.eq_nil_or_concat l with rfl | ⟨l', p, rfl⟩
    · have : src = x := hw
      subst this
      unfold pathBack
      rw [if_pos rfl]
      rfl
    · rw [List.concat_eq_append] at *
      obtain ⟨y, w1, w2⟩ := hw.split
      obtain ⟨hpT, hps, hy, hx⟩ := w2
      have hx' : dst (edge acts) p = x := hx
      have hpl := hT _ hpT
      obtain ⟨f1, f2, e1, e2, _, _, hne⟩ := edge_ok hok hpl
      rw [nodes_append] at hn
      have hn' := List.nodup_append.1 hn
      have hxs : ¬ x = src := by
        intro e
        have := hn'.2.2 src (by simp [nodes]) x (by rw [← hx']; simp)
        exact this e.symm
      have hvia : via.getD x 0 = (p.1 : Int) := by rw [← hx']; exact hv p (by simp)
      have hfit : fitB n acts (p.1 : Int) = true := by
        unfold fitB
        simp only [Int.toNat_natCast, Bool.and_eq_true, decide_eq_true_eq]
        omega
      unfold pathBack
      rw [if_neg hxs, hvia, from_edge, to_edge]
      have hl' : l'.length < k := by rw [List.length_append] at hlt; simp at hlt; omega
      rcases hps with s | s
      · have d : dst (edge acts) p = (edge acts p.1).2 := by unfold dst; rw [if_pos s]
        have c : Ways.src (edge acts) p = (edge acts p.1).1 := by unfold Ways.src; rw [if_pos s]
        have hnf : ¬ (edge acts p.1).1 = x := by rw [← hx', d]; exact hne
        rw [if_pos ⟨hfit, .inr (by rw [← d]; exact hx')⟩, if_neg hnf, if_neg hnf]
        rw [ih l' _ _ _ hl' (by rw [← c, ← hy]; exact w1) hn'.1 (fun q hq => hv q (by simp [hq]))]
        simp [s]
      · have s' : ¬ p.2 = 1 := by rw [s]; decide
        have d : dst (edge acts) p = (edge acts p.1).1 := by unfold dst; rw [if_neg s']
        have c : Ways.src (edge acts) p = (edge acts p.1).2 := by unfold Ways.src; rw [if_neg s']
        have hf : (edge acts p.1).1 = x := by rw [← d]; exact hx'
        rw [if_pos ⟨hfit, .inl hf⟩, if_pos hf, if_pos hf]
        rw [ih l' _ _ _ hl' (by rw [← c, ← hy]; exact w1) hn'.1 (fun q hq => hv q (by simp [hq]))]
        simp [s]
theorem path_way {per : Int} {evs : List S97} {acts : List S36} (hok : netOk per evs.length acts = true) {T : List Nat} (hT : ∀ i ∈ T, i < acts.length) {a b : Nat} (ha : a < evs.length) (hb : b < evs.length) (hc : Conn (edges acts T) a b) :
    ∃ l, Ways.Way (edge acts) T a b l ∧ (nodes (edge acts) a l).Nodup ∧ l.length < evs.length ∧ railplanref11_path.f per evs acts (ints T) (a : Int) (b : Int) = some (l.map (fun p => (p.1 : Int)), l.map (·.2), true) := by
  have hn : evs.length ≤ 48 := by simp [netOk] at hok; omega
  have hl0 : ((List.replicate evs.length false).set a true).length = evs.length := by simp
  have hs0 : ((List.replicate evs.length false).set a true).getD a false = true := by rw [getD_set _ _ _ _ _ (by simpa using ha), if_pos rfl]
  have h0 : Inv acts T a evs.length (List.replicate evs.length (-1), (List.replicate evs.length false).set a true) := by
    refine ⟨by simp, by simp, hs0, fun x hx hxs => ?_⟩
    have hxs' : ((List.replicate evs.length false).set a true).getD x false = true := hxs
    rw [getD_set _ _ _ _ _ (by simpa using ha)] at hxs'
    have e : x = a := by
      by_cases e : x = a
      · exact e
      · rw [if_neg e] at hxs'
        simp [List.getD_eq_getElem?_getD, hx] at hxs'
    subst e
    refine ⟨[], rfl, by simp [nodes], fun y hy => ?_, fun p hp => by simp at hp⟩
    have : y = x := by simpa [nodes] using hy
    subst this
    exact ⟨hx, hs0⟩
  have hf0 : falses ((List.replicate evs.length false).set a true) < evs.length := by
    have h1 := falses_set (m := List.replicate evs.length false) (i := a) (by simpa using ha)
    have h2 : (List.replicate evs.length false).getD a false = false := by simp [List.getD_eq_getElem?_getD, ha]
    have h3 := falses_pos (m := List.replicate evs.length false) (i := a) (by simpa using ha) h2
    have h4 : falses (List.replicate evs.length false) ≤ evs.length := by
      have := List.countP_le_length (p := fun b : Bool => !b) (l := List.replicate evs.length false)
      simpa [falses] using this
    rw [if_pos h2] at h1
    omega
  obtain ⟨hI, hcl⟩ := rounds_inv hok hT evs.length _ h0 hf0
  have hseen : (pathRounds acts (ints T) evs.length (List.replicate evs.length (-1), (List.replicate evs.length false).set a true)).2.getD b false = true := by
    have := closed_conn (m := fun x => (pathRounds acts (ints T) evs.length (List.replicate evs.length (-1), (List.replicate evs.length false).set a true)).2.getD x false) (es := edges acts T) (fun e he => by
      obtain ⟨k, hk, rfl⟩ := List.mem_map.1 he
      exact hcl k hk) hc
    rw [← this]
    exact hI.hs
  obtain ⟨l, w1, w2, w3, w4⟩ := hI.told b hb hseen
  have hlen : l.length < evs.length := by
    have := nodup_le evs.length _ w2 (fun y hy => (w3 y hy).1)
    simp [nodes] at this
    omega
  refine ⟨l, w1, w2, hlen, ?_⟩
  unfold railplanref11_path.f
  have hfits : (ints T).all (fitB evs.length acts) = true := by
    rw [List.all_eq_true]
    intro k hk
    obtain ⟨i, hi, rfl⟩ := List.mem_map.1 hk
    obtain ⟨f1, f2, e1, e2, _⟩ := edge_ok hok (hT i hi)
    have := hT i hi
    unfold fitB
    simp only [Int.toNat_natCast, Bool.and_eq_true, decide_eq_true_eq]
    omega
  rw [hfits, decide_eq_true (show (0 : Int) ≤ (a : Int) by omega), decide_eq_true (show (a : Int) < (evs.length : Int) by omega), decide_eq_true (show (0 : Int) ≤ (b : Int) by omega), decide_eq_true (show (b : Int) < (evs.length : Int) by omega), decide_eq_true (show evs.length ≤ 1048576 by omega)]
  simp only [Bool.and_self, if_true, Int.toNat_natCast, hseen]
  rw [if_neg (by simp), back_way hok hT _ (evs.length + 1) l b [] [] (by omega) w1 w2 w4]
  simp
end Go.Proofs.Ytbkjplomoegbdaa.PathLaw
