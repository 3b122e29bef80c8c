/- Whatever is drawn: a cut contains To, not From, of its activity, and no other activity of the forest crosses it. No condition beyond the row's own. -/
import Derived.Test.YtbkjplomoegbdaaCutLaw
import Derived.Test.YtbkjplomoegbdaaNetGen
import Derived.Test.YtbkjplomoegbdaaPBxf3
namespace Go.Proofs.Ytbkjplomoegbdaa.Pure
open Go.RowKit Go.Proofs.Ytbkjplomoegbdaa.PB Go.Proofs.Ytbkjplomoegbdaa.Graph Go.Proofs.Ytbkjplomoegbdaa.RefTree Go.Proofs.Ytbkjplomoegbdaa.CutLaw Go.Proofs.Ytbkjplomoegbdaa.NetGen Go.Proofs.YtbkjplomoegbdaaW.PrintWords Go.Proofs.YtbkjplomoegbdaaW.PrintLast Go.Proofs.YtbkjplomoegbdaaW.PrintMore

theorem awake16 : railplanlaw16_awake.f 10 = some true := by kernel_rfl
theorem awake16_ev : Ev (fun k => railplanlaw16_awake.f k) true := Ev.of (k := 10) railplanlaw16_awake.mono awake16
theorem ints_getD {T : List Nat} {i : Nat} (h : i < T.length) : rd (ints T) (i : Int) = ((T.getD i 0 : Nat) : Int) := by
  unfold rd ints
  simp [List.getD_eq_getElem?_getD, h]
theorem splits_l0 {per : Int} {evs : List S97} {acts : List S36} (hok : netOk per evs.length acts = true) {T : List Nat} (hb : ∀ i ∈ T, i < acts.length) (hT : T.length ≤ 512) {a : Nat} (ha : a ∈ T) {m : List Bool} (hm : m.length = evs.length)
    (h1 : m.getD (edge acts a).2 false = true) (h2 : m.getD (edge acts a).1 false = false) (h3 : ∀ i ∈ T, i ≠ a → m.getD (edge acts i).1 false = m.getD (edge acts i).2 false) :
    ∀ (d i : Nat), i + d = T.length → Ev (fun k => railplanlaw16_SimplexCutSplits.l0 k (ints T) (a : Int) m ((ints T).length : Int) (i : Int) per evs acts) true := by
  have hl : (ints T).length = T.length := by simp [ints]
  have fact : ∀ i, i ∈ T → (rd_T36 acts (i : Int)).f1 = ((edge acts i).1 : Int) ∧ (rd_T36 acts (i : Int)).f2 = ((edge acts i).2 : Int) ∧ (edge acts i).1 < m.length ∧ (edge acts i).2 < m.length ∧ i < acts.length := by
    intro i hi
    obtain ⟨f1, f2, e1, e2, _⟩ := edge_ok hok (hb i hi)
    have hr : rd_T36 acts (i : Int) = acts.getD i z36 := by unfold rd_T36; rw [Int.toNat_natCast]
    rw [hr, hm]
    exact ⟨f1, f2, e1, e2, hb i hi⟩
  have ro : ∀ j : Nat, rdOf false m (j : Int) = m.getD j false := fun j => by unfold rdOf; rw [Int.toNat_natCast]
  intro d
  induction d with
  | zero =>
    intro i hi
    obtain ⟨f1, f2, e1, e2, e3⟩ := fact a ha
    refine Ev.step (f := fun k => (railplanlaw16_awake.f k).bind fun t229 => if t229 = true then some true else some false) (fun k => ?_) (Ev.bind awake16_ev ?_)
    · simp only [railplanlaw16_SimplexCutSplits.l0]
      have k0 : ¬ (i : Int) < ((ints T).length : Int) := by omega
      have k1 : (0 : Int) ≤ (a : Int) := by omega
      have k2 : (a : Int) < (acts.length : Int) := by omega
      have k3 : (0 : Int) ≤ ((edge acts a).2 : Int) := by omega
      have k4 : ((edge acts a).2 : Int) < (m.length : Int) := by omega
      have k5 : (0 : Int) ≤ ((edge acts a).1 : Int) := by omega
      have k6 : ((edge acts a).1 : Int) < (m.length : Int) := by omega
      simp only [if_neg k0, f1, f2, ro, h1, h2, if_pos k1, if_pos k2, if_pos k3, if_pos k4, if_pos k5, if_pos k6, if_true, Bool.not_false]
    · simp only [if_true]
      exact Ev.now _
  | succ d ih =>
    intro i hi
    have hil : i < T.length := by omega
    have hmem : T.getD i 0 ∈ T := by simp [List.getD_eq_getElem?_getD, hil]
    have hr := ints_getD hil
    have w1 : wrap64 ((i : Int) + 1) = ((i + 1 : Nat) : Int) := by unfold wrap64; omega
    have k0 : (i : Int) < ((ints T).length : Int) := by omega
    have k00 : (0 : Int) ≤ (i : Int) := by omega
    refine Ev.step (fun k => ?_) (ih (i + 1) (by omega))
    clear ih
    revert hr hmem
    generalize T.getD i 0 = x
    intro hmem hr
    obtain ⟨f1, f2, e1, e2, e3⟩ := fact x hmem
    have k1 : (0 : Int) ≤ (x : Int) := by omega
    have k2 : (x : Int) < (acts.length : Int) := by omega
    have k3 : (0 : Int) ≤ ((edge acts x).2 : Int) := by omega
    have k4 : ((edge acts x).2 : Int) < (m.length : Int) := by omega
    have k5 : (0 : Int) ≤ ((edge acts x).1 : Int) := by omega
    have k6 : ((edge acts x).1 : Int) < (m.length : Int) := by omega
    simp only [railplanlaw16_SimplexCutSplits.l0]
    simp only [if_pos k0, if_pos k00, hr, f1, f2, ro, if_pos k1, if_pos k2, if_pos k3, if_pos k4, if_pos k5, if_pos k6, w1]
    rw [if_neg]
    by_cases c : x = a
    · subst c
      rw [h1, h2]
      simp
    · rw [h3 x hmem c]
      simp
      omega
theorem SimplexCutSplits : railplanlaw16_SimplexCutSplits.Pure := by
  intro l a1 _ hl _ _
  refine Ev.rounds (g := fun k => railplanlaw16_SimplexCutSplits.f k l a1) ?_
  obtain ⟨per, evs, acts, hnet, his⟩ := network_ev l (by omega)
  have hok := his.ok
  obtain ⟨T, htree, hp, hb, hw, hc⟩ := tree_ev hok
  have hTl : T.length ≤ evs.length := by
    have := (run_facts (edges acts T) [] _ (tells_range evs.length) (least_range evs.length) (edges_lt hok hb)).2.2
    rw [heads_range, hw] at this
    omega
  have hev := his.hevs
  unfold railplanlaw16_SimplexCutSplits.f
  refine Ev.bind hnet ?_
  refine Ev.bind htree ?_
  by_cases hz : T.length = 0
  · refine Ev.congr (f := fun k => (railplanlaw16_awake.f k).bind fun t216 => some t216) (fun k => ?_) (Ev.bind awake16_ev (Ev.now _))
    rw [if_pos (by rw [List.length_map]; omega)]
  · have hlen : (ints T).length = T.length := by simp [ints]
    obtain ⟨x, hx, hx0, hx1⟩ := pick_ok a1 ((ints T).length : Int) (by omega) (by omega)
    obtain ⟨i, rfl⟩ : ∃ i : Nat, x = (i : Int) := ⟨x.toNat, by omega⟩
    have hil : i < T.length := by omega
    have hmem : T.getD i 0 ∈ T := by simp [List.getD_eq_getElem?_getD, hil]
    obtain ⟨m, hcut, hm, h1, h2, h3⟩ := cut_ev hok hp hb hw hc (T.getD i 0) hmem
    refine Ev.congr (f := fun k => (simplex_Cut.f k per evs acts (ints T) ((T.getD i 0 : Nat) : Int)).bind fun bt219 => (if bt219.2 = 0 then (railplanlaw16_SimplexCutSplits.j0 k (ints T) ((T.getD i 0 : Nat) : Int) bt219.1 ((bt219.1.length : Int) != (evs.length : Int)) per evs acts) else (railplanlaw16_SimplexCutSplits.j0 k (ints T) ((T.getD i 0 : Nat) : Int) bt219.1 true per evs acts))) (fun k => ?_) (Ev.bind hcut ?_)
    · show (if ((ints T).length : Int) = 0 then _ else _) = _
      rw [if_neg (by omega)]
      show ((railplankeep_Pick.f a1 ((ints T).length : Int)).bind _) = _
      rw [hx, Option.bind_some, if_pos (by omega)]
      show (if (i : Int) < ((ints T).length : Int) then ((simplex_Cut.f k per evs acts (ints T) (rd (ints T) (i : Int))).bind _) else _) = _
      rw [if_pos (by omega), ints_getD hil]
      have hrd : rd (List.map (fun (i : Nat) => (i : Int)) T) (i : Int) = ((T.getD i 0 : Nat) : Int) := ints_getD hil
      rw [hrd]
      rfl
    · simp only [if_true]
      have hne : ((m.length : Int) != (evs.length : Int)) = false := by simp [hm]
      rw [hne]
      refine Ev.step (fun k => ?_) (splits_l0 hok hb (by omega) hmem hm h1 h2 h3 T.length 0 (by omega))
      simp only [railplanlaw16_SimplexCutSplits.j0]
      rw [if_neg (by decide)]
      rfl
end Go.Proofs.Ytbkjplomoegbdaa.Pure
