/- Parts of the proof of CyclesPeriodicity, gathered by a program of this claim out of texts that it or the kit's print wrote: lemmas alone, no condition of their own. -/
import Derived.Test.YtbkjplomoegbdaaCCyclesPeriodicity25
import Derived.Test.YtbkjplomoegbdaaCCyclesPeriodicity6
namespace Go.Proofs.Ytbkjplomoegbdaa.NetGen
open Go.RowKit Go.Proofs.Ytbkjplomoegbdaa.PB Go.Proofs.YtbkjplomoegbdaaW.PrintWords Go.Proofs.YtbkjplomoegbdaaW.PrintLast Go.Proofs.YtbkjplomoegbdaaW.PrintMore
theorem u64_small {n : Int} (h0 : 0 ≤ n) (h1 : n < 18446744073709551616) : IntKind.u64.wrap n = n := by
  have e : IntKind.u64.wrap n = n % 18446744073709551616 := rfl
  omega
theorem u64_range (n : Int) : 0 ≤ IntKind.u64.wrap n := by
  have e : IntKind.u64.wrap n = n % 18446744073709551616 := rfl
  omega
theorem pick_ok (v n : Int) (h0 : 0 < n) (h1 : n < 4611686018427387904) : ∃ x, railplankeep_Pick.f v n = some x ∧ 0 ≤ x ∧ x < n := by
  unfold railplankeep_Pick.f
  rw [u64_small (n := n) (by omega) (by omega), if_neg (by omega)]
  have a := Int.tmod_nonneg n (u64_range v)
  have b := Int.tmod_lt_of_pos (IntKind.u64.wrap v) h0
  refine ⟨_, rfl, ?_⟩
  unfold wrap64
  omega
theorem next_ok (l : List Int) (i n : Int) (hl : l.length ≤ 281474976710656) (hi : 0 ≤ i) (hil : i ≤ (l.length : Int)) (h0 : 0 < n) (h1 : n < 4611686018427387904) :
    ∃ x j, railplankeep_Source_Next.f l i n = some (x, j) ∧ 0 ≤ x ∧ x < n ∧ 0 ≤ j ∧ j ≤ (l.length : Int) := by
  unfold railplankeep_Source_Next.f
  by_cases c : i ≥ (l.length : Int)
  · rw [if_pos c]
    exact ⟨0, i, rfl, by omega, h0, hi, hil⟩
  · have e : wrap64 (wrap64 (i + 1) - 1) = i := by unfold wrap64; omega
    have e2 : wrap64 (i + 1) = i + 1 := by unfold wrap64; omega
    obtain ⟨x, hx, a, b⟩ := pick_ok (rd l i) n h0 h1
    rw [if_neg c, e, if_pos hi, if_pos (by omega), hx, e2]
    exact ⟨x, i + 1, rfl, a, b, by omega, by omega⟩
structure ActOk (per : Int) (n : Nat) (a : S36) : Prop where
  kind : 1 ≤ a.f0 ∧ a.f0 ≤ 6
  from_ : 0 ≤ a.f1 ∧ a.f1 < n
  to_ : 0 ≤ a.f2 ∧ a.f2 < n
  ne : a.f1 ≠ a.f2
  least : -per ≤ a.f3 ∧ a.f3 < 2 * per
  most : a.f3 ≤ a.f4 ∧ a.f4 < a.f3 + per
  weight : 0 ≤ a.f5 ∧ a.f5 < 5
structure NetIs (per : Int) (evs : List S97) (acts : List S36) : Prop where
  hper : 2 ≤ per ∧ per ≤ 9
  hevs : 1 ≤ evs.length ∧ evs.length ≤ 5
  hacts : acts.length ≤ 8
  ends : ∀ a ∈ acts, ActOk per evs.length a
theorem l1_ev (l : List Int) (hl : l.length ≤ 281474976710656) (per : Int) (hper : 2 ≤ per ∧ per ≤ 9) (evs : List S97) (hev : 1 ≤ evs.length ∧ evs.length ≤ 5) :
    ∀ (d : Nat) (i : Int) (acts : List S36), 0 ≤ i → i ≤ (l.length : Int) → acts.length + d ≤ 8 → (∀ a ∈ acts, ActOk per evs.length a) →
      ∃ acts', Ev (fun k => railplankeep_Network.l1 k (evs.length : Int) (d : Int) l i per evs acts) (per, evs, acts') ∧ NetIs per evs acts' := by
  intro d
  induction d with
  | zero =>
    intro i acts h0 h1 hd ha
    refine ⟨acts, ?_, ⟨hper, hev, by omega, ha⟩⟩
    refine Ev.step (f := fun k => railplankeep_Network.j2 k (evs.length : Int) 0 false l i per evs acts) (fun k => ?_) ?_
    · simp only [railplankeep_Network.l1]; rw [if_neg (by omega)]; rfl
    · refine Ev.step (f := fun _ => some (per, evs, acts)) (fun k => ?_) (Ev.now _)
      simp only [railplankeep_Network.j2]
      rfl
  | succ d ih =>
    intro i acts h0 h1 hd ha
    by_cases hm : (evs.length : Int) > 1
    · obtain ⟨a1, i1, e1, p1, q1, r1, s1⟩ := next_ok l i 6 hl h0 h1 (by omega) (by omega)
      obtain ⟨a2, i2, e2, p2, q2, r2, s2⟩ := next_ok l i1 (evs.length : Int) hl r1 s1 (by omega) (by omega)
      obtain ⟨a3, i3, e3, p3, q3, r3, s3⟩ := next_ok l i2 5 hl r2 s2 (by omega) (by omega)
      have w1 : wrap64 ((evs.length : Int) - 1) = (evs.length : Int) - 1 := by unfold wrap64; omega
      obtain ⟨a4, i4, e4, p4, q4, r4, s4⟩ := next_ok l i3 ((evs.length : Int) - 1) hl r3 s3 (by omega) (by omega)
      have w2 : wrap64 (3 * per) = 3 * per := by unfold wrap64; omega
      obtain ⟨a5, i5, e5, p5, q5, r5, s5⟩ := next_ok l i4 (3 * per) hl r4 s4 (by omega) (by omega)
      obtain ⟨a6, i6, e6, p6, q6, r6, s6⟩ := next_ok l i5 per hl r5 s5 (by omega) (by omega)
      have w3 : wrap64 (1 + a1) = 1 + a1 := by unfold wrap64; omega
      have w4 : wrap64 (wrap64 (a2 + 1) + a4) = a2 + 1 + a4 := by unfold wrap64; omega
      have w5 : wrap64 (a5 - per) = a5 - per := by unfold wrap64; omega
      have w6 : wrap64 (a5 - per + a6) = a5 - per + a6 := by unfold wrap64; omega
      have t1 := Int.tmod_nonneg (evs.length : Int) (show 0 ≤ a2 + 1 + a4 by omega)
      have t2 := Int.tmod_lt_of_pos (a2 + 1 + a4) (show (0 : Int) < (evs.length : Int) by omega)
      have t3 : Int.tmod (a2 + 1 + a4) (evs.length : Int) ≠ a2 := by
        intro h
        have h4 := Int.tmod_add_mul_tdiv (a2 + 1 + a4) (evs.length : Int)
        rw [h] at h4
        generalize Int.tdiv (a2 + 1 + a4) (evs.length : Int) = q at h4
        have h5 : (evs.length : Int) * q = 1 + a4 := by omega
        rcases Int.lt_or_le q 1 with c | c
        · have : (evs.length : Int) * q ≤ (evs.length : Int) * 0 := Int.mul_le_mul_of_nonneg_left (by omega) (by omega)
          omega
        · have : (evs.length : Int) * 1 ≤ (evs.length : Int) * q := Int.mul_le_mul_of_nonneg_left c (by omega)
          omega
      obtain ⟨acts', hev', his⟩ := ih i6 (acts ++ [⟨1 + a1, a2, Int.tmod (a2 + 1 + a4) (evs.length : Int), a5 - per, a5 - per + a6, a3⟩]) r6 s6 (by simp; omega) (by
        intro a h
        rcases List.mem_append.1 h with h | h
        · exact ha a h
        · simp at h
          subst h
          exact ⟨⟨by simp only; omega, by simp only; omega⟩, ⟨p2, q2⟩, ⟨t1, t2⟩, fun h => t3 h.symm, ⟨by simp only; omega, by simp only; omega⟩, ⟨by simp only; omega, by simp only; omega⟩, ⟨p3, q3⟩⟩)
      refine ⟨acts', ?_, his⟩
      refine Ev.step (f := fun k => railplankeep_Network.j2 k (evs.length : Int) ((d + 1 : Nat) : Int) true l i per evs acts) (fun k => ?_) ?_
      · simp only [railplankeep_Network.l1]; rw [if_pos (by omega), decide_eq_true hm]
      · refine Ev.step (fun k => ?_) hev'
        simp only [railplankeep_Network.j2]
        rw [if_pos trivial, e1, Option.bind_some, e2, Option.bind_some, e3, Option.bind_some, w1, e4, Option.bind_some, if_neg (by omega), w2, e5, Option.bind_some, e6, Option.bind_some, if_pos (by omega), w3, w4, w5, w6]
        congr 1
        unfold wrap64
        omega
    · refine ⟨acts, ?_, ⟨hper, hev, by omega, ha⟩⟩
      refine Ev.step (f := fun k => railplankeep_Network.j2 k (evs.length : Int) ((d + 1 : Nat) : Int) false l i per evs acts) (fun k => ?_) ?_
      · simp only [railplankeep_Network.l1]; rw [if_pos (by omega), decide_eq_false hm]
      · refine Ev.step (f := fun _ => some (per, evs, acts)) (fun k => ?_) (Ev.now _)
        simp only [railplankeep_Network.j2]
        rfl
theorem l0_ev (l : List Int) (hl : l.length ≤ 281474976710656) (per : Int) (hper : 2 ≤ per ∧ per ≤ 9) :
    ∀ (d : Nat) (i : Int) (evs : List S97), 0 ≤ i → i ≤ (l.length : Int) → evs.length + d ≤ 5 → 1 ≤ evs.length + d →
      ∃ evs' acts', Ev (fun k => railplankeep_Network.l0 k (d : Int) l i per evs) (per, evs', acts') ∧ NetIs per evs' acts' := by
  intro d
  induction d with
  | zero =>
    intro i evs h0 h1 hd hd1
    obtain ⟨a1, i1, e1, p1, q1, r1, s1⟩ := next_ok l i 9 hl h0 h1 (by omega) (by omega)
    obtain ⟨acts', he, hn⟩ := l1_ev l hl per hper evs ⟨by omega, by omega⟩ a1.toNat i1 [] r1 s1 (by simp; omega) (by simp)
    refine ⟨evs, acts', Ev.step (fun k => ?_) he, hn⟩
    simp only [railplankeep_Network.l0]
    rw [if_neg (by omega), e1, Option.bind_some]
    congr 1
    omega
  | succ d ih =>
    intro i evs h0 h1 hd hd1
    obtain ⟨a1, i1, e1, p1, q1, r1, s1⟩ := next_ok l i 2 hl h0 h1 (by omega) (by omega)
    obtain ⟨a2, i2, e2, p2, q2, r2, s2⟩ := next_ok l i1 3 hl r1 s1 (by omega) (by omega)
    obtain ⟨a3, i3, e3, p3, q3, r3, s3⟩ := next_ok l i2 3 hl r2 s2 (by omega) (by omega)
    obtain ⟨evs', acts', he, hn⟩ := ih i3 (evs ++ [⟨wrap64 (1 + a1), a2, a3⟩]) r3 s3 (by simp; omega) (by simp; omega)
    refine ⟨evs', acts', Ev.step (fun k => ?_) he, hn⟩
    simp only [railplankeep_Network.l0]
    rw [if_pos (by omega), e1, Option.bind_some, e2, Option.bind_some, e3, Option.bind_some, if_pos (by omega)]
    congr 1
    unfold wrap64
    omega
theorem network_ev (l : List Int) (hl : l.length ≤ 281474976710656) : ∃ per evs acts, Ev (fun k => railplankeep_Network.f k l) (per, evs, acts) ∧ NetIs per evs acts := by
  obtain ⟨a1, i1, e1, p1, q1, r1, s1⟩ := next_ok l 0 8 hl (by omega) (by omega) (by omega) (by omega)
  obtain ⟨a2, i2, e2, p2, q2, r2, s2⟩ := next_ok l i1 5 hl r1 s1 (by omega) (by omega)
  have w1 : wrap64 (2 + a1) = 2 + a1 := by unfold wrap64; omega
  obtain ⟨evs', acts', he, hn⟩ := l0_ev l hl (2 + a1) ⟨by omega, by omega⟩ (1 + a2).toNat i2 [] r2 s2 (by simp; omega) (by simp; omega)
  refine ⟨2 + a1, evs', acts', Ev.congr (fun k => ?_) he, hn⟩
  unfold railplankeep_Network.f railplankeep_From.f
  simp only [Option.bind_some]
  rw [e1, Option.bind_some, e2, Option.bind_some, w1]
  congr 1
  unfold wrap64
  omega
theorem NetIs.ok {per : Int} {evs : List S97} {acts : List S36} (h : NetIs per evs acts) : netOk per evs.length acts = true := by
  have := h.hper
  have := h.hevs
  have := h.hacts
  simp only [netOk, Bool.and_eq_true, decide_eq_true_eq, Bool.not_eq_true', List.any_eq_false]
  refine ⟨⟨⟨⟨by omega, by omega⟩, by omega⟩, by omega⟩, fun a ha => ?_⟩
  obtain ⟨⟨_, _⟩, ⟨_, _⟩, ⟨_, _⟩, _, ⟨_, _⟩, ⟨_, _⟩, ⟨_, _⟩⟩ := h.ends a ha
  simp [badAct, wrap64]
  omega
end Go.Proofs.Ytbkjplomoegbdaa.NetGen
