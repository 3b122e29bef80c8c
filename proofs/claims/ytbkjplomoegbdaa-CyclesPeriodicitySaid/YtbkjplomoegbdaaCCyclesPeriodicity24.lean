/- Parts of the proof of CyclesPeriodicity, gathered by a program of this claim out of texts that it or the kit's print wrote: lemmas alone, no condition of their own. -/
import Derived.Test.YtbkjplomoegbdaaCCyclesPeriodicity13
import Derived.Test.YtbkjplomoegbdaaCCyclesPeriodicity4
import Derived.Test.YtbkjplomoegbdaaCCyclesPeriodicity22
import Derived.Test.YtbkjplomoegbdaaCCyclesPeriodicity23
import Derived.Test.YtbkjplomoegbdaaCCyclesPeriodicity8
import Derived.Test.YtbkjplomoegbdaaCCyclesPeriodicity20
import Derived.Test.YtbkjplomoegbdaaCCyclesPeriodicity10
import Derived.Test.YtbkjplomoegbdaaCCyclesPeriodicity21
import Derived.Test.YtbkjplomoegbdaaCCyclesPeriodicity18
namespace Go.Proofs.Ytbkjplomoegbdaa.SumsLaw
open Go.RowKit Go.Proofs.Ytbkjplomoegbdaa.PB Go.Proofs.Ytbkjplomoegbdaa.RefTree Go.Proofs.YtbkjplomoegbdaaW.PrintWords Go.Proofs.YtbkjplomoegbdaaW.PrintLast Go.Proofs.YtbkjplomoegbdaaW.PrintMore
set_option linter.unusedVariables false
theorem rd_nat (l : List Int) (i : Nat) : rd l (i : Int) = l.getD i 0 := by unfold rd; rw [Int.toNat_natCast]
theorem wrap_succ {i n : Nat} (h : i < n) (hn : n ≤ 35184372088832) : wrap64 ((i : Int) + 1) = ((i + 1 : Nat) : Int) := by unfold wrap64; omega
def modV (a p : Int) : Int := if Int.tmod a p < 0 then wrap64 (Int.tmod a p + p) else Int.tmod a p
def lastsV (per : Int) (times : List Int) (a : S36) : Int := wrap64 (a.f3 + modV (wrap64 (wrap64 (times.getD a.f2.toNat 0 - times.getD a.f1.toNat 0) - a.f3)) per)
theorem mod_c (a p : Int) (h : 1 ≤ p) : arith_Mod.f a p = some (modV a p) := by
  unfold arith_Mod.f modV
  rw [if_neg (by omega), if_neg (by omega)]
  split <;> rfl
theorem mod_r (a p : Int) (h : 1 ≤ p) : railplanref1_Mod.f a p = some (modV a p) := by
  unfold railplanref1_Mod.f modV
  rw [if_neg (by omega), if_neg (by omega)]
  split <;> rfl
theorem acts_drop {acts : List S36} {i : Nat} (h : i < acts.length) : acts.drop i = acts.getD i z36 :: acts.drop (i + 1) := by
  rw [List.drop_eq_getElem_cons h]; simp [List.getD_eq_getElem?_getD, h]
theorem rdT (acts : List S36) (i : Nat) : rd_T36 acts (i : Int) = acts.getD i z36 := by unfold rd_T36; rw [Int.toNat_natCast]
theorem per_pos {per : Int} {n : Nat} {acts : List S36} (hok : netOk per n acts = true) : 1 ≤ per ∧ acts.length ≤ 512 := by simp [netOk] at hok; omega
section
variable {per : Int} {evs : List S97} {acts : List S36} {times : List Int}
theorem ends_in (hok : netOk per evs.length acts = true) (ht : times.length = evs.length) {i : Nat} (hi : i < acts.length) : 0 ≤ (acts.getD i z36).f1 ∧ (acts.getD i z36).f1 < (times.length : Int) ∧ 0 ≤ (acts.getD i z36).f2 ∧ (acts.getD i z36).f2 < (times.length : Int) := by
  obtain ⟨⟨a, b⟩, c, d⟩ := netOk_ends hok (getD_mem (z := z36) hi)
  omega
theorem tens_c (hok : netOk per evs.length acts = true) (ht : times.length = evs.length) : ∀ (d i : Nat) (acc : List Int), i + d = acts.length → acc.length = i → Ev (fun k => cycles_Tensions.l0 k times acc acts (acts.length : Int) (i : Int) per evs acts) (acc ++ (acts.drop i).map (lastsV per times), 0) := by
  have hp := per_pos hok
  intro d
  induction d with
  | zero =>
    intro i acc hi ha
    refine Ev.step (f := fun _ => some (acc, 0)) (fun k => ?_) ?_
    · simp only [cycles_Tensions.l0]
      rw [if_neg (by omega)]
    · rw [List.drop_eq_nil_of_le (by omega)]; simpa using Ev.now (acc, (0 : Int))
  | succ d ih =>
    intro i acc hi ha
    have hil : i < acts.length := by omega
    obtain ⟨h1, h2, h3, h4⟩ := ends_in hok ht hil
    rw [acts_drop hil, List.map_cons]
    refine Ev.step (f := fun k => cycles_Tensions.l0 k times (acc ++ [lastsV per times (acts.getD i z36)]) acts (acts.length : Int) ((i + 1 : Nat) : Int) per evs acts) (fun k => ?_) ?_
    · simp only [cycles_Tensions.l0, network_Lasts.f]
      rw [if_pos (by omega), if_pos (by omega), if_pos (by omega), rdT, if_pos h1, if_pos h2, if_pos h3, if_pos h4, mod_c _ _ hp.1, Option.bind_some, Option.bind_some, if_pos (by omega), wrap_succ hil (by omega)]
      rfl
    · have := ih (i + 1) (acc ++ [lastsV per times (acts.getD i z36)]) (by omega) (by simp [ha])
      simpa using this
end
def tensV (per : Int) (n : Nat) (acts : List S36) (times : List Int) : List Int × Int := if goodB per n acts times = true then (acts.map (lastsV per times), 0) else ([], 1)
theorem good_parts {per : Int} {n : Nat} {acts : List S36} {times : List Int} (h : goodB per n acts times = true) : netOk per n acts = true ∧ times.length = n := by
  simp only [goodB, Bool.and_eq_true, decide_eq_true_eq] at h
  exact ⟨h.1.1, h.1.2⟩
theorem tensions_c (per : Int) (evs : List S97) (acts : List S36) (times : List Int) : Ev (fun k => cycles_Tensions.f k per evs acts times) (tensV per evs.length acts times) := by
  unfold cycles_Tensions.f network_Good.f tensV
  simp only [Option.bind_some]
  cases h : goodB per evs.length acts times with
  | false => simpa using Ev.now (([] : List Int), (1 : Int))
  | true =>
    obtain ⟨a, b⟩ := good_parts h
    have := tens_c a b acts.length 0 [] (by omega) rfl
    simpa using this
def totW (values arcs signs : List Int) : Nat → Nat → Int → Int
  | 0, _, s => s
  | d + 1, i, s => totW values arcs signs d (i + 1) (wrap64 (s + wrap64 (signs.getD i 0 * values.getD (arcs.getD i 0).toNat 0)))
theorem rd_nn (l : List Int) {x : Int} : rd l x = l.getD x.toNat 0 := rfl
section
variable {values arcs signs : List Int}
theorem tot_c (hl : arcs.length ≤ 35184372088832) (hs : signs.length = arcs.length) (ha : ∀ i, i < arcs.length → 0 ≤ arcs.getD i 0 ∧ arcs.getD i 0 < values.length) : ∀ (d i : Nat) (s : Int), i + d = arcs.length → Ev (fun k => cycles_Total.l0 k values s arcs (arcs.length : Int) (i : Int) arcs signs) (totW values arcs signs d i s, 0) := by
  intro d
  induction d with
  | zero =>
    intro i s hi
    refine Ev.step (f := fun _ => some (s, 0)) (fun k => ?_) (Ev.now _)
    simp only [cycles_Total.l0]
    rw [if_neg (by omega)]
  | succ d ih =>
    intro i s hi
    obtain ⟨h1, h2⟩ := ha i (by omega)
    refine Ev.step (fun k => ?_) (ih (i + 1) _ (by omega))
    simp only [cycles_Total.l0]
    rw [if_pos (by omega), if_pos (by omega), if_pos (by omega), if_pos (by omega), rd_nat, rd_nat, if_pos h1, if_pos h2, wrap_succ (show i < arcs.length by omega) hl, rd_nn]
end
def totV (per : Int) (n : Nat) (acts : List S36) (arcs signs values : List Int) : Int × Int :=
  if cycB per n acts arcs signs = true then (if valuedE acts.length values = 0 then (totW values arcs signs arcs.length 0 0, 0) else (0, 4)) else (0, 1)
theorem cyc_parts {per : Int} {n : Nat} {acts : List S36} {arcs signs : List Int} (h : cycB per n acts arcs signs = true) : netOk per n acts = true ∧ 2 ≤ arcs.length ∧ arcs.length = signs.length ∧ ∀ i, i < arcs.length → arcOkB acts arcs signs i = true := by
  simp only [cycB, Bool.and_eq_true, decide_eq_true_eq] at h
  obtain ⟨⟨⟨⟨a, b⟩, c⟩, d⟩, _⟩ := h
  rw [List.all_eq_true] at d
  exact ⟨a, b, c, fun i hi => d i (List.mem_range.2 hi)⟩
theorem total_arcs {per : Int} {n : Nat} {acts : List S36} {arcs signs values : List Int} (h : cycB per n acts arcs signs = true) (hv : valuedE acts.length values = 0) :
    arcs.length ≤ 512 ∧ signs.length = arcs.length ∧ ∀ i, i < arcs.length → 0 ≤ arcs.getD i 0 ∧ arcs.getD i 0 < values.length := by
  obtain ⟨a, b, c, d⟩ := cyc_parts h
  have h1 := arcs_le (Nat.le_refl _) d
  have h2 : acts.length ≤ 512 := by simp [netOk] at a; omega
  have h3 : values.length = acts.length := by
    unfold valuedE at hv
    by_cases e : values.length ≠ acts.length ∨ values.any badValue = true
    · rw [if_pos e] at hv; omega
    · exact Classical.not_not.1 (fun h => e (.inl h))
  refine ⟨by omega, c.symm, fun i hi => ?_⟩
  have := d i hi
  simp only [arcOkB, Bool.and_eq_true, decide_eq_true_eq] at this
  rw [h3]
  exact ⟨this.1.1.1, this.1.1.2⟩
theorem total_c (per : Int) (evs : List S97) (acts : List S36) (arcs signs values : List Int) : Ev (fun k => cycles_Total.f k per evs acts arcs signs values) (totV per evs.length acts arcs signs values) := by
  unfold cycles_Total.f cycles_Check.f cycles_valued.f totV
  simp only [Option.bind_some]
  cases h : cycB per evs.length acts arcs signs with
  | false => simpa using Ev.now ((0 : Int), (1 : Int))
  | true =>
    simp only [if_true]
    by_cases hv : valuedE acts.length values = 0
    · simp only [if_pos hv]
      obtain ⟨a, b, c⟩ := total_arcs h hv
      exact tot_c (by omega) b c arcs.length 0 0 (by omega)
    · simp only [if_neg hv]
      have h4 : valuedE acts.length values = 4 := by
        unfold valuedE at hv ⊢
        split at hv
        · rename_i h; rw [if_pos h]
        · exact absurd rfl hv
      rw [h4]
      exact Ev.now _
end Go.Proofs.Ytbkjplomoegbdaa.SumsLaw
