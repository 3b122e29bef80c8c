/- Parts of the proof of CyclesPeriodicity, gathered by a program of this claim out of texts that it or the kit's print wrote: lemmas alone, no condition of their own. -/
import Derived.Test.YtbkjplomoegbdaaCCyclesPeriodicity19
import Derived.Test.YtbkjplomoegbdaaCCyclesPeriodicity8
import Derived.Test.YtbkjplomoegbdaaCCyclesPeriodicity16
import Derived.Test.YtbkjplomoegbdaaCCyclesPeriodicity6
import Derived.Deep.RegionHeld3
import Derived.StillTailTactics
import Derived.Test.YtbkjplomoegbdaaCCyclesPeriodicity18
import Derived.Test.YtbkjplomoegbdaaCCyclesPeriodicity14
section
namespace Go.Proofs.Ytbkjplomoegbdaa.FundLaw
open Go.RowKit Go.Proofs.Ytbkjplomoegbdaa.PB Go.Proofs.Ytbkjplomoegbdaa.Graph Go.Proofs.Ytbkjplomoegbdaa.Ways Go.Proofs.Ytbkjplomoegbdaa.RefTree Go.Proofs.Ytbkjplomoegbdaa.CutLaw Go.Proofs.Ytbkjplomoegbdaa.PathLaw Go.Proofs.YtbkjplomoegbdaaW.PrintWords Go.Proofs.YtbkjplomoegbdaaW.PrintLast Go.Proofs.YtbkjplomoegbdaaW.PrintMore
set_option linter.unusedVariables false
theorem way_get {E : Nat → Nat × Nat} {T : List Nat} : ∀ {l : List (Nat × Int)} {x y : Nat}, Ways.Way E T x y l → (nodes E x l).getD l.length 0 = y ∧ ∀ i, (h : i < l.length) → Ways.src E (l[i]) = (nodes E x l).getD i 0 ∧ dst E (l[i]) = (nodes E x l).getD (i + 1) 0
  | [], x, y, h => ⟨h, fun i hi => absurd hi (Nat.not_lt_zero _)⟩
  | p :: l, x, y, ⟨_, _, h3, h4⟩ => by
    obtain ⟨a, b⟩ := way_get h4
    rw [nodes_cons]
    refine ⟨by simpa using a, fun i hi => ?_⟩
    cases i with
    | zero => exact ⟨by simpa using h3.symm, by simp [nodes]⟩
    | succ i =>
      have := b i (by simpa using hi)
      simpa using this
theorem nodup_inj {α : Type} {l : List α} (h : l.Nodup) {a b : Nat} (ha : a < l.length) (hb : b < l.length) (e : l[a] = l[b]) : a = b := by
  rcases Nat.lt_trichotomy a b with c | c | c
  · exact absurd e (List.pairwise_iff_getElem.1 h a b ha hb c)
  · exact c
  · exact absurd e.symm (List.pairwise_iff_getElem.1 h b a hb ha c)
def fcyc (j : Nat) (l : List (Nat × Int)) : S41 := ⟨[(j : Int)] ++ l.map (fun p => (p.1 : Int)), [1] ++ l.map (·.2)⟩
theorem fcyc_arc (j : Nat) (l : List (Nat × Int)) (i : Nat) (h : i < l.length) : (fcyc j l).f0.getD (i + 1) 0 = ((l[i]).1 : Int) ∧ (fcyc j l).f1.getD (i + 1) 0 = (l[i]).2 := by
  constructor <;> simp [fcyc, List.getD_eq_getElem?_getD, h]
theorem fcyc_ok {per : Int} {n : Nat} {acts : List S36} (hok : netOk per n acts = true) {T : List Nat} (hT : ∀ i ∈ T, i < acts.length) {j : Nat} (hj : j < acts.length) (hjT : j ∉ T) {l : List (Nat × Int)}
    (hw : Ways.Way (edge acts) T (edge acts j).2 (edge acts j).1 l) (hn : (nodes (edge acts) (edge acts j).2 l).Nodup) : cycB per n acts (fcyc j l).f0 (fcyc j l).f1 = true := by
  obtain ⟨fj1, fj2, ej1, ej2, _, _, hne⟩ := edge_ok hok hj
  have hl0 : l ≠ [] := by
    rintro rfl
    exact hne hw.symm
  have hlen : 0 < l.length := List.length_pos_iff.2 hl0
  obtain ⟨hlast, hget⟩ := way_get hw
  have hNl : (nodes (edge acts) (edge acts j).2 l).length = l.length + 1 := by simp [nodes]
  obtain ⟨N, hN⟩ : ∃ N, nodes (edge acts) (edge acts j).2 l = N := ⟨_, rfl⟩
  rw [hN] at hlast hn hNl
  simp only [hN] at hget
  have h0 : N.getD 0 0 = (edge acts j).2 := by rw [← hN]; simp [nodes]
  have hal : (fcyc j l).f0.length = l.length + 1 := by simp [fcyc]
  have hsl : (fcyc j l).f1.length = l.length + 1 := by simp [fcyc]
  have hnd : ∀ a b, a < l.length + 1 → b < l.length + 1 → N.getD a 0 = N.getD b 0 → a = b := by
    intro a b ha hb e
    simp only [List.getD_eq_getElem?_getD, List.getElem?_eq_getElem (show a < N.length by omega), List.getElem?_eq_getElem (show b < N.length by omega), Option.getD_some] at e
    exact nodup_inj hn _ _ e
  have hst0 : stOf acts ((fcyc j l).f0.getD 0 0) ((fcyc j l).f1.getD 0 0) = (N.getD l.length 0 : Int) ∧ enOf acts ((fcyc j l).f0.getD 0 0) ((fcyc j l).f1.getD 0 0) = (N.getD 0 0 : Int) := by
    rw [hlast, h0]
    have e1 : (fcyc j l).f0.getD 0 0 = (j : Int) := by simp [fcyc]
    have e2 : (fcyc j l).f1.getD 0 0 = 1 := by simp [fcyc]
    rw [e1, e2]
    unfold stOf enOf
    rw [if_neg (by omega), if_neg (by omega), Int.toNat_natCast]
    exact ⟨fj1, fj2⟩
  have hsts : ∀ i, i < l.length → stOf acts ((fcyc j l).f0.getD (i + 1) 0) ((fcyc j l).f1.getD (i + 1) 0) = (N.getD i 0 : Int) ∧ enOf acts ((fcyc j l).f0.getD (i + 1) 0) ((fcyc j l).f1.getD (i + 1) 0) = (N.getD (i + 1) 0 : Int) := by
    intro i hi
    obtain ⟨e1, e2⟩ := fcyc_arc j l i hi
    rw [e1, e2]
    obtain ⟨g1, g2⟩ := hget i hi
    obtain ⟨hpT, hps⟩ := hw.mem (l[i]) (List.getElem_mem hi)
    obtain ⟨f1, f2, _, _, _⟩ := edge_ok hok (hT _ hpT)
    rw [← g1, ← g2]
    unfold stOf enOf Ways.src dst
    rw [Int.toNat_natCast]
    have c1 : ¬ ((1 : Int) < 0) := by decide
    have c2 : (-1 : Int) < 0 := by decide
    have c3 : ¬ ((-1 : Int) = 1) := by decide
    rcases hps with s | s
    · rw [s, if_neg c1, if_neg c1, if_pos (rfl : (1 : Int) = 1), if_pos (rfl : (1 : Int) = 1)]; exact ⟨f1, f2⟩
    · rw [s, if_pos c2, if_pos c2, if_neg c3, if_neg c3]; exact ⟨f2, f1⟩
  have gst : ∀ i, i < l.length + 1 → (stL acts (fcyc j l).f0 (fcyc j l).f1 (l.length + 1)).getD i 0 = stOf acts ((fcyc j l).f0.getD i 0) ((fcyc j l).f1.getD i 0) := fun i hi => by
    simp [stL, List.getD_eq_getElem?_getD, hi]
  have gen : ∀ i, i < l.length + 1 → (enL acts (fcyc j l).f0 (fcyc j l).f1 (l.length + 1)).getD i 0 = enOf acts ((fcyc j l).f0.getD i 0) ((fcyc j l).f1.getD i 0) := fun i hi => by
    simp [enL, List.getD_eq_getElem?_getD, hi]
  have stv : ∀ i, i < l.length + 1 → (stL acts (fcyc j l).f0 (fcyc j l).f1 (l.length + 1)).getD i 0 = (N.getD (if i = 0 then l.length else i - 1) 0 : Int) := by
    intro i hi
    rw [gst i hi]
    cases i with
    | zero => exact hst0.1
    | succ i => rw [if_neg (by omega)]; exact (hsts i (by omega)).1
  have env : ∀ i, i < l.length + 1 → (enL acts (fcyc j l).f0 (fcyc j l).f1 (l.length + 1)).getD i 0 = (N.getD i 0 : Int) := by
    intro i hi
    rw [gen i hi]
    cases i with
    | zero => exact hst0.2
    | succ i => exact (hsts i (by omega)).2
  refine cycB_true hok (by omega) (by omega) (fun i hi => ?_) (fun i hi => ?_)
  · have harc : (fcyc j l).f0.Nodup := by
      show ([(j : Int)] ++ l.map (fun p => (p.1 : Int))).Nodup
      rw [List.singleton_append, List.nodup_cons]
      refine ⟨fun h => ?_, ?_⟩
      · obtain ⟨p, hp, e⟩ := List.mem_map.1 h
        have : p.1 = j := by omega
        exact hjT (this ▸ (hw.mem p hp).1)
      · have := hw.arcs_nodup (hN ▸ hn)
        have e : l.map (fun p => (p.1 : Int)) = (l.map (·.1)).map (fun i : Nat => (i : Int)) := by rw [List.map_map]; rfl
        rw [e]
        exact List.Pairwise.map _ (fun a b h1 h2 => h1 (by omega)) this
    have hc : ((fcyc j l).f0.take i).contains ((fcyc j l).f0.getD i 0) = false := by
      rw [List.contains_eq_mem, decide_eq_false_iff_not]
      intro hm
      obtain ⟨q, hq, e⟩ := List.getElem_of_mem hm
      have hq' : q < i := by rw [List.length_take] at hq; omega
      rw [List.getElem_take] at e
      have e2 : (fcyc j l).f0.getD i 0 = (fcyc j l).f0[i] := by simp [List.getD_eq_getElem?_getD, hi]
      rw [e2] at e
      have := nodup_inj harc _ _ e
      omega
    unfold arcOkB
    rw [hc]
    cases i with
    | zero =>
      have e1 : (fcyc j l).f0.getD 0 0 = (j : Int) := by simp [fcyc]
      have e2 : (fcyc j l).f1.getD 0 0 = 1 := by simp [fcyc]
      rw [e1, e2, decide_eq_true (show (0 : Int) ≤ (j : Int) by omega), decide_eq_true (show (j : Int) < (acts.length : Int) by omega)]
      rfl
    | succ i =>
      obtain ⟨e1, e2⟩ := fcyc_arc j l i (by omega)
      obtain ⟨hpT, hps⟩ := hw.mem (l[i]'(by omega)) (List.getElem_mem _)
      have := hT _ hpT
      rw [e1, e2, decide_eq_true (by omega), decide_eq_true (by omega)]
      rcases hps with s | s <;> rw [s] <;> rfl
  · have hi' : i < l.length + 1 := by omega
    rw [hal]
    unfold rotB
    rw [stL_length]
    have hc : ((stL acts (fcyc j l).f0 (fcyc j l).f1 (l.length + 1)).take i).contains ((stL acts (fcyc j l).f0 (fcyc j l).f1 (l.length + 1)).getD i 0) = false := by
      rw [List.contains_eq_mem, decide_eq_false_iff_not]
      intro hm
      obtain ⟨q, hq, e⟩ := List.getElem_of_mem hm
      have hq' : q < i := by rw [List.length_take, stL_length] at hq; omega
      rw [List.getElem_take] at e
      have e2 : (stL acts (fcyc j l).f0 (fcyc j l).f1 (l.length + 1)).getD q 0 = (stL acts (fcyc j l).f0 (fcyc j l).f1 (l.length + 1)).getD i 0 := by
        rw [← e]
        simp [List.getD_eq_getElem?_getD, stL_length, show q < l.length + 1 by omega]
      rw [stv q (by omega), stv i hi'] at e2
      have := hnd _ _ (by split <;> omega) (by split <;> omega) (by omega : N.getD (if q = 0 then l.length else q - 1) 0 = N.getD (if i = 0 then l.length else i - 1) 0)
      rw [if_neg (show ¬ i = 0 by omega)] at this
      split at this <;> omega
    rw [hc, Bool.not_false, Bool.true_and, beq_iff_eq, env i hi']
    by_cases h1 : i + 1 < l.length + 1
    · rw [Nat.mod_eq_of_lt h1, stv (i + 1) h1, if_neg (by omega), Nat.add_sub_cancel]
    · rw [show i + 1 = l.length + 1 by omega, Nat.mod_self, stv 0 (by omega), if_pos rfl, show i = l.length by omega]
def fundTail (k : Nat) (x1 : List Int) (x6 : List (S41)) (x7 : Int) (x255000 : Int) (x255001 : List (S97)) (x255002 : List (S36)) (t256 : Bool) : Option ((List (S41)) × Int) :=
  if t256 = true then (railplanref11_Fundamental.l0 k x1 x6 (wrap64 (x7 + 1)) x255000 x255001 x255002) else (if 0 ≤ x7 then ((railplanref11_path.f x255000 x255001 x255002 x1 ((rd_T36 x255002 x7).f2) ((rd_T36 x255002 x7).f1)).bind fun bt259 => ((some (([x7] : List Int) : List Int)).bind fun y266 => (if y266.length + bt259.1.length < 17592186044416 then ((some (([1] : List Int) : List Int)).bind fun y272 => (if y272.length + bt259.2.1.length < 17592186044416 then (if x6.length < 2932031007402 then (railplanref11_Fundamental.l0 k x1 (x6 ++ [(⟨(y266 ++ bt259.1), (y272 ++ bt259.2.1)⟩ : S41)]) (wrap64 (x7 + 1)) x255000 x255001 x255002) else (none)) else (none))) else (none)))) else (none))
theorem fund_succ (k : Nat) (x1 : List Int) (x6 : List (S41)) (x7 : Int) (x255000 : Int) (x255001 : List (S97)) (x255002 : List (S36)) :
    railplanref11_Fundamental.l0 (k + 1) x1 x6 x7 x255000 x255001 x255002 = if x7 < (x255002.length : Int) then (railplanref11_has.f k x1 x7).bind (fundTail k x1 x6 x7 x255000 x255001 x255002) else some (x6, 0) := by
  simp only [railplanref11_Fundamental.l0]
  rfl
def IsFund (per : Int) (n : Nat) (acts : List S36) (T : List Nat) (c : S41) : Prop := ∃ j l, j < acts.length ∧ j ∉ T ∧ c = fcyc j l ∧ l.length < n ∧ Ways.Way (edge acts) T (edge acts j).2 (edge acts j).1 l ∧ (nodes (edge acts) (edge acts j).2 l).Nodup
theorem fund_l0 {per : Int} {evs : List S97} {acts : List S36} (hok : netOk per evs.length acts = true) {T : List Nat} (hT : ∀ i ∈ T, i < acts.length) (hTl : T.length ≤ 48) (hc : ∀ j, j < acts.length → Conn (edges acts T) (edge acts j).1 (edge acts j).2) :
    ∀ (d i : Nat) (cs : List S41), i + d = acts.length → cs.length ≤ i → (∀ c ∈ cs, IsFund per evs.length acts T c) →
      ∃ r, Ev (fun k => railplanref11_Fundamental.l0 k (ints T) cs (i : Int) per evs acts) (r, 0) ∧ (∀ c ∈ r, IsFund per evs.length acts T c) ∧ r.length ≤ acts.length ∧ (∀ c ∈ cs, c ∈ r) ∧ ∀ j, i ≤ j → j < acts.length → j ∉ T → ∃ l, fcyc j l ∈ r ∧ Ways.Way (edge acts) T (edge acts j).2 (edge acts j).1 l := by
  have hn : evs.length ≤ 48 := by simp [netOk] at hok; omega
  have ha : acts.length ≤ 512 := by simp [netOk] at hok; omega
  intro d
  induction d with
  | zero =>
    intro i cs hi hcs hcc
    refine ⟨cs, Ev.step (f := fun _ => some (cs, 0)) (fun k => ?_) (Ev.now _), hcc, by omega, fun c hc => hc, fun j h1 h2 => by omega⟩
    simp only [railplanref11_Fundamental.l0]
    rw [if_neg (by omega)]
  | succ d ih =>
    intro i cs hi hcs hcc
    have hil : i < acts.length := by omega
    have w1 : wrap64 ((i : Int) + 1) = ((i + 1 : Nat) : Int) := by unfold wrap64; omega
    have hh := has_ev (ints T) (i : Int) (by simp [ints]; omega)
    by_cases hm : i ∈ T
    · have hcn : (ints T).contains (i : Int) = true := by
        rw [List.contains_eq_mem, decide_eq_true_eq]
        exact List.mem_map.2 ⟨i, hm, rfl⟩
      rw [hcn] at hh
      obtain ⟨r, e1, e2, e3, e5, e4⟩ := ih (i + 1) cs (by omega) (by omega) hcc
      refine ⟨r, Ev.step (f := fun k => (railplanref11_has.f k (ints T) (i : Int)).bind (fundTail k (ints T) cs (i : Int) per evs acts)) (fun k => ?_) (Ev.bind hh ?_), e2, e3, e5, fun j h1 h2 h3 => ?_⟩
      · rw [fund_succ, if_pos (by omega)]
      · refine Ev.congr (fun k => ?_) e1
        unfold fundTail
        rw [if_pos rfl, w1]
      · rcases Nat.eq_or_lt_of_le h1 with h | h
        · exact absurd (h ▸ hm) h3
        · exact e4 j h h2 h3
    · have hcn : (ints T).contains (i : Int) = false := by
        rw [List.contains_eq_mem, decide_eq_false_iff_not]
        intro h
        obtain ⟨q, hq, e⟩ := List.mem_map.1 h
        have : q = i := by omega
        exact hm (this ▸ hq)
      rw [hcn] at hh
      obtain ⟨f1, f2, e1, e2, _⟩ := edge_ok hok hil
      obtain ⟨l, w, wn, wl, hp⟩ := path_way hok hT e2 e1 (hc i hil).symm
      obtain ⟨r, k1, k2, k3, k5, k4⟩ := ih (i + 1) (cs ++ [fcyc i l]) (by omega) (by simp; omega) (by
        intro c hcm
        rcases List.mem_append.1 hcm with h | h
        · exact hcc c h
        · rw [List.mem_singleton.1 h]
          exact ⟨i, l, hil, hm, rfl, wl, w, wn⟩)
      refine ⟨r, Ev.step (f := fun k => (railplanref11_has.f k (ints T) (i : Int)).bind (fundTail k (ints T) cs (i : Int) per evs acts)) (fun k => ?_) (Ev.bind hh ?_), k2, k3, (fun c hc => k5 c (by simp [hc])), fun j h1 h2 h3 => ?_⟩
      · rw [fund_succ, if_pos (by omega)]
      · refine Ev.congr (fun k => ?_) k1
        have hr : rd_T36 acts (i : Int) = acts.getD i z36 := by unfold rd_T36; rw [Int.toNat_natCast]
        unfold fundTail
        rw [if_neg (by simp), if_pos (by omega), hr, f1, f2, hp, Option.bind_some, Option.bind_some]
        rw [if_pos (by simp; omega), Option.bind_some, if_pos (by simp; omega), if_pos (by omega), w1]
        rfl
      · rcases Nat.eq_or_lt_of_le h1 with h | h
        · subst h
          exact ⟨l, k5 _ (by simp), w⟩
        · exact k4 j h h2 h3
theorem fundamental_ev {per : Int} {evs : List S97} {acts : List S36} (hok : netOk per evs.length acts = true) {T : List Nat} (hp : T.Pairwise (· < ·)) (hT : ∀ i ∈ T, i < acts.length) (hw : wins (edges acts T) (List.range evs.length) = T.length)
    (hc : ∀ j, j < acts.length → Conn (edges acts T) (edge acts j).1 (edge acts j).2) :
    ∃ r, Ev (fun k => railplanref11_Fundamental.f k per evs acts (ints T)) (r, 0) ∧ (∀ c ∈ r, IsFund per evs.length acts T c) ∧ r.length ≤ acts.length ∧ ∀ j, j < acts.length → j ∉ T → ∃ l, fcyc j l ∈ r ∧ Ways.Way (edge acts) T (edge acts j).2 (edge acts j).1 l := by
  have hTl : T.length ≤ 48 := by
    have h1 := (run_facts (edges acts T) [] _ (tells_range evs.length) (least_range evs.length) (edges_lt hok hT)).2.2
    rw [heads_range, hw] at h1
    have : evs.length ≤ 48 := by simp [netOk] at hok; omega
    omega
  obtain ⟨r, e1, e2, e3, _, e4⟩ := fund_l0 hok hT hTl hc acts.length 0 [] (by omega) (by simp) (by simp)
  refine ⟨r, Ev.congr (fun k => ?_) e1, e2, e3, fun j h1 h2 => e4 j (Nat.zero_le _) h1 h2⟩
  unfold railplanref11_Fundamental.f railplanref11_Forest.f
  rw [forestB_of hok hp hT hw hc, Option.bind_some, if_pos rfl]
  rfl
theorem IsFund.ok {per : Int} {n : Nat} {acts : List S36} (hok : netOk per n acts = true) {T : List Nat} (hT : ∀ i ∈ T, i < acts.length) {c : S41} (h : IsFund per n acts T c) : cycB per n acts c.f0 c.f1 = true := by
  obtain ⟨j, l, h1, h2, rfl, h4, h5, h6⟩ := h
  exact fcyc_ok hok hT h1 h2 h5 h6
end Go.Proofs.Ytbkjplomoegbdaa.FundLaw
end
section
namespace Go.Proofs.Ytbkjplomoegbdaa.PB
open Go.RowKit Go.Proofs.YtbkjplomoegbdaaW.PrintWords Go.Proofs.YtbkjplomoegbdaaW.PrintLast Go.Proofs.YtbkjplomoegbdaaW.PrintMore
set_option linter.unusedVariables false
set_option linter.unusedSimpArgs false
def badTime (per t : Int) : Bool := !(decide (0 ≤ t) && decide (t ≤ wrap64 (per - 1)))
theorem good_lit (per t : Int) (bn : Nat) (w : World) (hn : w.cell? ⟨bn, 0, none⟩ = some (.int .i64 per)) :
    Calls Try.prog 142 #[.int .i64 t, .pointer (some ⟨bn, 0, none⟩)] w fun e w' => e = .returned (.bool (badTime per t)) ∧ Below w.heap.size w w' := by
  have hu26 := Try.underlying26
  go_enter Try.func142, Try.ntmps142
  go_wp2_with (go_at_call 140; refine (within_b _ _ _ _).mono ?_; rintro e w' ⟨rfl, ⟨nd, rfl⟩⟩)
  go_ret
  refine ⟨congrArg (fun b => Ending.returned (Value.bool b)) (by unfold badTime; rw [Bool.not_and]), by repeat (first | exact Below.refl _ _ | apply below_alloc | apply pw_below_drewN | apply below_drew)⟩
def goodB (per : Int) (n : Nat) (acts : List S36) (times : List Int) : Bool := netOk per n acts && decide (times.length = n) && !(times.any (badTime per))
def network_Good.f (a0_0 : Int) (l0_1 : List (S97)) (l0_2 : List (S36)) (l1 : List Int) : Option (Bool) := some (goodB a0_0 l0_1.length l0_2 l1)
structure GoodS (w : World) (per : Int) (A : Option Addr) (n c : Nat) (W : World) : Prop where
  c0 : W.cell? ⟨w.heap.size, 0, none⟩ = some (.int .i64 per)
  c1 : W.cell? ⟨w.heap.size, 1, none⟩ = some (.slice A n c)
  bel : Below w.heap.size w W
  lt : w.heap.size < W.heap.size
theorem GoodS.after {w : World} {per : Int} {A : Option Addr} {n c : Nat} {W W' : World} (h : GoodS w per A n c W) (hb : Below W.heap.size W W') : GoodS w per A n c W' :=
  ⟨(hb.cell (p := ⟨w.heap.size, 0, none⟩) h.lt).trans h.c0, (hb.cell (p := ⟨w.heap.size, 1, none⟩) h.lt).trans h.c1, below_step h.bel hb, Nat.lt_of_lt_of_le h.lt hb.size⟩
theorem GoodS.drewN {w : World} {per : Int} {A : Option Addr} {n c : Nat} {W : World} (h : GoodS w per A n c W) (k : Nat) : GoodS w per A n c (W.drewN k) := ⟨h.c0, h.c1, pw_below_drewN h.bel k, h.lt⟩
theorem GoodS.drew {w : World} {per : Int} {A : Option Addr} {n c : Nat} {W : World} (h : GoodS w per A n c W) : GoodS w per A n c W.drew := h.drewN 1
set_option maxHeartbeats 2000000 in
set_option maxRecDepth 100000 in
theorem network_Good.calls (a0_0 : Int) (A0_1 : Option Addr) (c0_1 : Nat) (l0_1 : List (S97)) (A0_2 : Option Addr) (c0_2 : Nat) (l0_2 : List (S36)) (A1 : Option Addr) (c1 : Nat) (l1 : List Int) (r : Bool) (w : World) (hr0_1 : Kd.C k97 w A0_1 l0_1.length l0_1) (hc0_1 : l0_1.length ≤ c0_1) (hr0_2 : Kd.C k36 w A0_2 l0_2.length l0_2) (hc0_2 : l0_2.length ≤ c0_2) (hr1 : Kd.C (Kd.int .i64) w A1 l1.length l1) (hc1 : l1.length ≤ c1) (h : network_Good.f a0_0 l0_1 l0_2 l1 = some r) :
    Calls Try.prog 93 #[.agg #[.int .i64 a0_0, .slice A0_1 l0_1.length c0_1, .slice A0_2 l0_2.length c0_2], .slice A1 l1.length c1] w fun e w' => e = .returned (.bool r) ∧ Below w.heap.size w w' := by
  obtain rfl := Option.some.inj h
  clear h
  have hu26 := Try.underlying26
  have HC1 := Aside0.mk hr0_1
  have HC2 := Aside0.mk hr0_2
  have HCT := Aside0.mk hr1
  have hl1 := Aside0.mk hc0_1
  have hl2 := Aside0.mk hc0_2
  have m1 := Kd.C_max hr0_1
  have m2 := Kd.C_max hr1
  clear hr0_1 hr0_2 hc0_1 hc0_2 hr1 hc1
  have EG : Aside0 (∀ args W, (callFunc 142 args).run Try.prog W = .ok (.enter 142 args) W) := ⟨enters_of Try.func142 (by kernel_rfl) rfl⟩
  go_enter Try.func93, Try.ntmps93
  have HS : Aside0 (∀ cs, GoodS w a0_0 A0_1 l0_1.length c0_1 (w.alloc (.cells #[.int .i64 a0_0, .slice A0_1 l0_1.length c0_1, cs] 26))) := ⟨fun cs => ⟨(blk_cell (blk_new w (.cells #[.int .i64 a0_0, .slice A0_1 l0_1.length c0_1, cs] 26)) 0).trans rfl, (blk_cell (blk_new w (.cells #[.int .i64 a0_0, .slice A0_1 l0_1.length c0_1, cs] 26)) 1).trans rfl, below_alloc (Below.refl _ _) _, by simp⟩⟩
  go_wp2_with (first | (go_at_call 92; (with_reducible refine (network_Check.calls a0_0 A0_1 c0_1 l0_1 A0_2 c0_2 l0_2 _ _ (Kd.C_below HC1.out (HS.out _).bel) hl1.out (Kd.C_below HC2.out (HS.out _).bel) hl2.out rfl).mono ?_); rintro e w1 ⟨rfl, k0⟩; have k1 := Aside0.mk ((HS.out _).after k0); clear k0; have q0 := k1.out.c0; have q1 := k1.out.c1) | (go_at_call 117; (with_reducible refine (hasI_below (badTime a0_0) 142 #[.pointer (some ⟨w.heap.size, 0, none⟩)] A1 c1 l1 _ EG.out (Kd.C_below HCT.out k1.out.bel) ?hf).mono ?_); (case hf => intro W x hx hb; exact good_lit a0_0 x _ W ((k1.out.after hb).c0)); rintro e w2 ⟨rfl, k2⟩; have k3 := Aside0.mk (k1.out.after k2); clear k2))
  all_goals
    go_ret
    refine ⟨congrArg (fun b => Ending.returned (Value.bool b)) ?_, by first | exact k3.out.bel | exact k1.out.bel⟩
    rw [Bool.eq_iff_iff]
    simp [goodB, *]
    try omega
def badValue (v : Int) : Bool := decide (v < -131072) || decide (131072 < v)
theorem valued_lit (v : Int) (bm : Nat) (w : World) (hn : w.cell? ⟨bm, 0, none⟩ = some (.int .i64 131072)) :
    Calls Try.prog 143 #[.int .i64 v, .pointer (some ⟨bm, 0, none⟩)] w fun e w' => e = .returned (.bool (badValue v)) ∧ Below w.heap.size w w' := by
  go_enter Try.func143, Try.ntmps143
  go_wp2
  all_goals
    go_ret
    refine ⟨congrArg (fun b => Ending.returned (Value.bool b)) ?_, by repeat (first | exact Below.refl _ _ | apply below_alloc | apply pw_below_drewN | apply below_drew)⟩
    rw [Bool.eq_iff_iff]
    simp [badValue, wrap64]
    try omega
def valuedE (m : Nat) (values : List Int) : Int := if values.length ≠ m ∨ values.any badValue = true then 4 else 0
def cycles_valued.f (a0_0 : Int) (l0_1 : List (S97)) (l0_2 : List (S36)) (l1 : List Int) : Option (Int) := some (valuedE l0_2.length l1)
structure ValS (w : World) (A : Option Addr) (n c : Nat) (W : World) : Prop where
  c2 : W.cell? ⟨w.heap.size, 2, none⟩ = some (.slice A n c)
  m0 : W.cell? ⟨w.heap.size + 1, 0, none⟩ = some (.int .i64 131072)
  bel : Below w.heap.size w W
  lt : w.heap.size + 1 < W.heap.size
theorem ValS.after {w : World} {A : Option Addr} {n c : Nat} {W W' : World} (h : ValS w A n c W) (hb : Below W.heap.size W W') : ValS w A n c W' :=
  ⟨(hb.cell (p := ⟨w.heap.size, 2, none⟩) (by have := h.lt; simp; omega)).trans h.c2, (hb.cell (p := ⟨w.heap.size + 1, 0, none⟩) h.lt).trans h.m0, below_step h.bel hb, Nat.lt_of_lt_of_le h.lt hb.size⟩
theorem ValS.drewN {w : World} {A : Option Addr} {n c : Nat} {W : World} (h : ValS w A n c W) (k : Nat) : ValS w A n c (W.drewN k) := ⟨h.c2, h.m0, pw_below_drewN h.bel k, h.lt⟩
theorem ValS.drew {w : World} {A : Option Addr} {n c : Nat} {W : World} (h : ValS w A n c W) : ValS w A n c W.drew := h.drewN 1
set_option maxHeartbeats 2000000 in
set_option maxRecDepth 100000 in
theorem cycles_valued.calls (a0_0 : Int) (A0_1 : Option Addr) (c0_1 : Nat) (l0_1 : List (S97)) (A0_2 : Option Addr) (c0_2 : Nat) (l0_2 : List (S36)) (A1 : Option Addr) (c1 : Nat) (l1 : List Int) (r : Int) (w : World) (hr0_1 : Kd.C k97 w A0_1 l0_1.length l0_1) (hc0_1 : l0_1.length ≤ c0_1) (hr0_2 : Kd.C k36 w A0_2 l0_2.length l0_2) (hc0_2 : l0_2.length ≤ c0_2) (hr1 : Kd.C (Kd.int .i64) w A1 l1.length l1) (hc1 : l1.length ≤ c1) (h : cycles_valued.f a0_0 l0_1 l0_2 l1 = some r) :
    Calls Try.prog 95 #[.agg #[.int .i64 a0_0, .slice A0_1 l0_1.length c0_1, .slice A0_2 l0_2.length c0_2], .slice A1 l1.length c1] w fun e w' => e = .returned (.int .i64 r) ∧ Below w.heap.size w w' := by
  obtain rfl := Option.some.inj h
  clear h
  have hu26 := Try.underlying26
  have HCT := Aside0.mk hr1
  have m1 := Kd.C_max hr0_2
  have m2 := Kd.C_max hr1
  clear hr0_1 hr0_2 hc0_1 hc0_2 hr1 hc1
  have EG : Aside0 (∀ args W, (callFunc 143 args).run Try.prog W = .ok (.enter 143 args) W) := ⟨enters_of Try.func143 (by kernel_rfl) rfl⟩
  go_enter Try.func95, Try.ntmps95
  go_wp2_with (go_at_call 117; refine (hasI_below badValue 143 #[.pointer (some ⟨w.heap.size + 1, 0, none⟩)] A1 c1 l1 _ EG.out (Kd.C_below HCT.out (by repeat (first | exact Below.refl _ _ | apply below_alloc | apply pw_below_drewN | apply below_drew))) ?hf).mono ?_; (case hf => intro W x hx hb; exact valued_lit x _ W ((hb.cell (p := ⟨w.heap.size + 1, 0, none⟩) (by simp)).trans (by go_simp))); rintro e w2 ⟨rfl, k2⟩)
  all_goals
    go_ret
    refine ⟨congrArg (fun i => Ending.returned (Value.int .i64 i)) ?_, by first | (refine below_step ?_ k2; repeat (first | exact Below.refl _ _ | apply below_alloc)) | (repeat (first | exact Below.refl _ _ | apply below_alloc))⟩
    unfold valuedE
    first
      | rw [if_pos (show l1.length ≠ l0_2.length ∨ l1.any badValue = true from by first | exact .inl (by omega) | exact .inr (by assumption))]
      | rw [if_neg (show ¬ (l1.length ≠ l0_2.length ∨ l1.any badValue = true) from by rintro (h | h) <;> first | omega | contradiction | (simp_all; done))]
end Go.Proofs.Ytbkjplomoegbdaa.PB
end
section
namespace Go.Proofs.Ytbkjplomoegbdaa.PB
open Go.RowKit Go.Proofs.Ytbkjplomoegbdaa.RefTree Go.Proofs.YtbkjplomoegbdaaW.PrintWords Go.Proofs.YtbkjplomoegbdaaW.PrintLast Go.Proofs.YtbkjplomoegbdaaW.PrintMore
set_option linter.unusedVariables false
set_option linter.unusedSimpArgs false
structure AP (w0 : World) (cs cs' : Array Value) (bn bc ga : Nat) (cells : Array Value) (W : World) (va vb : Value) (st en : List Int) (lits : List (Nat × Int)) : Prop where
  cc : CC w0 cs cs' bn bc W va vb st en
  ha : W.heap[ga]? = some (.cells cells 36 (0, 0))
  na : some ga ≠ va.ownBlock ∧ some ga ≠ vb.ownBlock
  hl : ∀ x ∈ lits, W.heap[x.1]? = some (.cells #[.int .i64 x.2] 3 (0, 0)) ∧ some x.1 ≠ va.ownBlock ∧ some x.1 ≠ vb.ownBlock
namespace AP
variable {w0 : World} {cs cs' : Array Value} {bn bc ga : Nat} {cells : Array Value} {W W' w1 : World} {va vb v1 : Value} {st en : List Int} {lits : List (Nat × Int)}
theorem below (h : AP w0 cs cs' bn bc ga cells W va vb st en lits) (hb : Below W.heap.size W W') : AP w0 cs cs' bn bc ga cells W' va vb st en lits := ⟨h.cc.below hb, blk_below h.ha hb, h.na, fun x hx => ⟨blk_below (h.hl x hx).1 hb, (h.hl x hx).2⟩⟩
theorem drew (h : AP w0 cs cs' bn bc ga cells W va vb st en lits) : AP w0 cs cs' bn bc ga cells W.drew va vb st en lits := h.below (pw_below_drewN (Below.refl _ _) 1)
theorem lit (h : AP w0 cs cs' bn bc ga cells W va vb st en lits) (p : Int) : AP w0 cs cs' bn bc ga cells (W.alloc (.cells #[.int .i64 p] 3)) va vb st en ((W.heap.size, p) :: lits) := by
  have h2 := h.below (below_alloc (Below.refl W.heap.size W) (.cells #[.int .i64 p] 3))
  refine ⟨h2.cc, h2.ha, h2.na, fun x hx => ?_⟩
  rcases List.mem_cons.1 hx with rfl | hx
  · exact ⟨blk_new W _, fun e => absurd (Kd.R_lt h.cc.ra _ e.symm) (Nat.lt_irrefl _), fun e => absurd (Kd.R_lt h.cc.rb _ e.symm) (Nat.lt_irrefl _)⟩
  · exact h2.hl x hx
theorem own_or {v v1 : Value} {W : World} {g : Nat} (hat : v1.ownBlock = v.ownBlock ∨ ∃ b, v1.ownBlock = some b ∧ W.heap.size ≤ b) (hg : g < W.heap.size) (hne : some g ≠ v.ownBlock) : some g ≠ v1.ownBlock := by
  rcases hat with e | ⟨b, e, hb⟩
  · rw [e]; exact hne
  · rw [e]; intro h; injection h with h; omega
theorem pushA (h : AP w0 cs cs' bn bc ga cells W va vb st en lits) {xs : List Int} (ho : Kd.R (Kd.int .i64) 3 w1 w0.heap.size (fun k => (k ≠ bn ∧ k ≠ bc) ∧ some k ≠ vb.ownBlock) v1 xs) (hb : Below w0.heap.size w0 w1) (hg : W.grownBy w1 va.ownBlock) (hat : v1.ownBlock = va.ownBlock ∨ ∃ b, v1.ownBlock = some b ∧ W.heap.size ≤ b) : AP w0 cs cs' bn bc ga cells w1 v1 vb xs en lits :=
  ⟨h.cc.pushA ho hb hg hat, blk_grown h.ha hg h.na.1, ⟨own_or hat (blk_lt h.ha) h.na.1, h.na.2⟩, fun x hx => ⟨blk_grown (h.hl x hx).1 hg (h.hl x hx).2.1, own_or hat (blk_lt (h.hl x hx).1) (h.hl x hx).2.1, (h.hl x hx).2.2⟩⟩
theorem pushB (h : AP w0 cs cs' bn bc ga cells W va vb st en lits) {xs : List Int} (ho : Kd.R (Kd.int .i64) 3 w1 w0.heap.size (fun k => (k ≠ bn ∧ k ≠ bc) ∧ some k ≠ va.ownBlock) v1 xs) (hb : Below w0.heap.size w0 w1) (hg : W.grownBy w1 vb.ownBlock) (hat : v1.ownBlock = vb.ownBlock ∨ ∃ b, v1.ownBlock = some b ∧ W.heap.size ≤ b) : AP w0 cs cs' bn bc ga cells w1 va v1 st xs lits :=
  ⟨h.cc.pushB ho hb hg hat, blk_grown h.ha hg h.na.2, ⟨h.na.1, own_or hat (blk_lt h.ha) h.na.2⟩, fun x hx => ⟨blk_grown (h.hl x hx).1 hg (h.hl x hx).2.2, (h.hl x hx).2.1, own_or hat (blk_lt (h.hl x hx).1) (h.hl x hx).2.2⟩⟩
end AP
end Go.Proofs.Ytbkjplomoegbdaa.PB
end
