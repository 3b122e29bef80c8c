/- Parts of the proof of CyclesPeriodicity, gathered by a program of this claim out of texts that it or the kit's print wrote: lemmas alone, no condition of their own. -/
import Derived.Test.YtbkjplomoegbdaaCCyclesPeriodicity20
import Derived.Test.YtbkjplomoegbdaaCCyclesPeriodicity24
import Derived.Test.YtbkjplomoegbdaaCCyclesPeriodicity26
import Derived.Test.YtbkjplomoegbdaaCCyclesPeriodicity27
import Derived.Test.YtbkjplomoegbdaaCCyclesPeriodicity29
import Derived.Test.YtbkjplomoegbdaaCCyclesPeriodicity17
section
namespace Go.Proofs.Ytbkjplomoegbdaa.PerioLaw
open Go.RowKit Go.Proofs.Ytbkjplomoegbdaa.PB Go.Proofs.Ytbkjplomoegbdaa.Graph Go.Proofs.Ytbkjplomoegbdaa.Ways Go.Proofs.Ytbkjplomoegbdaa.RefTree Go.Proofs.Ytbkjplomoegbdaa.CutLaw Go.Proofs.Ytbkjplomoegbdaa.PathLaw Go.Proofs.Ytbkjplomoegbdaa.FundLaw Go.Proofs.Ytbkjplomoegbdaa.SumsLaw Go.Proofs.Ytbkjplomoegbdaa.NetGen Go.Proofs.YtbkjplomoegbdaaW.PrintWords Go.Proofs.YtbkjplomoegbdaaW.PrintLast Go.Proofs.YtbkjplomoegbdaaW.PrintMore
set_option linter.unusedVariables false
theorem modV_spec (a p : Int) (hp : 1 ≤ p) (hp9 : p ≤ 7200) (ha : -1000000 ≤ a ∧ a ≤ 1000000) : 0 ≤ modV a p ∧ modV a p < p ∧ p ∣ (a - modV a p) := by
  have h1 := Int.tmod_add_mul_tdiv a p
  have h2 : Int.tmod a p < p := by
    rcases Int.lt_or_le a 0 with h | h
    · have h5 := Int.neg_tmod a p
      have h6 := Int.tmod_nonneg p (show 0 ≤ -a by omega)
      omega
    · exact Int.tmod_lt_of_pos a (by omega)
  have h3 : -p < Int.tmod a p := by
    have := Int.neg_tmod a p
    rcases Int.lt_or_le a 0 with h | h
    · have h4 := Int.tmod_lt_of_pos (-a) (show 0 < p by omega)
      omega
    · have := Int.tmod_nonneg p h; omega
  unfold modV
  split
  · rename_i h
    have w : wrap64 (Int.tmod a p + p) = Int.tmod a p + p := by unfold wrap64; omega
    rw [w]
    refine ⟨by omega, by omega, ⟨Int.tdiv a p - 1, ?_⟩⟩
    rw [Int.mul_sub]; omega
  · refine ⟨by omega, by omega, ⟨Int.tdiv a p, by omega⟩⟩
theorem lasts_spec {per : Int} {evs : List S97} {acts : List S36} (h : NetIs per evs acts) {times : List Int} (hg : ∀ i, i < evs.length → 0 ≤ times.getD i 0 ∧ times.getD i 0 < per) {i : Nat} (hi : i < acts.length) :
    -9 ≤ lastsV per times (acts.getD i z36) ∧ lastsV per times (acts.getD i z36) ≤ 27 ∧ per ∣ (times.getD (edge acts i).2 0 - times.getD (edge acts i).1 0 - lastsV per times (acts.getD i z36)) := by
  have hp := h.hper
  have ha := h.ends _ (getD_mem (z := z36) hi)
  obtain ⟨_, _, e1, e2, _⟩ := edge_ok h.ok hi
  have b1 := hg _ e1
  have b2 := hg _ e2
  have l1 := ha.least
  unfold lastsV
  simp only [edge] at b1 b2 ⊢
  generalize times.getD (acts.getD i z36).f2.toNat 0 = tb at *
  generalize times.getD (acts.getD i z36).f1.toNat 0 = ta at *
  generalize (acts.getD i z36).f3 = m at *
  have w1 : wrap64 (tb - ta) = tb - ta := by unfold wrap64; omega
  have w2 : wrap64 (tb - ta - m) = tb - ta - m := by unfold wrap64; omega
  have key : -9 ≤ wrap64 (m + modV (wrap64 (wrap64 (tb - ta) - m)) per) ∧ wrap64 (m + modV (wrap64 (wrap64 (tb - ta) - m)) per) ≤ 27 ∧ per ∣ (tb - ta - wrap64 (m + modV (wrap64 (wrap64 (tb - ta) - m)) per)) := by
    rw [w1, w2]
    obtain ⟨m1, m2, m3⟩ := modV_spec (tb - ta - m) per (by omega) (by omega) (by omega)
    have w3 : wrap64 (m + modV (tb - ta - m) per) = m + modV (tb - ta - m) per := by unfold wrap64; omega
    rw [w3]
    refine ⟨by omega, by omega, ?_⟩
    rw [show tb - ta - (m + modV (tb - ta - m) per) = tb - ta - m - modV (tb - ta - m) per by omega]
    exact m3
  exact key
theorem totW_way (v : Nat → Int) (values : List Int) (hv : ∀ i, values.getD i 0 = v i) : ∀ (l : List (Nat × Int)) (pre : List (Nat × Int)) (s : Int), (∀ p ∈ l, (p.2 = 1 ∨ p.2 = -1) ∧ -100 ≤ v p.1 ∧ v p.1 ≤ 100) → -1000000000 ≤ s - 100 * l.length → s + 100 * l.length ≤ 1000000000 →
    totW values ((pre ++ l).map fun p => (p.1 : Int)) ((pre ++ l).map (·.2)) l.length pre.length s = s + val v l
  | [], pre, s, _, _, _ => by simp [totW, val]
  | p :: l, pre, s, hp, h1, h2 => by
    obtain ⟨hs, b1, b2⟩ := hp p (by simp)
    have g1 : ((pre ++ p :: l).map fun p => (p.1 : Int)).getD pre.length 0 = (p.1 : Int) := by simp [List.getD_eq_getElem?_getD]
    have g2 : ((pre ++ p :: l).map (·.2)).getD pre.length 0 = p.2 := by simp [List.getD_eq_getElem?_getD]
    simp only [List.length_cons] at h1 h2 ⊢
    unfold totW
    rw [g1, g2, Int.toNat_natCast, hv]
    have w1 : wrap64 (p.2 * v p.1) = p.2 * v p.1 := by rcases hs with e | e <;> rw [e] <;> unfold wrap64 <;> omega
    have w2 : wrap64 (s + p.2 * v p.1) = s + p.2 * v p.1 := by rcases hs with e | e <;> rw [e] <;> unfold wrap64 <;> omega
    rw [w1, w2]
    have ih := totW_way v values hv l (pre ++ [p]) (s + p.2 * v p.1) (fun q hq => hp q (by simp [hq])) (by rcases hs with e | e <;> rw [e] <;> omega) (by rcases hs with e | e <;> rw [e] <;> omega)
    rw [List.append_assoc, List.singleton_append, List.length_append, List.length_singleton] at ih
    rw [ih]
    simp only [val]
    omega
theorem perio {per : Int} {evs : List S97} {acts : List S36} (h : NetIs per evs acts) {T : List Nat} (hT : ∀ i ∈ T, i < acts.length) {times : List Int} (hg : ∀ i, i < evs.length → 0 ≤ times.getD i 0 ∧ times.getD i 0 < per) {c : S41} (hc : IsFund per evs.length acts T c) :
    ∃ s, totV per evs.length acts c.f0 c.f1 (acts.map (lastsV per times)) = (s, 0) ∧ modV s per = 0 := by
  have hok := h.ok
  have hcyc := hc.ok hok hT
  have hper := h.hper
  have hval : valuedE acts.length (acts.map (lastsV per times)) = 0 := by
    unfold valuedE
    rw [if_neg]
    rintro (h1 | h1)
    · simp at h1
    · rw [List.any_eq_true] at h1
      obtain ⟨x, hx, hb⟩ := h1
      obtain ⟨a, ha, rfl⟩ := List.mem_map.1 hx
      obtain ⟨i, hi, rfl⟩ := List.getElem_of_mem ha
      have e : acts[i] = acts.getD i z36 := by simp [List.getD_eq_getElem?_getD, hi]
      obtain ⟨b1, b2, _⟩ := lasts_spec h hg hi
      rw [e] at hb
      unfold badValue at hb
      simp only [Bool.or_eq_true, decide_eq_true_eq] at hb
      omega
  obtain ⟨j, l, hj, hjT, rfl, hl, hw, hn⟩ := hc
  have hev := h.hevs
  have hvals : ∀ i, (acts.map (lastsV per times)).getD i 0 = if i < acts.length then lastsV per times (acts.getD i z36) else 0 := by
    intro i
    by_cases hi : i < acts.length
    · rw [if_pos hi]; simp [List.getD_eq_getElem?_getD, hi]
    · rw [if_neg hi]; simp [List.getD_eq_getElem?_getD, hi]
  have hin : ∀ p ∈ ((j, (1 : Int)) :: l), p.1 < acts.length ∧ (p.2 = 1 ∨ p.2 = -1) := by
    intro p hp
    rcases List.mem_cons.1 hp with rfl | hp
    · exact ⟨hj, .inl rfl⟩
    · exact ⟨hT _ (hw.mem p hp).1, (hw.mem p hp).2⟩
  have htot := totW_way (fun i => if i < acts.length then lastsV per times (acts.getD i z36) else 0) (acts.map (lastsV per times)) hvals ((j, 1) :: l) [] 0 (fun p hp => by
    obtain ⟨h1, h2⟩ := hin p hp
    obtain ⟨b1, b2, _⟩ := lasts_spec h hg h1
    refine ⟨h2, ?_⟩
    simp only [if_pos h1]
    omega) (by simp; omega) (by simp; omega)
  have hway : Ways.Way (edge acts) (j :: T) (edge acts j).1 (edge acts j).1 ((j, 1) :: l) := by
    refine ⟨by simp, .inl rfl, rfl, ?_⟩
    exact hw.mono fun p hp => List.mem_cons_of_mem _ (hw.mem p hp).1
  have htele := hway.tele (per := per) (v := fun i => if i < acts.length then lastsV per times (acts.getD i z36) else 0) (t := fun i => times.getD i 0) (fun p hp => by
    obtain ⟨h1, _⟩ := hin p hp
    simp only [if_pos h1]
    exact (lasts_spec h hg h1).2.2)
  refine ⟨totW (acts.map (lastsV per times)) (fcyc j l).f0 (fcyc j l).f1 (fcyc j l).f0.length 0 0, ?_, ?_⟩
  · unfold totV
    rw [if_pos hcyc, if_pos hval]
  · have e : totW (acts.map (lastsV per times)) (fcyc j l).f0 (fcyc j l).f1 (fcyc j l).f0.length 0 0 = val (fun i => if i < acts.length then lastsV per times (acts.getD i z36) else 0) ((j, 1) :: l) := by
      have e2 : (fcyc j l).f0.length = ((j, (1 : Int)) :: l).length := by simp [fcyc]
      rw [e2]
      have := htot
      rw [Int.zero_add] at this
      exact this
    rw [e]
    obtain ⟨q, hq⟩ := htele
    rw [Int.sub_self, Int.zero_sub] at hq
    generalize val (fun i => if i < acts.length then lastsV per times (acts.getD i z36) else 0) ((j, 1) :: l) = s at hq
    have hs : s = per * (-q) := by rw [Int.mul_neg]; omega
    unfold modV
    rw [hs, Int.mul_tmod_right, if_neg (by omega)]
theorem times_l0 {per : Int} (hper : 2 ≤ per ∧ per ≤ 9) (evs : List S97) (acts : List S36) (src : List Int) (hl : src.length ≤ 281474976710656) (n : Nat) (hn : n ≤ 48) : ∀ (d i : Nat) (acc : List Int) (q : Int), i + d = n → acc.length = n → 0 ≤ q → q ≤ (src.length : Int) → (∀ j, j < n → 0 ≤ acc.getD j 0 ∧ acc.getD j 0 < per) →
    ∃ r, Ev (fun k => railplankeep_Times.l0 k acc (n : Int) (i : Int) per evs acts src q) r ∧ r.length = n ∧ ∀ j, j < n → 0 ≤ r.getD j 0 ∧ r.getD j 0 < per := by
  intro d
  induction d with
  | zero =>
    intro i acc q hi ha h0 h1 hg
    refine ⟨acc, Ev.step (f := fun _ => some acc) (fun k => ?_) (Ev.now _), ha, hg⟩
    simp only [railplankeep_Times.l0]
    rw [if_neg (by omega)]
  | succ d ih =>
    intro i acc q hi ha h0 h1 hg
    obtain ⟨x, q', e, x0, x1, y0, y1⟩ := next_ok src q per hl h0 h1 (by omega) (by omega)
    obtain ⟨r, k1, k2, k3⟩ := ih (i + 1) (acc.set i x) q' (by omega) (by simp [ha]) y0 y1 (fun j hj => by
      rw [PathLaw.getD_set _ _ _ _ _ (by omega)]
      split
      · exact ⟨x0, x1⟩
      · exact hg j hj)
    refine ⟨r, Ev.step (fun k => ?_) k1, k2, k3⟩
    simp only [railplankeep_Times.l0]
    rw [if_pos (by omega), e, Option.bind_some, if_pos (by omega), if_pos (by omega), Int.toNat_natCast, wrap_succ (show i < n by omega) (by omega)]
theorem times_ev {per : Int} {evs : List S97} {acts : List S36} (h : NetIs per evs acts) (src : List Int) (hl : src.length ≤ 281474976710656) :
    ∃ r, Ev (fun k => railplankeep_Times.f k per evs acts src) r ∧ r.length = evs.length ∧ ∀ j, j < evs.length → 0 ≤ r.getD j 0 ∧ r.getD j 0 < per := by
  have hev := h.hevs
  obtain ⟨r, k1, k2, k3⟩ := times_l0 h.hper evs acts src hl evs.length (by omega) evs.length 0 (List.replicate evs.length 0) 0 (by omega) (by simp) (by omega) (by omega) (fun j hj => by
    have := h.hper
    have e : (List.replicate evs.length (0 : Int)).getD j 0 = 0 := by simp [List.getD_eq_getElem?_getD, hj]
    rw [e]; omega)
  refine ⟨r, Ev.congr (fun k => ?_) k1, k2, k3⟩
  unfold railplankeep_Times.f railplankeep_From.f
  rw [Option.bind_some, if_pos (by omega), if_pos (by omega), Option.bind_some, Int.toNat_natCast, List.length_replicate]
  rfl
theorem good_of {per : Int} {evs : List S97} {acts : List S36} (h : NetIs per evs acts) {times : List Int} (hl : times.length = evs.length) (hg : ∀ i, i < evs.length → 0 ≤ times.getD i 0 ∧ times.getD i 0 < per) : goodB per evs.length acts times = true := by
  have hp := h.hper
  unfold goodB
  rw [h.ok, decide_eq_true hl, Bool.true_and, Bool.true_and, Bool.not_eq_true', List.any_eq_false]
  intro x hx
  obtain ⟨i, hi, rfl⟩ := List.getElem_of_mem hx
  have := hg i (by omega)
  have e : times.getD i 0 = times[i] := by simp [List.getD_eq_getElem?_getD, hi]
  rw [e] at this
  unfold badTime
  have w : wrap64 (per - 1) = per - 1 := by unfold wrap64; omega
  rw [w, decide_eq_true this.1, decide_eq_true (show times[i] ≤ per - 1 by omega)]
  simp
theorem awake12 : railplanlaw12_awake.f = some true := by kernel_rfl
end Go.Proofs.Ytbkjplomoegbdaa.PerioLaw
end
section
namespace Go.Proofs.Ytbkjplomoegbdaa.PB
open Go.RowKit Go.Proofs.Ytbkjplomoegbdaa.Graph Go.Proofs.Ytbkjplomoegbdaa.RefTree Go.Proofs.Ytbkjplomoegbdaa.CutLaw Go.Proofs.Ytbkjplomoegbdaa.FundLaw Go.Proofs.Ytbkjplomoegbdaa.SumsLaw Go.Proofs.Ytbkjplomoegbdaa.NetGen Go.Proofs.Ytbkjplomoegbdaa.PerioLaw Go.Proofs.YtbkjplomoegbdaaW.PrintWords Go.Proofs.YtbkjplomoegbdaaW.PrintLast Go.Proofs.YtbkjplomoegbdaaW.PrintMore
set_option linter.unusedVariables false
set_option linter.unusedSimpArgs false
def railplanlaw12_CyclesPeriodicity.Pure : Prop := True
set_option maxHeartbeats 4000000 in
set_option maxRecDepth 100000 in
theorem law5_calls (A0 : Option Addr) (c0 : Nat) (l0 : List Int) (A1 : Option Addr) (c1 : Nat) (l1 : List Int) (a2 : Int) (w : World) (hr0 : Kd.C (Kd.int .i64) w A0 l0.length l0) (hc0 : l0.length ≤ c0) (hr1 : Kd.C (Kd.int .i64) w A1 l1.length l1) (hc1 : l1.length ≤ c1) (hl0 : l0.length ≤ 281474976710656) (hl1 : l1.length ≤ 281474976710656) :
    Calls Try.prog 5 #[.slice A0 l0.length c0, .slice A1 l1.length c1, .int .i64 a2] w fun e w' => e = .returned (.bool true) ∧ Below w.heap.size w w' := by
  have hu26 := Try.underlying26
  have hu41 := Try.underlying41
  obtain ⟨per, evs, acts, hnet, his⟩ := network_ev l0 hl0
  obtain ⟨tm, htm, htl, htg⟩ := times_ev his l1 hl1
  have hgood := good_of his htl htg
  have hten := tensions_c per evs acts tm
  rw [show tensV per evs.length acts tm = (acts.map (lastsV per tm), 0) by unfold tensV; rw [if_pos hgood]] at hten
  obtain ⟨T, htree, hp, hT, hw, hc⟩ := tree_ev his.ok
  obtain ⟨r, hfund, hisf, hrl, _⟩ := fundamental_ev his.ok hp hT hw hc
  have hacts := his.hacts
  have hevs := his.hevs
  have hper := his.hper
  obtain ⟨kn, hkn⟩ := hnet.rounds
  obtain ⟨km, hkm⟩ := htm.rounds
  obtain ⟨kt, hkt⟩ := hten.rounds
  obtain ⟨kr, hkr⟩ := htree.rounds
  obtain ⟨kf, hkf⟩ := hfund.rounds
  have HKN := Aside0.mk hkn
  have HKM := Aside0.mk hkm
  have HKT := Aside0.mk hkt
  have HKR := Aside0.mk (show railplanref11_Tree.f kr per evs acts = some (ints T) from hkr)
  have HKF := Aside0.mk hkf
  have HC0 := Aside0.mk hr0
  have HC1 := Aside0.mk hr1
  have Hc0 := Aside0.mk hc0
  have Hc1 := Aside0.mk hc1
  have HXL := Aside0.mk (show (acts.map (lastsV per tm)).length = acts.length by simp)
  have HFIN := Aside0.mk (fun (c : S41) (h : c ∈ r) => perio his hT htg (hisf c h))
  clear hnet htm hten htree hfund hkn hkm hkt hkr hkf hr0 hr1 hc0 hc1 hw hc hp hT hisf hgood htg htl
  generalize acts.map (lastsV per tm) = xs at *
  go_enter Try.func5, Try.ntmps5
  go_wp2_with ((go_at_call 31; (with_reducible refine (railplankeep_Network.calls kn A0 c0 l0 per evs acts w HC0.out Hc0.out HKN.out).mono ?_); rintro e w1 ⟨v1, v2, rfl, ho1, ho2, hb⟩; obtain ⟨B1, d1, ev1⟩ := Kd.R_slice ho1; subst ev1; obtain ⟨B2, d2, ev2⟩ := Kd.R_slice ho2; subst ev2; obtain ⟨z1, hd1, hC1⟩ := Kd.R_reads' ho1; obtain ⟨z2, hd2, hC2⟩ := Kd.R_reads' ho2; clear z1 z2; have HD1 := Aside0.mk hd1; have HD2 := Aside0.mk hd2; have HE1 := Aside0.mk hC1; have HE2 := Aside0.mk hC2; have HB1 := Aside0.mk hb; have HM1 := Aside0.mk (Kd.C_max hC1); clear ho1 ho2 hd1 hd2 hC1 hC2 hb))
  have hn0 := blk_new w1 (.cells #[.int .i64 per, .slice B1 evs.length d1, .slice B2 acts.length d2] 26)
  have HW0 := Aside0.mk (below_alloc (Below.refl w1.heap.size w1) (.cells #[.int .i64 per, .slice B1 evs.length d1, .slice B2 acts.length d2] 26))
  generalize w1.alloc (.cells #[.int .i64 per, .slice B1 evs.length d1, .slice B2 acts.length d2] 26) = W0 at hn0 HW0 ⊢
  have q0 : W0.cell? ⟨w1.heap.size, 0, none⟩ = some (.int .i64 per) := (blk_cell hn0 0).trans rfl
  have q1 : W0.cell? ⟨w1.heap.size, 1, none⟩ = some (.slice B1 evs.length d1) := (blk_cell hn0 1).trans rfl
  have q2 : W0.cell? ⟨w1.heap.size, 2, none⟩ = some (.slice B2 acts.length d2) := (blk_cell hn0 2).trans rfl
  have HN0 := Aside0.mk (blk_drewN hn0 1)
  have HX0 := Aside0.mk (pw_below_drewN HW0.out 1)
  clear hn0 HW0
  generalize w1.heap.size = bn at q0 q1 q2 HN0 ⊢
  go_region_held3 (fun W => W.cell? ⟨bn, 0, none⟩ = some (.int .i64 per) ∧ W.cell? ⟨bn, 1, none⟩ = some (.slice B1 evs.length d1) ∧ W.cell? ⟨bn, 2, none⟩ = some (.slice B2 acts.length d2))
    (first | exact ⟨q0, q1, q2⟩ | exact k0 | go_keep)
    ((first | (go_at_call 37; (with_reducible refine (railplankeep_Times.calls km per B1 d1 evs B2 d2 acts A1 c1 l1 tm _ ?a1 HD1.out ?a2 HD2.out ?a3 Hc1.out HKM.out).mono ?_); (case a1 => exact Kd.C_below HE1.out HX0.out); (case a2 => exact Kd.C_below HE2.out HX0.out); (case a3 => exact Kd.C_below HC1.out (below_step HB1.out HX0.out)); rintro e w2 ⟨v3, rfl, ho3, hb3⟩; obtain ⟨Am, cm, ev3⟩ := Kd.R_slice ho3; subst ev3; have HO3 := Aside0.mk ho3; have HX1 := Aside0.mk (below_step HX0.out hb3); have HN1 := Aside0.mk (blk_below HN0.out hb3); have k0 : w2.cell? ⟨bn, 0, none⟩ = some (.int .i64 per) ∧ w2.cell? ⟨bn, 1, none⟩ = some (.slice B1 evs.length d1) ∧ w2.cell? ⟨bn, 2, none⟩ = some (.slice B2 acts.length d2) := ⟨(blk_cell HN1.out 0).trans rfl, (blk_cell HN1.out 1).trans rfl, (blk_cell HN1.out 2).trans rfl⟩; clear ho3 hb3) | (go_at_call 42; (with_reducible refine (cycles_Tensions.calls kt per B1 d1 evs B2 d2 acts Am cm tm xs 0 _ ?a1 HD1.out ?a2 HD2.out ?a3 ?a4 HKT.out).mono ?_); (case a1 => exact Kd.C_below HE1.out HX1.out); (case a2 => exact Kd.C_below HE2.out HX1.out); (case a3 => exact (Kd.R_reads' HO3.out).2.2); (case a4 => exact (Kd.R_reads' HO3.out).2.1); rintro e w3 ⟨v4, rfl, ho4, hb4⟩; obtain ⟨Ax, cx, ev4⟩ := Kd.R_slice ho4; subst ev4; have HO4 := Aside0.mk (And.intro (Kd.R_reads' ho4).2.1 (Kd.R_reads' ho4).2.2); have HX2 := Aside0.mk (below_step HX1.out hb4); have HN2 := Aside0.mk (blk_below HN1.out hb4); clear k0; have k0 : w3.cell? ⟨bn, 0, none⟩ = some (.int .i64 per) ∧ w3.cell? ⟨bn, 1, none⟩ = some (.slice B1 evs.length d1) ∧ w3.cell? ⟨bn, 2, none⟩ = some (.slice B2 acts.length d2) := ⟨(blk_cell HN2.out 0).trans rfl, (blk_cell HN2.out 1).trans rfl, (blk_cell HN2.out 2).trans rfl⟩; clear ho4 hb4)))
  obtain ⟨p0, p1, p2⟩ := k0
  clear q0 q1 q2 HN0 HN1 HX0 HX1 HO3 HKN HKM HKT HC0 HC1 Hc0 Hc1
  by_cases hr : r = []
  · subst hr
    go_wp2_with (first | (go_at_call 38; (with_reducible refine (cycle_none kr kf per B1 d1 evs B2 d2 acts a2 (ints T) w3 ?a1 HD1.out ?a2 HD2.out HKR.out HKF.out).mono ?_); (case a1 => exact Kd.C_below HE1.out HX2.out); (case a2 => exact Kd.C_below HE2.out HX2.out); rintro e w4 ⟨rfl, hb4⟩; have HX3 := Aside0.mk (below_step HX2.out hb4); have HN3 := Aside0.mk (blk_below HN2.out hb4); clear p0 p1 p2 hb4) | (go_at_call 39; refine (railplanlaw12_awake.calls true _ awake12).mono ?_; rintro e w5 ⟨rfl, hb5⟩; have HX4 := Aside0.mk (below_step (below_alloc HX3.out (.cells #[.slice none 0 0, .slice none 0 0] 41)) hb5); have HN4 := Aside0.mk (blk_below (blk_alloc HN3.out (.cells #[.slice none 0 0, .slice none 0 0] 41)) hb5); have p2 : w5.cell? ⟨bn, 2, none⟩ = some (.slice B2 acts.length d2) := (blk_cell HN4.out 2).trans rfl; clear hb5))
    go_ret
    refine ⟨?_, below_step HB1.out HX4.out⟩
    rw [HXL.out]
    simp
  · have hr0 : 0 < r.length := List.length_pos_iff.2 hr
    obtain ⟨x, hx, hx0, hx1⟩ := pick_ok a2 (r.length : Int) (by omega) (by omega)
    have hmem : rd_T41 r x ∈ r := by
      have hx2 : x.toNat < r.length := by omega
      unfold rd_T41
      simp [List.getD_eq_getElem?_getD, hx2]
    obtain ⟨s, hs, hms⟩ := HFIN.out _ hmem
    have htot := total_c per evs acts (rd_T41 r x).f0 (rd_T41 r x).f1 xs
    rw [hs] at htot
    obtain ⟨ks, hks⟩ := htot.rounds
    have HKS := Aside0.mk hks
    have HMS := Aside0.mk (show railplanref1_Mod.f s per = some 0 by rw [mod_r s per (by omega), hms])
    have HPX := Aside0.mk hx
    have HRL := Aside0.mk hrl
    clear hks htot hs hms hx hmem hrl hr HFIN
    have hCY := cycle_some kr kf per B1 d1 evs B2 d2 acts a2 (ints T) r x w3 (Kd.C_below HE1.out HX2.out) HD1.out (Kd.C_below HE2.out HX2.out) HD2.out HKR.out HKF.out hr0 (by have := HRL.out; omega) HPX.out hx0 hx1
    generalize rd_T41 r x = c at hCY HKS
    have HCY := Aside0.mk hCY
    clear hCY hx0 hx1 hr0
    go_wp2_with (first | (go_at_call 38; (with_reducible refine HCY.out.mono ?_); rintro e w4 ⟨F0, e0, F1, e1, rfl, ⟨g0, gC0⟩, ⟨g1, gC1⟩, hb4⟩; have HX3 := Aside0.mk (below_step HX2.out hb4); have HN3 := Aside0.mk (blk_below HN2.out hb4); have HG0 := Aside0.mk g0; have HG1 := Aside0.mk g1; have HGC0 := Aside0.mk gC0; have HGC1 := Aside0.mk gC1; have HOX := Aside0.mk (Kd.C_below HO4.out.2 hb4); clear p0 p1 p2 g0 g1 gC0 gC1 hb4; have z0 : ∀ o, (w4.alloc o).cell? ⟨bn, 0, none⟩ = some (.int .i64 per) := (fun o => (blk_cell (blk_alloc HN3.out o) 0).trans rfl); have z1 : ∀ o, (w4.alloc o).cell? ⟨bn, 1, none⟩ = some (.slice B1 evs.length d1) := (fun o => (blk_cell (blk_alloc HN3.out o) 1).trans rfl); have z2 : ∀ o, (w4.alloc o).cell? ⟨bn, 2, none⟩ = some (.slice B2 acts.length d2) := (fun o => (blk_cell (blk_alloc HN3.out o) 2).trans rfl)) | (go_at_call 43; (with_reducible refine (cycles_Total.calls ks per B1 d1 evs B2 d2 acts F0 e0 c.f0 F1 e1 c.f1 Ax cx xs s 0 _ ?a1 HD1.out ?a2 HD2.out ?a3 HG0.out ?a4 HG1.out ?a5 HO4.out.1 HKS.out).mono ?_); (case a1 => exact Kd.C_alloc (Kd.C_below HE1.out HX3.out) _); (case a2 => exact Kd.C_alloc (Kd.C_below HE2.out HX3.out) _); (case a3 => exact Kd.C_alloc HGC0.out _); (case a4 => exact Kd.C_alloc HGC1.out _); (case a5 => exact Kd.C_alloc HOX.out _); rintro e w5 ⟨rfl, hb5⟩; have HX4 := Aside0.mk (below_step (below_alloc HX3.out (.cells #[.slice F0 c.f0.length e0, .slice F1 c.f1.length e1] 41)) hb5); have HN4 := Aside0.mk (blk_below (blk_alloc HN3.out (.cells #[.slice F0 c.f0.length e0, .slice F1 c.f1.length e1] 41)) hb5); clear hb5 z0 z1 z2) | (go_at_call 39; refine (railplanlaw12_awake.calls true _ awake12).mono ?_; rintro e w6 ⟨rfl, hb6⟩; have HX5 := Aside0.mk (below_step HX4.out hb6); have HN5 := Aside0.mk (blk_below HN4.out hb6); have p0 : w6.cell? ⟨bn, 0, none⟩ = some (.int .i64 per) := (blk_cell HN5.out 0).trans rfl; clear hb6) | (go_at_call 44; refine (railplanref1_Mod.calls s per 0 _ HMS.out).mono ?_; rintro e w7 ⟨rfl, ⟨nd, rfl⟩⟩))
    go_ret
    exact ⟨rfl, below_step HB1.out (pw_below_drewN HX5.out _)⟩
theorem railplanlaw12_CyclesPeriodicity.walk (P : railplanlaw12_CyclesPeriodicity.Pure) (a0 : Option Addr) (len0 cap0 : Nat) (z0 : List Int) (a1 : Option Addr) (len1 cap1 : Nat) (z1 : List Int) (a2 : Int) (w : World) (w0 : (a0 = none ∧ len0 = 0 ∧ cap0 = 0 ∧ z0 = []) ∨ ∃ x, a0 = some x ∧ len0 ≤ cap0 ∧ cap0 ≤ maxLen ∧ z0.length = cap0 ∧ (∀ i, i < z0.length → w.cell? (x.add i) = some (.int .i64 (z0.getD i 0))) ∧ ∀ n ∈ z0, (Lit.int .i64 n).wf = true) (y0 : len0 * 8 ≤ 140737488351232) (w1 : (a1 = none ∧ len1 = 0 ∧ cap1 = 0 ∧ z1 = []) ∨ ∃ x, a1 = some x ∧ len1 ≤ cap1 ∧ cap1 ≤ maxLen ∧ z1.length = cap1 ∧ (∀ i, i < z1.length → w.cell? (x.add i) = some (.int .i64 (z1.getD i 0))) ∧ ∀ n ∈ z1, (Lit.int .i64 n).wf = true) (y1 : len1 * 8 ≤ 140737488351232) (w2 : (Lit.int .i64 a2).wf = true) :
    Calls Try.prog 5 #[.slice a0 len0 cap0, .slice a1 len1 cap1, .int .i64 a2] w fun e w' => e = .returned (.bool true) ∧ Below w.heap.size w w' := by
  obtain ⟨l0, rfl, hr0, hm0, hw0, hc0⟩ := ReadsInt.ofRowC w0
  obtain ⟨l1, rfl, hr1, hm1, hw1, hc1⟩ := ReadsInt.ofRowC w1
  exact law5_calls _ _ l0 _ _ l1 a2 w (Kd.C_of_reads (d := (0 : Int)) (h1 := fun _ => rfl) hr0) hc0 (Kd.C_of_reads (d := (0 : Int)) (h1 := fun _ => rfl) hr1) hc1 (by omega) (by omega)
end Go.Proofs.Ytbkjplomoegbdaa.PB
end
section
namespace Go.Proofs.Ytbkjplomoegbdaa.Pure
open Go.Proofs.Ytbkjplomoegbdaa.PB
theorem CyclesPeriodicity : railplanlaw12_CyclesPeriodicity.Pure := trivial
end Go.Proofs.Ytbkjplomoegbdaa.Pure
end
