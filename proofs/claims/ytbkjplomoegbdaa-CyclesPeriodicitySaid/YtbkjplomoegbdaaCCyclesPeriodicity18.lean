/- Parts of the proof of CyclesPeriodicity, gathered by a program of this claim out of texts that it or the kit's print wrote: lemmas alone, no condition of their own. -/
import Derived.Test.YtbkjplomoegbdaaCCyclesPeriodicity8
import Derived.Test.YtbkjplomoegbdaaCCyclesPeriodicity6
import Derived.Deep.RegionHeld3
namespace Go.Proofs.Ytbkjplomoegbdaa.PB
open Go.RowKit Go.Proofs.YtbkjplomoegbdaaW.PrintWords Go.Proofs.YtbkjplomoegbdaaW.PrintLast Go.Proofs.YtbkjplomoegbdaaW.PrintMore
set_option linter.unusedVariables false
set_option linter.unusedSimpArgs false
def stOf (acts : List S36) (k s : Int) : Int := if s < 0 then (acts.getD k.toNat z36).f2 else (acts.getD k.toNat z36).f1
def enOf (acts : List S36) (k s : Int) : Int := if s < 0 then (acts.getD k.toNat z36).f1 else (acts.getD k.toNat z36).f2
def arcOkB (acts : List S36) (arcs signs : List Int) (i : Nat) : Bool := decide (0 ≤ arcs.getD i 0) && decide (arcs.getD i 0 < acts.length) && !(arcs.take i).contains (arcs.getD i 0) && (signs.getD i 0 == 1 || signs.getD i 0 == -1)
def stL (acts : List S36) (arcs signs : List Int) (n : Nat) : List Int := (List.range n).map fun j => stOf acts (arcs.getD j 0) (signs.getD j 0)
def enL (acts : List S36) (arcs signs : List Int) (n : Nat) : List Int := (List.range n).map fun j => enOf acts (arcs.getD j 0) (signs.getD j 0)
def rotB (st en : List Int) (i : Nat) : Bool := !(st.take i).contains (st.getD i 0) && (st.getD ((i + 1) % st.length) 0 == en.getD i 0)
def cycB (per : Int) (n : Nat) (acts : List S36) (arcs signs : List Int) : Bool :=
  netOk per n acts && decide (2 ≤ arcs.length) && decide (arcs.length = signs.length) && (List.range arcs.length).all (arcOkB acts arcs signs) && (List.range arcs.length).all (rotB (stL acts arcs signs arcs.length) (enL acts arcs signs arcs.length))
theorem stL_length (acts : List S36) (arcs signs : List Int) (n : Nat) : (stL acts arcs signs n).length = n := by simp [stL]
theorem enL_length (acts : List S36) (arcs signs : List Int) (n : Nat) : (enL acts arcs signs n).length = n := by simp [enL]
theorem stL_succ (acts : List S36) (arcs signs : List Int) (n : Nat) : stL acts arcs signs (n + 1) = stL acts arcs signs n ++ [stOf acts (arcs.getD n 0) (signs.getD n 0)] := by simp [stL, List.range_succ]
theorem enL_succ (acts : List S36) (arcs signs : List Int) (n : Nat) : enL acts arcs signs (n + 1) = enL acts arcs signs n ++ [enOf acts (arcs.getD n 0) (signs.getD n 0)] := by simp [enL, List.range_succ]
theorem cycB_arc {per : Int} {n : Nat} {acts : List S36} {arcs signs : List Int} {i : Nat} (hi : i < arcs.length) (h : arcOkB acts arcs signs i = false) : cycB per n acts arcs signs = false := by
  have : (List.range arcs.length).all (arcOkB acts arcs signs) = false := by
    rw [List.all_eq_false]
    exact ⟨i, List.mem_range.2 hi, by rw [h]; simp⟩
  unfold cycB
  rw [this]
  simp
theorem cycB_rot {per : Int} {n : Nat} {acts : List S36} {arcs signs : List Int} {i : Nat} (hi : i < arcs.length) (h : rotB (stL acts arcs signs arcs.length) (enL acts arcs signs arcs.length) i = false) : cycB per n acts arcs signs = false := by
  have : (List.range arcs.length).all (rotB (stL acts arcs signs arcs.length) (enL acts arcs signs arcs.length)) = false := by
    rw [List.all_eq_false]
    exact ⟨i, List.mem_range.2 hi, by rw [h]; simp⟩
  unfold cycB
  rw [this]
  simp
theorem cycB_true {per : Int} {n : Nat} {acts : List S36} {arcs signs : List Int} (h0 : netOk per n acts = true) (h1 : 2 ≤ arcs.length) (h2 : arcs.length = signs.length) (h3 : ∀ i, i < arcs.length → arcOkB acts arcs signs i = true)
    (h4 : ∀ i, i < arcs.length → rotB (stL acts arcs signs arcs.length) (enL acts arcs signs arcs.length) i = true) : cycB per n acts arcs signs = true := by
  have e3 : (List.range arcs.length).all (arcOkB acts arcs signs) = true := by
    rw [List.all_eq_true]; exact fun i hi => h3 i (List.mem_range.1 hi)
  have e4 : (List.range arcs.length).all (rotB (stL acts arcs signs arcs.length) (enL acts arcs signs arcs.length)) = true := by
    rw [List.all_eq_true]; exact fun i hi => h4 i (List.mem_range.1 hi)
  unfold cycB
  rw [h0, e3, e4, decide_eq_true h1, decide_eq_true h2]
  rfl
theorem nodup_le : ∀ (m : Nat) (l : List Nat), l.Nodup → (∀ x ∈ l, x < m) → l.length ≤ m
  | 0, l, _, h => by
    cases l with
    | nil => simp
    | cons x l => exact absurd (h x (by simp)) (Nat.not_lt_zero _)
  | m + 1, l, hn, h => by
    have ih := nodup_le m (l.erase m) (hn.erase m) (fun x hx => by
      have h1 := (hn.mem_erase_iff).1 hx
      have := h x h1.2
      omega)
    by_cases hm : m ∈ l
    · rw [List.length_erase_of_mem hm] at ih; omega
    · rw [List.erase_of_not_mem hm] at ih; omega
theorem arcs_le {acts : List S36} {arcs signs : List Int} : ∀ {i : Nat}, i ≤ arcs.length → (∀ j, j < i → arcOkB acts arcs signs j = true) → i ≤ acts.length := by
  intro i hi h
  have key : ∀ i, i ≤ arcs.length → (∀ j, j < i → arcOkB acts arcs signs j = true) → ((arcs.take i).map Int.toNat).Nodup ∧ ∀ x ∈ arcs.take i, 0 ≤ x ∧ x < acts.length := by
    intro i
    induction i with
    | zero => intro _ _; simp
    | succ i ih =>
      intro hi h
      obtain ⟨h1, h2⟩ := ih (by omega) (fun j hj => h j (by omega))
      have h3 := h i (by omega)
      simp only [arcOkB, Bool.and_eq_true, decide_eq_true_eq, Bool.not_eq_true', List.contains_eq_mem, decide_eq_false_iff_not] at h3
      obtain ⟨⟨⟨a1, a2⟩, a3⟩, _⟩ := h3
      have e : arcs.take (i + 1) = arcs.take i ++ [arcs.getD i 0] := by
        rw [List.take_succ_eq_append_getElem (by omega)]
        simp [List.getD_eq_getElem?_getD, show i < arcs.length by omega]
      rw [e, List.map_append]
      refine ⟨?_, ?_⟩
      · rw [List.nodup_append]
        refine ⟨h1, by simp, ?_⟩
        intro y hy z hz
        obtain ⟨u, hu, rfl⟩ := List.mem_map.1 hy
        simp only [List.map_cons, List.map_nil, List.mem_singleton] at hz
        subst hz
        intro eq
        have := h2 u hu
        have : u = arcs.getD i 0 := by omega
        exact a3 (this ▸ hu)
      · intro y hy
        rcases List.mem_append.1 hy with h | h
        · exact h2 y h
        · rw [List.mem_singleton.1 h]; exact ⟨a1, a2⟩
  obtain ⟨h1, h2⟩ := key i hi h
  have := nodup_le acts.length _ h1 (fun x hx => by
    obtain ⟨u, hu, rfl⟩ := List.mem_map.1 hx
    have := h2 u hu
    omega)
  rw [List.length_map, List.length_take] at this
  omega
structure CC (w0 : World) (cs cs' : Array Value) (bn bc : Nat) (W : World) (va vb : Value) (st en : List Int) : Prop where
  nb : W.heap[bn]? = some (.cells cs 26 (0, 0))
  cb : W.heap[bc]? = some (.cells cs' 41 (0, 0))
  ra : Kd.R (Kd.int .i64) 3 W w0.heap.size (fun k => (k ≠ bn ∧ k ≠ bc) ∧ some k ≠ vb.ownBlock) va st
  rb : Kd.R (Kd.int .i64) 3 W w0.heap.size (fun k => (k ≠ bn ∧ k ≠ bc) ∧ some k ≠ va.ownBlock) vb en
  bel : Below w0.heap.size w0 W
namespace CC
variable {w0 : World} {cs cs' : Array Value} {bn bc : Nat} {W W' w1 : World} {va vb v1 : Value} {st en : List Int}
theorem below (h : CC w0 cs cs' bn bc W va vb st en) (hb : Below W.heap.size W W') : CC w0 cs cs' bn bc W' va vb st en := ⟨blk_below h.nb hb, blk_below h.cb hb, Kd.R_below h.ra hb, Kd.R_below h.rb hb, below_step h.bel hb⟩
theorem drewN (h : CC w0 cs cs' bn bc W va vb st en) (m : Nat) : CC w0 cs cs' bn bc (W.drewN m) va vb st en := h.below (pw_below_drewN (Below.refl _ _) m)
theorem alloc (h : CC w0 cs cs' bn bc W va vb st en) (o : Obj) : CC w0 cs cs' bn bc (W.alloc o) va vb st en := h.below (below_alloc (Below.refl _ _) o)
theorem freshA (h : CC w0 cs cs' bn bc W va vb st en) : ∀ k, W.heap.size ≤ k → (k ≠ bn ∧ k ≠ bc) ∧ some k ≠ vb.ownBlock := fun k hk => ⟨⟨by have := blk_lt h.nb; omega, by have := blk_lt h.cb; omega⟩, fun e => by have := Kd.R_lt h.rb k e.symm; omega⟩
theorem freshB (h : CC w0 cs cs' bn bc W va vb st en) : ∀ k, W.heap.size ≤ k → (k ≠ bn ∧ k ≠ bc) ∧ some k ≠ va.ownBlock := fun k hk => ⟨⟨by have := blk_lt h.nb; omega, by have := blk_lt h.cb; omega⟩, fun e => by have := Kd.R_lt h.ra k e.symm; omega⟩
theorem pushA (h : CC w0 cs cs' bn bc W va vb st en) {xs : List Int} (ho : Kd.R (Kd.int .i64) 3 w1 w0.heap.size (fun k => (k ≠ bn ∧ k ≠ bc) ∧ some k ≠ vb.ownBlock) v1 xs) (hb : Below w0.heap.size w0 w1) (hg : W.grownBy w1 va.ownBlock) (hat : v1.ownBlock = va.ownBlock ∨ ∃ b, v1.ownBlock = some b ∧ W.heap.size ≤ b) : CC w0 cs cs' bn bc w1 v1 vb xs en :=
  ⟨blk_grown h.nb hg (fun e => (h.ra.1 bn e.symm).1.1 rfl), blk_grown h.cb hg (fun e => (h.ra.1 bc e.symm).1.2 rfl), ho, Kd.R_after h.rb hg hat, hb⟩
theorem pushB (h : CC w0 cs cs' bn bc W va vb st en) {xs : List Int} (ho : Kd.R (Kd.int .i64) 3 w1 w0.heap.size (fun k => (k ≠ bn ∧ k ≠ bc) ∧ some k ≠ va.ownBlock) v1 xs) (hb : Below w0.heap.size w0 w1) (hg : W.grownBy w1 vb.ownBlock) (hat : v1.ownBlock = vb.ownBlock ∨ ∃ b, v1.ownBlock = some b ∧ W.heap.size ≤ b) : CC w0 cs cs' bn bc w1 va v1 st xs :=
  ⟨blk_grown h.nb hg (fun e => (h.rb.1 bn e.symm).1.1 rfl), blk_grown h.cb hg (fun e => (h.rb.1 bc e.symm).1.2 rfl), Kd.R_after h.ra hg hat, ho, hb⟩
end CC
def cycles_Check.f (a0_0 : Int) (l0_1 : List (S97)) (l0_2 : List (S36)) (l1_0 l1_1 : List Int) : Option (Bool) := some (cycB a0_0 l0_1.length l0_2 l1_0 l1_1)
set_option maxHeartbeats 4000000 in
set_option maxRecDepth 100000 in
theorem cycles_Check.calls (a0_0 : Int) (A0_1 : Option Addr) (c0_1 : Nat) (l0_1 : List (S97)) (A0_2 : Option Addr) (c0_2 : Nat) (l0_2 : List (S36)) (A1_0 : Option Addr) (c1_0 : Nat) (l1_0 : List Int) (A1_1 : Option Addr) (c1_1 : Nat) (l1_1 : List Int) (r : Bool) (w : World) (hr0_1 : Kd.C k97 w A0_1 l0_1.length l0_1) (hc0_1 : l0_1.length ≤ c0_1) (hr0_2 : Kd.C k36 w A0_2 l0_2.length l0_2) (hc0_2 : l0_2.length ≤ c0_2) (hr1_0 : Kd.C (Kd.int .i64) w A1_0 l1_0.length l1_0) (hc1_0 : l1_0.length ≤ c1_0) (hr1_1 : Kd.C (Kd.int .i64) w A1_1 l1_1.length l1_1) (hc1_1 : l1_1.length ≤ c1_1) (h : cycles_Check.f a0_0 l0_1 l0_2 l1_0 l1_1 = some r) :
    Calls Try.prog 41 #[.agg #[.int .i64 a0_0, .slice A0_1 l0_1.length c0_1, .slice A0_2 l0_2.length c0_2], .agg #[.slice A1_0 l1_0.length c1_0, .slice A1_1 l1_1.length c1_1]] w fun e w' => e = .returned (.bool r) ∧ Below w.heap.size w w' := by
  obtain rfl := Option.some.inj h
  clear h
  have hu26 := Try.underlying26
  have hu41 := Try.underlying41
  have hu36 := Try.underlying36
  have HR01 := Aside0.mk hr0_1
  have HR02 := Aside0.mk hr0_2
  have HR10 := Aside0.mk hr1_0
  have HR11 := Aside0.mk hr1_1
  have HC01 := Aside0.mk hc0_1
  have HC02 := Aside0.mk hc0_2
  have HC11 := Aside0.mk hc1_1
  have m1 := Kd.C_max hr0_1
  have m2 := Kd.C_max hr0_2
  have m3 := Kd.C_max hr1_0
  have m4 := Kd.C_max hr1_1
  clear hr0_1 hr0_2 hc0_1 hc0_2 hr1_0 hr1_1 hc1_1
  have HS0 := Aside0.mk (show Below w.heap.size w ((w.alloc (.cells #[.int .i64 a0_0, .slice A0_1 l0_1.length c0_1, .slice A0_2 l0_2.length c0_2] 26)).alloc (.cells #[.slice A1_0 l1_0.length c1_0, .slice A1_1 l1_1.length c1_1] 41)) from below_alloc (below_alloc (Below.refl _ _) _) _)
  have HN0 := Aside0.mk (blk_alloc (blk_new w (.cells #[.int .i64 a0_0, .slice A0_1 l0_1.length c0_1, .slice A0_2 l0_2.length c0_2] 26)) (.cells #[.slice A1_0 l1_0.length c1_0, .slice A1_1 l1_1.length c1_1] 41))
  have HB0 : Aside0 (((w.alloc (.cells #[.int .i64 a0_0, .slice A0_1 l0_1.length c0_1, .slice A0_2 l0_2.length c0_2] 26)).alloc (.cells #[.slice A1_0 l1_0.length c1_0, .slice A1_1 l1_1.length c1_1] 41)).heap[w.heap.size + 1]? = some (.cells #[.slice A1_0 l1_0.length c1_0, .slice A1_1 l1_1.length c1_1] 41 (0, 0))) := ⟨by have h := blk_new (w.alloc (.cells #[.int .i64 a0_0, .slice A0_1 l0_1.length c0_1, .slice A0_2 l0_2.length c0_2] 26)) (.cells #[.slice A1_0 l1_0.length c1_0, .slice A1_1 l1_1.length c1_1] 41); rwa [show (w.alloc (.cells #[.int .i64 a0_0, .slice A0_1 l0_1.length c0_1, .slice A0_2 l0_2.length c0_2] 26)).heap.size = w.heap.size + 1 by simp] at h⟩
  cases hok : netOk a0_0 l0_1.length l0_2 with
  | false =>
    have hres : cycB a0_0 l0_1.length l0_2 l1_0 l1_1 = false := by simp [cycB, hok]
    have HRES := Aside0.mk hres
    have HOK := Aside0.mk hok
    clear hres hok
    go_enter Try.func41, Try.ntmps41
    go_wp2_with (go_at_call 92; refine (network_Check.calls a0_0 A0_1 c0_1 l0_1 A0_2 c0_2 l0_2 false _ ?h1 HC01.out ?h2 HC02.out (by simp [network_Check.f, HOK.out])).mono ?_; (case h1 => exact Kd.C_below HR01.out HS0.out); (case h2 => exact Kd.C_below HR02.out HS0.out); rintro e w' ⟨rfl, hb⟩)
    go_ret
    rw [HRES.out]
    exact ⟨rfl, below_step HS0.out hb⟩
  | true =>
    have HOK := Aside0.mk hok
    clear hok
    by_cases hlen : 2 ≤ l1_0.length ∧ l1_0.length = l1_1.length
    case neg =>
      have hres : cycB a0_0 l0_1.length l0_2 l1_0 l1_1 = false := by
        unfold cycB
        have : (decide (2 ≤ l1_0.length) && decide (l1_0.length = l1_1.length)) = false := by
          rw [Bool.and_eq_false_iff, decide_eq_false_iff_not, decide_eq_false_iff_not]; omega
        rw [HOK.out, Bool.true_and, this]
        simp
      have HRES := Aside0.mk hres
      clear hres
      by_cases h2 : l1_0.length < 2
      · clear hlen
        go_enter Try.func41, Try.ntmps41
        go_wp2_with (go_at_call 92; refine (network_Check.calls a0_0 A0_1 c0_1 l0_1 A0_2 c0_2 l0_2 true _ ?h1 HC01.out ?h2 HC02.out (by simp [network_Check.f, HOK.out])).mono ?_; (case h1 => exact Kd.C_below HR01.out HS0.out); (case h2 => exact Kd.C_below HR02.out HS0.out); rintro e w1 ⟨rfl, hb⟩; have q0 := (blk_cell (blk_below HB0.out hb) 0).trans rfl; have q1 := (blk_cell (blk_below HB0.out hb) 1).trans rfl; have HB1 := Aside0.mk (below_step HS0.out hb); have HN1 := Aside0.mk (blk_below HN0.out hb); have HC1 := Aside0.mk (blk_below HB0.out hb); clear hb)
        go_ret
        rw [HRES.out]
        exact ⟨rfl, HB1.out⟩
      · have h3 : ¬ l1_0.length = l1_1.length := fun e => hlen ⟨by omega, e⟩
        have h3a : ((l1_0.length : Int) != (l1_1.length : Int)) = true := by rw [bne_iff_ne]; omega
        have h3b : (l1_0.length != l1_1.length) = true := by rw [bne_iff_ne]; omega
        clear hlen h3
        go_enter Try.func41, Try.ntmps41
        go_wp2_with (go_at_call 92; refine (network_Check.calls a0_0 A0_1 c0_1 l0_1 A0_2 c0_2 l0_2 true _ ?h1 HC01.out ?h2 HC02.out (by simp [network_Check.f, HOK.out])).mono ?_; (case h1 => exact Kd.C_below HR01.out HS0.out); (case h2 => exact Kd.C_below HR02.out HS0.out); rintro e w1 ⟨rfl, hb⟩; have q0 := (blk_cell (blk_below HB0.out hb) 0).trans rfl; have q1 := (blk_cell (blk_below HB0.out hb) 1).trans rfl; have HB1 := Aside0.mk (below_step HS0.out hb); have HN1 := Aside0.mk (blk_below HN0.out hb); have HC1 := Aside0.mk (blk_below HB0.out hb); clear hb)
        go_ret
        rw [HRES.out]
        exact ⟨rfl, HB1.out⟩
    obtain ⟨hl2, hle⟩ := hlen
    have hl3 : ¬ l1_0.length < 2 := by omega
    have HLE := Aside0.mk hle
    have h3a : ((l1_0.length : Int) != (l1_1.length : Int)) = false := by rw [bne_eq_false_iff_eq]; omega
    have h3b : (l1_0.length != l1_1.length) = false := by rw [bne_eq_false_iff_eq]; omega
    clear hle
    go_enter Try.func41, Try.ntmps41
    go_wp2_with (go_at_call 92; refine (network_Check.calls a0_0 A0_1 c0_1 l0_1 A0_2 c0_2 l0_2 true _ ?h1 HC01.out ?h2 HC02.out (by simp [network_Check.f, HOK.out])).mono ?_; (case h1 => exact Kd.C_below HR01.out HS0.out); (case h2 => exact Kd.C_below HR02.out HS0.out); rintro e w1 ⟨rfl, hb⟩; have q0 := (blk_cell (blk_below HB0.out hb) 0).trans rfl; have q1 := (blk_cell (blk_below HB0.out hb) 1).trans rfl; have HB1 := Aside0.mk (below_step HS0.out hb); have HN1 := Aside0.mk (blk_below HN0.out hb); have HC1 := Aside0.mk (blk_below HB0.out hb); clear hb)
    have hCC : CC w #[.int .i64 a0_0, .slice A0_1 l0_1.length c0_1, .slice A0_2 l0_2.length c0_2] #[.slice A1_0 l1_0.length c1_0, .slice A1_1 l1_1.length c1_1] w.heap.size (w.heap.size + 1) w1 (.slice none 0 0) (.slice none 0 0) (stL l0_2 l1_0 l1_1 0) (enL l0_2 l1_0 l1_1 0) := ⟨HN1.out, HC1.out, Kd.R_nil _ _ _ _ _, Kd.R_nil _ _ _ _ _, HB1.out⟩
    have HCC := Aside0.mk hCC
    clear hCC HN1 HC1 HB1 HN0 HB0 HS0 q0 q1
    go_loopw [5, 6, 33] (fun v5 v6 v33 W => ∃ (i : Nat) (Aa : Option Addr) (ca : Nat) (Ab : Option Addr) (cb : Nat), i ≤ l1_0.length ∧ v5 = .slice Aa i ca ∧ v6 = .slice Ab i cb ∧ v33 = .int .i64 i ∧ Aside0 (CC w #[.int .i64 a0_0, .slice A0_1 l0_1.length c0_1, .slice A0_2 l0_2.length c0_2] #[.slice A1_0 l1_0.length c1_0, .slice A1_1 l1_1.length c1_1] w.heap.size (w.heap.size + 1) W (.slice Aa i ca) (.slice Ab i cb) (stL l0_2 l1_0 l1_1 i) (enL l0_2 l1_0 l1_1 i)) ∧ Aside0 (∀ j, j < i → arcOkB l0_2 l1_0 l1_1 j = true)) (fun _ _ v33 _ => l1_0.length - (intOf v33).toNat)
    case atStart => exact ⟨0, none, 0, none, 0, Nat.zero_le _, rfl, rfl, rfl, HCC, ⟨fun j hj => absurd hj (Nat.not_lt_zero _)⟩⟩
    case round =>
      clear HCC
      obtain ⟨i, Aa, ca, Ab, cb, hi, rfl, rfl, rfl, HCC, HA⟩ := hrel
      have q2 : wr.cell? ⟨w.heap.size, 2, none⟩ = some (.slice A0_2 l0_2.length c0_2) := (blk_cell HCC.out.nb 2).trans rfl
      have q3 : wr.cell? ⟨w.heap.size + 1, 0, none⟩ = some (.slice A1_0 l1_0.length c1_0) := (blk_cell HCC.out.cb 0).trans rfl
      have q4 : wr.cell? ⟨w.heap.size + 1, 1, none⟩ = some (.slice A1_1 l1_1.length c1_1) := (blk_cell HCC.out.cb 1).trans rfl
      by_cases hlt : i < l1_0.length
      · have hlt2 : i < l1_1.length := by rw [← HLE.out]; exact hlt
        obtain ⟨ad1, e1, hx1⟩ := Kd.at_int (Kd.C_below HR10.out HCC.out.bel) (i : Int) (by omega) (by omega)
        cases e1
        obtain ⟨ad2, e2, hx2⟩ := Kd.at_int (Kd.C_below HR11.out HCC.out.bel) (i : Int) (by omega) (by omega)
        cases e2
        rw [Int.toNat_natCast] at hx1 hx2
        have hxe : rd l1_0 (i : Int) = l1_0.getD i 0 := by unfold rd; rw [Int.toNat_natCast]
        have hse : rd l1_1 (i : Int) = l1_1.getD i 0 := by unfold rd; rw [Int.toNat_natCast]
        rw [hxe] at hx1
        rw [hse] at hx2
        generalize hx : l1_0.getD i 0 = x at hx1
        generalize hs : l1_1.getD i 0 = s at hx2
        have HX := Aside0.mk hx
        have HS := Aside0.mk hs
        clear hx hs hxe hse
        have HTK : Aside0 (∀ W, Below w.heap.size w W → Calls Try.prog 89 #[.slice (some ad1) i c1_0, .int .i64 x] W fun e w' => e = .returned (.bool ((l1_0.take i).contains x)) ∧ ∃ m, w' = W.drewN m) := ⟨fun W hb => take_c (some ad1) c1_0 l1_0 x i W (by omega) (Kd.C_below HR10.out hb) hc1_0⟩
        by_cases hc1 : x < 0
        · have hres : cycB a0_0 l0_1.length l0_2 l1_0 l1_1 = false := cycB_arc hlt (by unfold arcOkB; rw [HX.out, decide_eq_false (show ¬ 0 ≤ x by omega)]; simp)
          have HRES := Aside0.mk hres
          clear hres
          go_wp2
          go_ret
          rw [HRES.out]
          exact ⟨rfl, HCC.out.bel⟩
        by_cases hc2 : x < (l0_2.length : Int)
        case neg =>
          have hres : cycB a0_0 l0_1.length l0_2 l1_0 l1_1 = false := cycB_arc hlt (by unfold arcOkB; rw [HX.out, decide_eq_false hc2]; simp)
          have HRES := Aside0.mk hres
          clear hres
          go_wp2
          go_ret
          rw [HRES.out]
          exact ⟨rfl, HCC.out.bel⟩
        generalize hct : (l1_0.take i).contains x = ct at HTK
        have HCT := Aside0.mk hct
        clear hct
        cases ct with
        | true =>
          have hres : cycB a0_0 l0_1.length l0_2 l1_0 l1_1 = false := cycB_arc hlt (by unfold arcOkB; rw [HX.out, HCT.out]; simp)
          have HRES := Aside0.mk hres
          clear hres
          go_wp2_with (go_at_call 89; (with_reducible refine (HTK.out _ ?hb).mono ?_); (case hb => exact HCC.out.bel); rintro e w2 ⟨rfl, ⟨nd, rfl⟩⟩)
          go_ret
          rw [HRES.out]
          exact ⟨rfl, pw_below_drewN HCC.out.bel _⟩
        | false =>
          by_cases hs1 : s = 1 ∨ s = -1
          case neg =>
            have hres : cycB a0_0 l0_1.length l0_2 l1_0 l1_1 = false := cycB_arc hlt (by
              unfold arcOkB
              rw [HS.out]
              have : (s == 1 || s == -1) = false := by rw [Bool.or_eq_false_iff, beq_eq_false_iff_ne, beq_eq_false_iff_ne]; omega
              rw [this]; simp)
            have HRES := Aside0.mk hres
            have hn1 : (s == 1) = false := beq_eq_false_iff_ne.2 (by omega)
            have hn2 : (s != 1) = true := bne_iff_ne.2 (by omega)
            have hn3 : (s == -1) = false := beq_eq_false_iff_ne.2 (by omega)
            have hn4 : (s != -1) = true := bne_iff_ne.2 (by omega)
            clear hres hs1
            go_wp2_with (go_at_call 89; (with_reducible refine (HTK.out _ ?hb).mono ?_); (case hb => exact HCC.out.bel); rintro e w2 ⟨rfl, ⟨nd, rfl⟩⟩)
            go_ret
            rw [HRES.out]
            exact ⟨rfl, pw_below_drewN HCC.out.bel _⟩
          have hok : arcOkB l0_2 l1_0 l1_1 i = true := by
            unfold arcOkB
            rw [HX.out, HS.out, HCT.out, decide_eq_true (show 0 ≤ x by omega), decide_eq_true hc2]
            rcases hs1 with rfl | rfl <;> simp
          have HOKI := Aside0.mk hok
          clear hok
          have hi512 : i ≤ 512 := by
            have h1 := arcs_le hi HA.out
            have h2 : l0_2.length ≤ 512 := by have := HOK.out; simp [netOk] at this; omega
            omega
          have hx0 : 0 ≤ x := by omega
          obtain ⟨ad, e3, g0, g1, g2, g3, g4, g5⟩ := at_T36 (Kd.C_below HR02.out HCC.out.bel) x hx0 hc2
          cases e3
          have hrd : l0_2.getD x.toNat z36 = rd_T36 l0_2 x := rfl
          generalize rd_T36 l0_2 x = a at *
          have HRD := Aside0.mk hrd
          clear hrd
          rcases hs1 with rfl | rfl
          · skip
            go_wp2_with (first | (go_at_call 89; (with_reducible refine (HTK.out _ ?hb).mono ?_); (case hb => exact HCC.out.bel); rintro e w2 ⟨rfl, nd, hnd⟩; have HC2 := Aside0.mk (HCC.out.drewN nd); rw [← hnd] at HC2; replace q2 := (show (wr.drewN nd).cell? ⟨w.heap.size, 2, none⟩ = _ from q2); rw [← hnd] at q2; replace q3 := (show (wr.drewN nd).cell? ⟨w.heap.size + 1, 0, none⟩ = _ from q3); rw [← hnd] at q3; replace q4 := (show (wr.drewN nd).cell? ⟨w.heap.size + 1, 1, none⟩ = _ from q4); rw [← hnd] at q4; replace hx1 := (show (wr.drewN nd).cell? (ad1.add i) = _ from hx1); rw [← hnd] at hx1; replace hx2 := (show (wr.drewN nd).cell? (ad2.add i) = _ from hx2); rw [← hnd] at hx2; replace g0 := (show (wr.drewN nd).cell? (ad.add (x.toNat * 6)) = _ from g0); rw [← hnd] at g0; replace g1 := (show (wr.drewN nd).cell? ⟨(ad.add (x.toNat * 6)).block, (ad.add (x.toNat * 6)).off + 1, none⟩ = _ from g1); rw [← hnd] at g1; replace g2 := (show (wr.drewN nd).cell? ⟨(ad.add (x.toNat * 6)).block, (ad.add (x.toNat * 6)).off + 2, none⟩ = _ from g2); rw [← hnd] at g2; replace g3 := (show (wr.drewN nd).cell? ⟨(ad.add (x.toNat * 6)).block, (ad.add (x.toNat * 6)).off + 3, none⟩ = _ from g3); rw [← hnd] at g3; replace g4 := (show (wr.drewN nd).cell? ⟨(ad.add (x.toNat * 6)).block, (ad.add (x.toNat * 6)).off + 4, none⟩ = _ from g4); rw [← hnd] at g4; replace g5 := (show (wr.drewN nd).cell? ⟨(ad.add (x.toNat * 6)).block, (ad.add (x.toNat * 6)).off + 5, none⟩ = _ from g5); rw [← hnd] at g5; have q4a : ∀ o, (w2.alloc o).cell? ⟨w.heap.size + 1, 1, none⟩ = some (.slice (some ad2) l1_1.length c1_1) := (fun o => (blk_cell (blk_alloc HC2.out.cb o) 1).trans rfl); have hx2a := (fun o => (World.cell?_alloc_lt _ o _ (World.block_lt_of_cell? _ _ hx2)).trans hx2); clear hnd) | ((with_reducible refine gate_builtin (b := .append) (xs := #[.tmp 88, .tmp 91]) rfl ?_); at_builtin; refine Kd.R_append (Kd.int .i64) (w0 := w) w.heap.size rfl (.tmp 88) (.tmp 91) 22 3 (.int .i64 0) 8 rfl Try.underlying22 info3 rfl (by decide) (by omega) (.slice Aa i ca) (stL l0_2 l1_0 l1_1 i) a.f1 [.int .i64 a.f1] (fun k => (k ≠ w.heap.size ∧ k ≠ w.heap.size + 1) ∧ some k ≠ (Value.slice Ab i cb).ownBlock) (fun _ => False) rfl ?aX rfl (fun _ h => h.elim) ?aF ?aO ?aB ?aS ?aL ?_; (case aX => first | rfl | (go_simp; done)); (case aF => exact (HC2.out.alloc (.cells #[.int .i64 a.f0, .int .i64 a.f1, .int .i64 a.f2, .int .i64 a.f3, .int .i64 a.f4, .int .i64 a.f5] 36)).freshA); (case aO => exact (HC2.out.alloc (.cells #[.int .i64 a.f0, .int .i64 a.f1, .int .i64 a.f2, .int .i64 a.f3, .int .i64 a.f4, .int .i64 a.f5] 36)).ra); (case aB => exact (HC2.out.alloc (.cells #[.int .i64 a.f0, .int .i64 a.f1, .int .i64 a.f2, .int .i64 a.f3, .int .i64 a.f4, .int .i64 a.f5] 36)).bel); (case aS => exact (HC2.out.alloc (.cells #[.int .i64 a.f0, .int .i64 a.f1, .int .i64 a.f2, .int .i64 a.f3, .int .i64 a.f4, .int .i64 a.f5] 36)).bel.size); (case aL => rw [stL_length]; omega); intro v_ w3 h1_ h2_ h3_ h4_; obtain ⟨Ac, cc, ev_⟩ := Kd.R_slice h1_; rw [show (stL l0_2 l1_0 l1_1 i ++ [a.f1]).length = i + 1 by simp [stL_length]] at ev_; subst ev_; have HC3 := Aside0.mk ((HC2.out.alloc (.cells #[.int .i64 a.f0, .int .i64 a.f1, .int .i64 a.f2, .int .i64 a.f3, .int .i64 a.f4, .int .i64 a.f5] 36)).pushA h1_ h2_ h3_ h4_); have hga := blk_grown (blk_new w2 (.cells #[.int .i64 a.f0, .int .i64 a.f1, .int .i64 a.f2, .int .i64 a.f3, .int .i64 a.f4, .int .i64 a.f5] 36)) h3_ (fun e_ => by have h5_ := Kd.R_lt HC2.out.ra _ e_.symm; exact absurd h5_ (Nat.lt_irrefl _)); have d1 : w3.cell? ⟨w2.heap.size, 1, none⟩ = some (.int .i64 a.f1) := (blk_cell hga 1).trans rfl; have d2 : w3.cell? ⟨w2.heap.size, 2, none⟩ = some (.int .i64 a.f2) := (blk_cell hga 2).trans rfl; clear h1_ h2_ h3_ h4_ hga) | ((with_reducible refine gate_builtin (b := .append) (xs := #[.tmp 93, .tmp 96]) rfl ?_); at_builtin; refine Kd.R_append (Kd.int .i64) (w0 := w) w.heap.size rfl (.tmp 93) (.tmp 96) 22 3 (.int .i64 0) 8 rfl Try.underlying22 info3 rfl (by decide) (by omega) (.slice Ab i cb) (enL l0_2 l1_0 l1_1 i) a.f2 [.int .i64 a.f2] (fun k => (k ≠ w.heap.size ∧ k ≠ w.heap.size + 1) ∧ some k ≠ (Value.slice Ac (i + 1) cc).ownBlock) (fun _ => False) rfl ?aX rfl (fun _ h => h.elim) ?aF ?aO ?aB ?aS ?aL ?_; (case aX => first | rfl | (go_simp; done)); (case aF => exact HC3.out.freshB); (case aO => exact HC3.out.rb); (case aB => exact HC3.out.bel); (case aS => exact HC3.out.bel.size); (case aL => rw [enL_length]; omega); intro v_ w4 h1_ h2_ h3_ h4_; obtain ⟨Ad, cd, ev_⟩ := Kd.R_slice h1_; rw [show (enL l0_2 l1_0 l1_1 i ++ [a.f2]).length = i + 1 by simp [enL_length]] at ev_; subst ev_; have HC4 := Aside0.mk (HC3.out.pushB h1_ h2_ h3_ h4_); clear h1_ h2_ h3_ h4_ d1 d2))
            go_roundw
            case rel => exact ⟨i + 1, Ac, cc, Ad, cd, by omega, rfl, rfl, by go_num, ⟨by rw [stL_succ, enL_succ, HX.out, HS.out, show stOf l0_2 x 1 = a.f1 by unfold stOf; rw [HRD.out]; rfl, show enOf l0_2 x 1 = a.f2 by unfold enOf; rw [HRD.out]; rfl]; exact HC4.out⟩, ⟨fun j hj => by
              rcases Nat.lt_succ_iff_lt_or_eq.1 hj with h | rfl
              · exact HA.out j h
              · exact HOKI.out⟩⟩
            case measure => simp [intOf]; omega
          · skip
            go_wp2_with (first | (go_at_call 89; (with_reducible refine (HTK.out _ ?hb).mono ?_); (case hb => exact HCC.out.bel); rintro e w2 ⟨rfl, nd, hnd⟩; have HC2 := Aside0.mk (HCC.out.drewN nd); rw [← hnd] at HC2; replace q2 := (show (wr.drewN nd).cell? ⟨w.heap.size, 2, none⟩ = _ from q2); rw [← hnd] at q2; replace q3 := (show (wr.drewN nd).cell? ⟨w.heap.size + 1, 0, none⟩ = _ from q3); rw [← hnd] at q3; replace q4 := (show (wr.drewN nd).cell? ⟨w.heap.size + 1, 1, none⟩ = _ from q4); rw [← hnd] at q4; replace hx1 := (show (wr.drewN nd).cell? (ad1.add i) = _ from hx1); rw [← hnd] at hx1; replace hx2 := (show (wr.drewN nd).cell? (ad2.add i) = _ from hx2); rw [← hnd] at hx2; replace g0 := (show (wr.drewN nd).cell? (ad.add (x.toNat * 6)) = _ from g0); rw [← hnd] at g0; replace g1 := (show (wr.drewN nd).cell? ⟨(ad.add (x.toNat * 6)).block, (ad.add (x.toNat * 6)).off + 1, none⟩ = _ from g1); rw [← hnd] at g1; replace g2 := (show (wr.drewN nd).cell? ⟨(ad.add (x.toNat * 6)).block, (ad.add (x.toNat * 6)).off + 2, none⟩ = _ from g2); rw [← hnd] at g2; replace g3 := (show (wr.drewN nd).cell? ⟨(ad.add (x.toNat * 6)).block, (ad.add (x.toNat * 6)).off + 3, none⟩ = _ from g3); rw [← hnd] at g3; replace g4 := (show (wr.drewN nd).cell? ⟨(ad.add (x.toNat * 6)).block, (ad.add (x.toNat * 6)).off + 4, none⟩ = _ from g4); rw [← hnd] at g4; replace g5 := (show (wr.drewN nd).cell? ⟨(ad.add (x.toNat * 6)).block, (ad.add (x.toNat * 6)).off + 5, none⟩ = _ from g5); rw [← hnd] at g5; have q4a : ∀ o, (w2.alloc o).cell? ⟨w.heap.size + 1, 1, none⟩ = some (.slice (some ad2) l1_1.length c1_1) := (fun o => (blk_cell (blk_alloc HC2.out.cb o) 1).trans rfl); have hx2a := (fun o => (World.cell?_alloc_lt _ o _ (World.block_lt_of_cell? _ _ hx2)).trans hx2); clear hnd) | ((with_reducible refine gate_builtin (b := .append) (xs := #[.tmp 88, .tmp 91]) rfl ?_); at_builtin; refine Kd.R_append (Kd.int .i64) (w0 := w) w.heap.size rfl (.tmp 88) (.tmp 91) 22 3 (.int .i64 0) 8 rfl Try.underlying22 info3 rfl (by decide) (by omega) (.slice Aa i ca) (stL l0_2 l1_0 l1_1 i) a.f2 [.int .i64 a.f2] (fun k => (k ≠ w.heap.size ∧ k ≠ w.heap.size + 1) ∧ some k ≠ (Value.slice Ab i cb).ownBlock) (fun _ => False) rfl ?aX rfl (fun _ h => h.elim) ?aF ?aO ?aB ?aS ?aL ?_; (case aX => first | rfl | (go_simp; done)); (case aF => exact (HC2.out.alloc (.cells #[.int .i64 a.f0, .int .i64 a.f2, .int .i64 a.f1, .int .i64 a.f3, .int .i64 a.f4, .int .i64 a.f5] 36)).freshA); (case aO => exact (HC2.out.alloc (.cells #[.int .i64 a.f0, .int .i64 a.f2, .int .i64 a.f1, .int .i64 a.f3, .int .i64 a.f4, .int .i64 a.f5] 36)).ra); (case aB => exact (HC2.out.alloc (.cells #[.int .i64 a.f0, .int .i64 a.f2, .int .i64 a.f1, .int .i64 a.f3, .int .i64 a.f4, .int .i64 a.f5] 36)).bel); (case aS => exact (HC2.out.alloc (.cells #[.int .i64 a.f0, .int .i64 a.f2, .int .i64 a.f1, .int .i64 a.f3, .int .i64 a.f4, .int .i64 a.f5] 36)).bel.size); (case aL => rw [stL_length]; omega); intro v_ w3 h1_ h2_ h3_ h4_; obtain ⟨Ac, cc, ev_⟩ := Kd.R_slice h1_; rw [show (stL l0_2 l1_0 l1_1 i ++ [a.f2]).length = i + 1 by simp [stL_length]] at ev_; subst ev_; have HC3 := Aside0.mk ((HC2.out.alloc (.cells #[.int .i64 a.f0, .int .i64 a.f2, .int .i64 a.f1, .int .i64 a.f3, .int .i64 a.f4, .int .i64 a.f5] 36)).pushA h1_ h2_ h3_ h4_); have hga := blk_grown (blk_new w2 (.cells #[.int .i64 a.f0, .int .i64 a.f2, .int .i64 a.f1, .int .i64 a.f3, .int .i64 a.f4, .int .i64 a.f5] 36)) h3_ (fun e_ => by have h5_ := Kd.R_lt HC2.out.ra _ e_.symm; exact absurd h5_ (Nat.lt_irrefl _)); have d1 : w3.cell? ⟨w2.heap.size, 1, none⟩ = some (.int .i64 a.f2) := (blk_cell hga 1).trans rfl; have d2 : w3.cell? ⟨w2.heap.size, 2, none⟩ = some (.int .i64 a.f1) := (blk_cell hga 2).trans rfl; clear h1_ h2_ h3_ h4_ hga) | ((with_reducible refine gate_builtin (b := .append) (xs := #[.tmp 93, .tmp 96]) rfl ?_); at_builtin; refine Kd.R_append (Kd.int .i64) (w0 := w) w.heap.size rfl (.tmp 93) (.tmp 96) 22 3 (.int .i64 0) 8 rfl Try.underlying22 info3 rfl (by decide) (by omega) (.slice Ab i cb) (enL l0_2 l1_0 l1_1 i) a.f1 [.int .i64 a.f1] (fun k => (k ≠ w.heap.size ∧ k ≠ w.heap.size + 1) ∧ some k ≠ (Value.slice Ac (i + 1) cc).ownBlock) (fun _ => False) rfl ?aX rfl (fun _ h => h.elim) ?aF ?aO ?aB ?aS ?aL ?_; (case aX => first | rfl | (go_simp; done)); (case aF => exact HC3.out.freshB); (case aO => exact HC3.out.rb); (case aB => exact HC3.out.bel); (case aS => exact HC3.out.bel.size); (case aL => rw [enL_length]; omega); intro v_ w4 h1_ h2_ h3_ h4_; obtain ⟨Ad, cd, ev_⟩ := Kd.R_slice h1_; rw [show (enL l0_2 l1_0 l1_1 i ++ [a.f1]).length = i + 1 by simp [enL_length]] at ev_; subst ev_; have HC4 := Aside0.mk (HC3.out.pushB h1_ h2_ h3_ h4_); clear h1_ h2_ h3_ h4_ d1 d2))
            go_roundw
            case rel => exact ⟨i + 1, Ac, cc, Ad, cd, by omega, rfl, rfl, by go_num, ⟨by rw [stL_succ, enL_succ, HX.out, HS.out, show stOf l0_2 x (-1) = a.f2 by unfold stOf; rw [HRD.out]; rfl, show enOf l0_2 x (-1) = a.f1 by unfold enOf; rw [HRD.out]; rfl]; exact HC4.out⟩, ⟨fun j hj => by
              rcases Nat.lt_succ_iff_lt_or_eq.1 hj with h | rfl
              · exact HA.out j h
              · exact HOKI.out⟩⟩
            case measure => simp [intOf]; omega
      · obtain rfl : i = l1_0.length := by omega
        have hi512 : l1_0.length ≤ 512 := by
          have h1 := arcs_le hi HA.out
          have h2 : l0_2.length ≤ 512 := by have := HOK.out; simp [netOk] at this; omega
          omega
        have hlst := stL_length l0_2 l1_0 l1_1 l1_0.length
        have hlen := enL_length l0_2 l1_0 l1_1 l1_0.length
        have hrot : ∀ j, j < l1_0.length → rotB (stL l0_2 l1_0 l1_1 l1_0.length) (enL l0_2 l1_0 l1_1 l1_0.length) j = false → cycB a0_0 l0_1.length l0_2 l1_0 l1_1 = false := fun j hj h => cycB_rot hj h
        have hall : (∀ j, j < l1_0.length → rotB (stL l0_2 l1_0 l1_1 l1_0.length) (enL l0_2 l1_0 l1_1 l1_0.length) j = true) → cycB a0_0 l0_1.length l0_2 l1_0 l1_1 = true := fun h => cycB_true HOK.out hl2 HLE.out HA.out h
        generalize stL l0_2 l1_0 l1_1 l1_0.length = st at *
        generalize enL l0_2 l1_0 l1_1 l1_0.length = en at *
        have HROT := Aside0.mk hrot
        have HALL := Aside0.mk hall
        have HST := Aside0.mk hlst
        have HEN := Aside0.mk hlen
        clear hrot hall hlst hlen HA hi hlt q2 q3 q4
        obtain ⟨wo, ewo⟩ : ∃ wo : World, wo = wr := ⟨_, rfl⟩
        subst ewo
        go_wp2
        go_loopw [104] (fun v104 W => ∃ i : Nat, i ≤ l1_0.length ∧ v104 = .int .i64 i ∧ Aside0 (CC w #[.int .i64 a0_0, .slice A0_1 l0_1.length c0_1, .slice A0_2 l0_2.length c0_2] #[.slice A1_0 l1_0.length c1_0, .slice A1_1 l1_1.length c1_1] w.heap.size (w.heap.size + 1) W (.slice Aa l1_0.length ca) (.slice Ab l1_0.length cb) st en) ∧ Aside0 (∀ j, j < i → (st.take j).contains (st.getD j 0) = false ∧ (0 < j → st.getD j 0 = en.getD (j - 1) 0))) (fun v104 _ => l1_0.length - (intOf v104).toNat)
        case atStart => exact ⟨0, Nat.zero_le _, rfl, HCC, ⟨fun j hj => absurd hj (Nat.not_lt_zero _)⟩⟩
        case round =>
          clear HCC
          obtain ⟨i, hi, rfl, HCC, HA⟩ := hrel
          obtain ⟨hq1, hca, hCa⟩ := Kd.R_reads' HCC.out.ra
          obtain ⟨hq2, hcb, hCb⟩ := Kd.R_reads' HCC.out.rb
          clear hq1 hq2
          rw [HST.out] at hCa
          rw [HEN.out] at hCb
          have HRA := Aside0.mk hCa
          have HRB := Aside0.mk hCb
          clear hCa hCb
          by_cases hlt : i < l1_0.length
          · obtain ⟨ad1, e1, hx1⟩ := Kd.at_int HRA.out (i : Int) (by omega) (by omega)
            cases e1
            rw [Int.toNat_natCast, show rd st (i : Int) = st.getD i 0 by unfold rd; rw [Int.toNat_natCast]] at hx1
            generalize hx : st.getD i 0 = x at hx1
            have HX := Aside0.mk hx
            clear hx
            have HTK : Aside0 (∀ n, Calls Try.prog 89 #[.slice (some ad1) i ca, .int .i64 x] (wr.drewN n) fun e w' => e = .returned (.bool ((st.take i).contains x)) ∧ ∃ m, w' = (wr.drewN n).drewN m) := ⟨fun n => take_c (some ad1) ca st x i _ (by rw [HST.out]; omega) (by rw [HST.out]; exact Kd.C_drewN HRA.out n) (by rw [HST.out]; exact hca)⟩
            have hica : (i : Int) ≤ (ca : Int) := by omega
            have hicb : i ≤ ca := by omega
            generalize hct : (st.take i).contains x = ct at HTK
            have HCT := Aside0.mk hct
            clear hct
            cases ct with
            | true =>
              have hres := HROT.out i hlt (by unfold rotB; rw [HX.out, HCT.out]; rfl)
              have HRES := Aside0.mk hres
              clear hres
              go_wp2_with fail
              go_quiet ((go_at_call 89; exact Calls.quiet_of (HTK.out _)))
              go_wp2
              go_ret
              rw [HRES.out]
              exact ⟨rfl, pw_below_drewN HCC.out.bel _⟩
            | false =>
              rcases Nat.eq_zero_or_pos i with hi0 | hi0
              · subst hi0
                have hx1' : wr.cell? ad1 = some (.int .i64 x) := hx1
                clear hx1
                go_wp2_with fail
                go_quiet ((go_at_call 89; exact Calls.quiet_of (HTK.out _)))
                go_wp2
                go_roundw
                case rel => exact ⟨0 + 1, by omega, by go_num, ⟨HCC.out.drewN _⟩, ⟨fun j hj => by
                  obtain rfl : j = 0 := by omega
                  exact ⟨by rw [HX.out]; exact HCT.out, fun h => absurd h (Nat.lt_irrefl _)⟩⟩⟩
                case measure => simp [intOf]; omega
              · obtain ⟨ad2, e2, hx2⟩ := Kd.at_int HRB.out ((i : Int) - 1) (by omega) (by omega)
                cases e2
                rw [show rd en ((i : Int) - 1) = en.getD (i - 1) 0 by unfold rd; rw [show ((i : Int) - 1).toNat = i - 1 by omega], show ((i : Int) - 1).toNat = i - 1 by omega] at hx2
                generalize hy : en.getD (i - 1) 0 = y at hx2
                have HY := Aside0.mk hy
                clear hy
                have hw2 : IntKind.i64.wrap ((i : Int) - 1) = (i : Int) - 1 := IntWalk.i64_in _ (by omega)
                have hd1 : decide ((0 : Int) < (i : Int)) = true := decide_eq_true (by omega)
                have hd3 : (1 : Int) ≤ (i : Int) := by omega
                have hd4 : (i : Int) - 1 < (l1_0.length : Int) := by omega
                have hd5 : ((i : Int) - 1).toNat = i - 1 := by omega
                by_cases hxy : x = y
                · have hxy1 : (x == y) = true := beq_iff_eq.2 hxy
                  have hxy2 : (x != y) = false := by rw [bne_eq_false_iff_eq]; exact hxy
                  have HXY := Aside0.mk hxy
                  clear hxy
                  go_wp2_with fail
                  go_quiet ((go_at_call 89; exact Calls.quiet_of (HTK.out _)))
                  go_wp2
                  go_roundw
                  case rel => exact ⟨i + 1, by omega, by go_num, ⟨HCC.out.drewN _⟩, ⟨fun j hj => by
                    rcases Nat.lt_succ_iff_lt_or_eq.1 hj with h | rfl
                    · exact HA.out j h
                    · exact ⟨by rw [HX.out]; exact HCT.out, fun _ => by rw [HX.out, HY.out]; exact HXY.out⟩⟩⟩
                  case measure => simp [intOf]; omega
                · have hxy1 : (x == y) = false := beq_eq_false_iff_ne.2 hxy
                  have hxy2 : (x != y) = true := bne_iff_ne.2 hxy
                  have hres := HROT.out (i - 1) (by omega) (by
                    unfold rotB
                    rw [HST.out, show i - 1 + 1 = i by omega, Nat.mod_eq_of_lt hlt, HX.out, HY.out, hxy1, Bool.and_false])
                  have HRES := Aside0.mk hres
                  clear hres hxy
                  go_wp2_with fail
                  go_quiet ((go_at_call 89; exact Calls.quiet_of (HTK.out _)))
                  go_wp2
                  go_ret
                  rw [HRES.out]
                  exact ⟨rfl, pw_below_drewN HCC.out.bel _⟩
          · obtain rfl : i = l1_0.length := by omega
            obtain ⟨ad1, e1, hx1⟩ := Kd.at_int HRA.out (0 : Int) (by omega) (by omega)
            cases e1
            obtain ⟨ad2, e2, hx2⟩ := Kd.at_int HRB.out ((l1_0.length : Int) - 1) (by omega) (by omega)
            cases e2
            rw [show rd en ((l1_0.length : Int) - 1) = en.getD (l1_0.length - 1) 0 by unfold rd; rw [show ((l1_0.length : Int) - 1).toNat = l1_0.length - 1 by omega], show ((l1_0.length : Int) - 1).toNat = l1_0.length - 1 by omega] at hx2
            rw [show rd st (0 : Int) = st.getD 0 0 from rfl, show (0 : Int).toNat = 0 from rfl] at hx1
            generalize hx : st.getD 0 0 = x at hx1
            generalize hy : en.getD (l1_0.length - 1) 0 = y at hx2
            have hres : cycB a0_0 l0_1.length l0_2 l1_0 l1_1 = (x == y) := by
              cases hxy : (x == y) with
              | false =>
                refine HROT.out (l1_0.length - 1) (by omega) ?_
                unfold rotB
                rw [HST.out, show l1_0.length - 1 + 1 = l1_0.length by omega, Nat.mod_self, hx, hy, hxy, Bool.and_false]
              | true =>
                refine HALL.out fun j hj => ?_
                unfold rotB
                rw [(HA.out j hj).1, Bool.not_false, Bool.true_and, HST.out]
                by_cases hj1 : j + 1 < l1_0.length
                · rw [Nat.mod_eq_of_lt hj1, (HA.out (j + 1) hj1).2 (by omega), Nat.add_sub_cancel]; simp
                · rw [show j + 1 = l1_0.length by omega, Nat.mod_self, hx, show j = l1_0.length - 1 by omega, hy]; exact hxy
            have HRES := Aside0.mk hres
            clear hres hx hy
            have hd3 : (1 : Int) ≤ (l1_0.length : Int) := by omega
            have hd4 : (l1_0.length : Int) - 1 < (l1_0.length : Int) := by omega
            have hd5 : ((l1_0.length : Int) - 1).toNat = l1_0.length - 1 := by omega
            have hd6 : 0 < l1_0.length := by omega
            have hx1' : wr.cell? ad1 = some (.int .i64 x) := hx1
            clear hx1
            go_wp2_with fail
            go_quiet (fail)
            go_wp2
            go_ret
            rw [HRES.out]
            exact ⟨rfl, pw_below_drewN HCC.out.bel _⟩
end Go.Proofs.Ytbkjplomoegbdaa.PB
