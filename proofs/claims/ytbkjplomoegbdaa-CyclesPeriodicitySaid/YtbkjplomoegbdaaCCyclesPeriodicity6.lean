/- Parts of the proof of CyclesPeriodicity, gathered by a program of this claim out of texts that it or the kit's print wrote: lemmas alone, no condition of their own. -/
import Derived.Test.YtbkjplomoegbdaaCCyclesPeriodicity4
import Derived.Shelf.Abstract
section
namespace Go.Proofs.Ytbkjplomoegbdaa.PB
open Go.RowKit Go.Proofs.YtbkjplomoegbdaaW.PrintWords Go.Proofs.YtbkjplomoegbdaaW.PrintLast Go.Proofs.YtbkjplomoegbdaaW.PrintMore
set_option linter.unusedVariables false
set_option linter.unusedSimpArgs false
def idxOf {α : Type} (p : α → Bool) (l : List α) : Int := match l.findIdx? p with | some i => (i : Int) | none => -1
theorem idxOf_at {α : Type} {p : α → Bool} {l : List α} {z : α} {i : Nat} (hi : i < l.length) (h : p (l.getD i z) = true) (hp : ∀ j, j < i → p (l.getD j z) = false) : idxOf p l = i := by
  unfold idxOf
  have : l.findIdx? p = some i := by
    rw [List.findIdx?_eq_some_iff_getElem]
    refine ⟨hi, by simpa [List.getD_eq_getElem?_getD, hi] using h, fun j hj => ?_⟩
    have := hp j hj
    simpa [List.getD_eq_getElem?_getD, show j < l.length by omega] using this
  rw [this]
theorem idxOf_none {α : Type} {p : α → Bool} {l : List α} {z : α} (hp : ∀ j, j < l.length → p (l.getD j z) = false) : idxOf p l = -1 := by
  unfold idxOf
  have : l.findIdx? p = none := by
    rw [List.findIdx?_eq_none_iff]
    intro x hx
    obtain ⟨j, hj, rfl⟩ := List.getElem_of_mem hx
    have := hp j hj
    simpa [List.getD_eq_getElem?_getD, hj] using this
  rw [this]
theorem getD_mem {α : Type} {l : List α} {z : α} {i : Nat} (hi : i < l.length) : l.getD i z ∈ l := by
  simp [List.getD_eq_getElem?_getD, hi]
set_option maxHeartbeats 400000 in
set_option maxRecDepth 100000 in
theorem idx36 (I : World → Prop) (p : S36 → Bool) (g : Nat) (lb : Array Value) (A : Option Addr) (c : Nat) (l : List S36) (w : World) (hI : I w)
    (he : ∀ args W, (callFunc g args).run Try.prog W = .ok (.enter g args) W)
    (hf : ∀ W x, x ∈ l → I W → Calls Try.prog g (#[.agg #[.int .i64 x.f0, .int .i64 x.f1, .int .i64 x.f2, .int .i64 x.f3, .int .i64 x.f4, .int .i64 x.f5]] ++ lb) W fun e w' => e = .returned (.bool (p x)) ∧ I w')
    (hr : ∀ W, I W → Kd.C k36 W A l.length l) :
    Calls Try.prog 160 #[.slice A l.length c, .func (.func g) #[] lb] w fun e w' => e = .returned (.int .i64 (idxOf p l)) ∧ I w' := by
  have HR := Aside0.mk hr
  have HE := Aside0.mk he
  have HF := Aside0.mk hf
  have hL : l.length ≤ 9223372036854775807 := (hr w hI).2.1
  clear hr he hf
  go_enter Try.func160, Try.ntmps160
  go_wp2
  go_loopw [8] (fun v8 W => ∃ i : Nat, i ≤ l.length ∧ v8 = .int .i64 i ∧ (∀ j, j < i → p (l.getD j z36) = false) ∧ I W) (fun v8 _ => l.length - (intOf v8).toNat)
  case atStart => exact ⟨0, Nat.zero_le _, rfl, fun j hj => absurd hj (Nat.not_lt_zero _), hI⟩
  case round =>
    obtain ⟨i, hi, rfl, hp, hI⟩ := hrel
    have hR := Aside0.mk (HR.out _ hI)
    have hP := Aside0.mk hp
    clear hp
    by_cases hlt : i < l.length
    · obtain ⟨ad, e, h0, h1, h2, h3, h4, h5⟩ := at_T36 hR.out i (by omega) (by omega)
      cases e
      simp only [Int.toNat_natCast] at h0 h1 h2 h3 h4 h5
      go_wp2_with fail
      rw [HE.out, Oper.upon_enter]
      refine (HF.out wr (rd_T36 l i) (by simpa [rd_T36] using getD_mem hlt) hI).mono ?_
      rintro e w' ⟨rfl, hI'⟩
      have hP' := Aside0.mk hP.out
      clear hP hI hR h0 h1 h2 h3 h4 h5
      cases hpx : p (rd_T36 l i)
      · go_wp2
        go_roundw
        case rel => exact ⟨i + 1, by omega, by go_num, fun j hj => by
          rcases Nat.lt_succ_iff_lt_or_eq.1 hj with h | rfl
          · exact hP'.out j h
          · simpa [rd_T36] using hpx, hI'⟩
        case measure => simp [intOf]; omega
      · go_wp2
        go_ret
        exact ⟨by rw [idxOf_at hlt (by simpa [rd_T36] using hpx) hP'.out]; rfl, hI'⟩
    · go_wp2
      go_ret
      exact ⟨by rw [idxOf_none (z := z36) (fun j hj => hP.out j (by omega))]; rfl, hI⟩
set_option maxHeartbeats 400000 in
set_option maxRecDepth 100000 in
theorem has36 (I : World → Prop) (p : S36 → Bool) (g : Nat) (lb : Array Value) (A : Option Addr) (c : Nat) (l : List S36) (w : World) (hI : I w)
    (he : ∀ args W, (callFunc g args).run Try.prog W = .ok (.enter g args) W)
    (hf : ∀ W x, x ∈ l → I W → Calls Try.prog g (#[.agg #[.int .i64 x.f0, .int .i64 x.f1, .int .i64 x.f2, .int .i64 x.f3, .int .i64 x.f4, .int .i64 x.f5]] ++ lb) W fun e w' => e = .returned (.bool (p x)) ∧ I w')
    (hr : ∀ W, I W → Kd.C k36 W A l.length l) :
    Calls Try.prog 138 #[.slice A l.length c, .func (.func g) #[] lb] w fun e w' => e = .returned (.bool (decide (0 ≤ idxOf p l))) ∧ I w' := by
  have H := Aside0.mk (idx36 I p g lb A c l w hI he hf hr)
  clear he hf hr
  go_enter Try.func138, Try.ntmps138
  go_wp2_with (go_at_call 160; refine H.out.mono ?_; rintro e w' ⟨rfl, hI'⟩)
  go_ret
  exact ⟨rfl, hI'⟩
theorem idxOf_any {α : Type} (p : α → Bool) (l : List α) : decide (0 ≤ idxOf p l) = l.any p := by
  unfold idxOf
  cases h : l.findIdx? p with
  | none =>
    have := List.findIdx?_eq_none_iff.1 h
    simp
    intro x hx
    simpa using this x hx
  | some i =>
    have := List.findIdx?_isSome (xs := l) (p := p)
    rw [h] at this
    simp at this
    simp
    exact this
theorem has36_below (p : S36 → Bool) (g : Nat) (lb : Array Value) (A : Option Addr) (c : Nat) (l : List S36) (w : World)
    (he : ∀ args W, (callFunc g args).run Try.prog W = .ok (.enter g args) W) (hr : Kd.C k36 w A l.length l)
    (hf : ∀ W x, x ∈ l → Below w.heap.size w W → Calls Try.prog g (#[.agg #[.int .i64 x.f0, .int .i64 x.f1, .int .i64 x.f2, .int .i64 x.f3, .int .i64 x.f4, .int .i64 x.f5]] ++ lb) W fun e w' => e = .returned (.bool (p x)) ∧ Below W.heap.size W w') :
    Calls Try.prog 138 #[.slice A l.length c, .func (.func g) #[] lb] w fun e w' => e = .returned (.bool (l.any p)) ∧ Below w.heap.size w w' := by
  rw [← idxOf_any]
  exact has36 (fun W => Below w.heap.size w W) p g lb A c l w (Below.refl _ _) he (fun W x hx hb => (hf W x hx hb).mono fun e w' ⟨h1, h2⟩ => ⟨h1, below_step hb h2⟩) (fun W hb => Kd.C_below hr hb)
theorem within_b (a b c : Int) (w : World) : Calls Try.prog 140 #[.int .i64 a, .int .i64 b, .int .i64 c] w fun e w' => e = .returned (.bool (decide (b ≤ a) && decide (a ≤ c))) ∧ Drawn0 w w' := by
  refine network_within.calls a b c _ w ?_
  unfold network_within.f
  by_cases h : a ≥ b
  · rw [if_pos h]; simp [show b ≤ a from h]
  · rw [if_neg h]; simp [show ¬ b ≤ a from h]
def badAct (per last : Int) (x : S36) : Bool :=
  !(decide (0 ≤ x.f1) && decide (x.f1 ≤ last)) || !(decide (0 ≤ x.f2) && decide (x.f2 ≤ last)) || x.f1 == x.f2 || decide (x.f3 < -65536) || decide (x.f3 > x.f4) || decide (x.f4 > 65536) || decide (wrap64 (x.f4 - x.f3) ≥ per) || !(decide (0 ≤ x.f5) && decide (x.f5 ≤ 1048576))
set_option maxHeartbeats 1000000 in
set_option maxRecDepth 100000 in
theorem check_lit (per last : Int) (es : Value) (ac : Value) (x : S36) (bl bn : Nat) (w : World) (hl : w.cell? ⟨bl, 0, none⟩ = some (.int .i64 last)) (hn : w.cell? ⟨bn, 0, none⟩ = some (.int .i64 per)) :
    Calls Try.prog 141 #[.agg #[.int .i64 x.f0, .int .i64 x.f1, .int .i64 x.f2, .int .i64 x.f3, .int .i64 x.f4, .int .i64 x.f5], .pointer (some ⟨bl, 0, none⟩), .pointer (some ⟨bn, 0, none⟩)] w fun e w' => e = .returned (.bool (badAct per last x)) ∧ Below w.heap.size w w' := by
  have hu36 := Try.underlying36
  have hl' : ∀ o, (w.alloc o).cell? ⟨bl, 0, none⟩ = some (.int .i64 last) := fun o => (World.cell?_alloc_lt _ _ _ (World.block_lt_of_cell? w _ hl)).trans hl
  have hn' : ∀ o, (w.alloc o).cell? ⟨bn, 0, none⟩ = some (.int .i64 per) := fun o => (World.cell?_alloc_lt _ _ _ (World.block_lt_of_cell? w _ hn)).trans hn
  clear hl hn
  go_enter Try.func141, Try.ntmps141
  go_wp2_with (go_at_call 140; refine (within_b _ _ _ _).mono ?_; rintro e w' ⟨rfl, ⟨nd, rfl⟩⟩)
  all_goals
    go_ret
    refine ⟨congrArg (fun b => Ending.returned (Value.bool b)) ?_, by repeat (first | exact Below.refl _ _ | apply below_alloc | apply pw_below_drewN | apply below_drew)⟩
    clear hl' hn' hu36
    rw [Bool.eq_iff_iff]
    simp [badAct, wrap64]
    omega
end Go.Proofs.Ytbkjplomoegbdaa.PB
end
section
namespace Go.Proofs.Ytbkjplomoegbdaa.PB
open Go.RowKit Go.Proofs.YtbkjplomoegbdaaW.PrintWords Go.Proofs.YtbkjplomoegbdaaW.PrintLast Go.Proofs.YtbkjplomoegbdaaW.PrintMore
set_option linter.unusedVariables false
set_option linter.unusedSimpArgs false
def netOk (per : Int) (n : Nat) (acts : List S36) : Bool :=
  decide (2 ≤ per) && decide (per ≤ 7200) && decide (n ≤ 48) && decide (acts.length ≤ 512) && !(acts.any (badAct per ((n : Int) - 1)))
def network_Check.f (a0_0 : Int) (l0_1 : List (S97)) (l0_2 : List (S36)) : Option (Bool) := some (netOk a0_0 l0_1.length l0_2)
set_option maxHeartbeats 1000000 in
set_option maxRecDepth 100000 in
theorem network_Check.calls (a0_0 : Int) (A0_1 : Option Addr) (c0_1 : Nat) (l0_1 : List (S97)) (A0_2 : Option Addr) (c0_2 : Nat) (l0_2 : List (S36)) (r : Bool) (w : World) (hr0_1 : Kd.C k97 w A0_1 l0_1.length l0_1) (hc0_1 : l0_1.length ≤ c0_1) (hr0_2 : Kd.C k36 w A0_2 l0_2.length l0_2) (hc0_2 : l0_2.length ≤ c0_2) (h : network_Check.f a0_0 l0_1 l0_2 = some r) :
    Calls Try.prog 92 #[.agg #[.int .i64 a0_0, .slice A0_1 l0_1.length c0_1, .slice A0_2 l0_2.length c0_2]] w fun e w' => e = .returned (.bool r) ∧ Below w.heap.size w w' := by
  obtain rfl := Option.some.inj h
  clear h
  have hu26 := Try.underlying26
  have HR := Aside0.mk hr0_2
  have m1 := Kd.C_max hr0_1
  have m2 := Kd.C_max hr0_2
  clear hr0_1 hr0_2 hc0_1 hc0_2
  have eg : ∀ args W, (callFunc 141 args).run Try.prog W = .ok (.enter 141 args) W := enters_of Try.func141 (by kernel_rfl) rfl
  have EG := Aside0.mk eg
  clear eg
  go_enter Try.func92, Try.ntmps92
  go_wp2_with (first | (go_at_call 140; refine (within_b _ _ _ _).mono ?_; rintro e w' ⟨rfl, ⟨nd, rfl⟩⟩) | (go_at_call 138; refine (has36_below (badAct a0_0 ((l0_1.length : Int) - 1)) 141 _ _ _ l0_2 _ EG.out ?hr ?hf).mono ?_; (case hr => exact Kd.C_below HR.out (by repeat (first | exact Below.refl _ _ | apply below_alloc | apply pw_below_drewN | apply below_drew))); (case hf => intro W x hx hb; exact check_lit a0_0 _ .nilIface .nilIface x _ _ W ((hb.cell (p := ⟨w.heap.size + 1, 0, none⟩) (by simp)).trans (by go_simp)) ((hb.cell (p := ⟨w.heap.size, 0, none⟩) (by simp; omega)).trans (by go_simp))); rintro e w' ⟨rfl, hb⟩))
  all_goals
    go_ret
    refine ⟨congrArg (fun b => Ending.returned (Value.bool b)) ?_, ?_⟩
    · clear EG HR hu26
      rw [Bool.eq_iff_iff]
      simp [netOk]
      try omega
    · first
        | (refine below_step ?_ (by assumption); repeat (first | exact Below.refl _ _ | apply below_alloc | apply pw_below_drewN | apply below_drew))
        | (repeat (first | exact Below.refl _ _ | apply below_alloc | apply pw_below_drewN | apply below_drew))
end Go.Proofs.Ytbkjplomoegbdaa.PB
end
section
namespace Go.Proofs.Ytbkjplomoegbdaa.PB
open Go.RowKit Go.Proofs.YtbkjplomoegbdaaW.PrintWords Go.Proofs.YtbkjplomoegbdaaW.PrintLast Go.Proofs.YtbkjplomoegbdaaW.PrintMore
set_option linter.unusedVariables false
set_option linter.unusedSimpArgs false
set_option maxHeartbeats 400000 in
set_option maxRecDepth 100000 in
theorem idxI (I : World → Prop) (p : Int → Bool) (g : Nat) (lb : Array Value) (A : Option Addr) (c : Nat) (l : List Int) (w : World) (hI : I w)
    (he : ∀ args W, (callFunc g args).run Try.prog W = .ok (.enter g args) W)
    (hf : ∀ W x, x ∈ l → I W → Calls Try.prog g (#[.int .i64 x] ++ lb) W fun e w' => e = .returned (.bool (p x)) ∧ I w')
    (hr : ∀ W, I W → Kd.C (Kd.int .i64) W A l.length l) :
    Calls Try.prog 152 #[.slice A l.length c, .func (.func g) #[] lb] w fun e w' => e = .returned (.int .i64 (idxOf p l)) ∧ I w' := by
  have HR := Aside0.mk hr
  have HE := Aside0.mk he
  have HF := Aside0.mk hf
  have hL : l.length ≤ 9223372036854775807 := (hr w hI).2.1
  clear hr he hf
  go_enter Try.func152, Try.ntmps152
  go_wp2
  go_loopw [8] (fun v8 W => ∃ i : Nat, i ≤ l.length ∧ v8 = .int .i64 i ∧ (∀ j, j < i → p (l.getD j 0) = false) ∧ I W) (fun v8 _ => l.length - (intOf v8).toNat)
  case atStart => exact ⟨0, Nat.zero_le _, rfl, fun j hj => absurd hj (Nat.not_lt_zero _), hI⟩
  case round =>
    obtain ⟨i, hi, rfl, hp, hI⟩ := hrel
    have hR := Aside0.mk (HR.out _ hI)
    have hP := Aside0.mk hp
    clear hp
    by_cases hlt : i < l.length
    · obtain ⟨ad, e, h0⟩ := Kd.at_int hR.out i (by omega) (by omega)
      cases e
      simp only [Int.toNat_natCast] at h0
      go_wp2_with fail
      rw [HE.out, Oper.upon_enter]
      refine (HF.out wr (rd l i) (by simpa [rd] using getD_mem hlt) hI).mono ?_
      rintro e w' ⟨rfl, hI'⟩
      have hP' := Aside0.mk hP.out
      clear hP hI hR h0
      cases hpx : p (rd l i)
      · go_wp2
        go_roundw
        case rel => exact ⟨i + 1, by omega, by go_num, fun j hj => by
          rcases Nat.lt_succ_iff_lt_or_eq.1 hj with h | rfl
          · exact hP'.out j h
          · simpa [rd] using hpx, hI'⟩
        case measure => simp [intOf]; omega
      · go_wp2
        go_ret
        exact ⟨by rw [idxOf_at hlt (by simpa [rd] using hpx) hP'.out]; rfl, hI'⟩
    · go_wp2
      go_ret
      exact ⟨by rw [idxOf_none (z := (0 : Int)) (fun j hj => hP.out j (by omega))]; rfl, hI⟩
set_option maxHeartbeats 400000 in
set_option maxRecDepth 100000 in
theorem hasI (I : World → Prop) (p : Int → Bool) (g : Nat) (lb : Array Value) (A : Option Addr) (c : Nat) (l : List Int) (w : World) (hI : I w)
    (he : ∀ args W, (callFunc g args).run Try.prog W = .ok (.enter g args) W)
    (hf : ∀ W x, x ∈ l → I W → Calls Try.prog g (#[.int .i64 x] ++ lb) W fun e w' => e = .returned (.bool (p x)) ∧ I w')
    (hr : ∀ W, I W → Kd.C (Kd.int .i64) W A l.length l) :
    Calls Try.prog 117 #[.slice A l.length c, .func (.func g) #[] lb] w fun e w' => e = .returned (.bool (decide (0 ≤ idxOf p l))) ∧ I w' := by
  have H := Aside0.mk (idxI I p g lb A c l w hI he hf hr)
  clear he hf hr
  go_enter Try.func117, Try.ntmps117
  go_wp2_with (go_at_call 152; refine H.out.mono ?_; rintro e w' ⟨rfl, hI'⟩)
  go_ret
  exact ⟨rfl, hI'⟩
theorem hasI_below (p : Int → Bool) (g : Nat) (lb : Array Value) (A : Option Addr) (c : Nat) (l : List Int) (w : World)
    (he : ∀ args W, (callFunc g args).run Try.prog W = .ok (.enter g args) W) (hr : Kd.C (Kd.int .i64) w A l.length l)
    (hf : ∀ W x, x ∈ l → Below w.heap.size w W → Calls Try.prog g (#[.int .i64 x] ++ lb) W fun e w' => e = .returned (.bool (p x)) ∧ Below W.heap.size W w') :
    Calls Try.prog 117 #[.slice A l.length c, .func (.func g) #[] lb] w fun e w' => e = .returned (.bool (l.any p)) ∧ Below w.heap.size w w' := by
  rw [← idxOf_any]
  exact hasI (fun W => Below w.heap.size w W) p g lb A c l w (Below.refl _ _) he (fun W x hx hb => (hf W x hx hb).mono fun e w' ⟨h1, h2⟩ => ⟨h1, below_step hb h2⟩) (fun W hb => Kd.C_below hr hb)
end Go.Proofs.Ytbkjplomoegbdaa.PB
end
