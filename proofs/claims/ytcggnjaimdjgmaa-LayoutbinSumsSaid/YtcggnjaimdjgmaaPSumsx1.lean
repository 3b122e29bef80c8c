/- Written by a program of this claim (the kit's print, with changes): Go functions as Lean functions, and the proofs that the calls come to just these; or the row of a law. No condition of its own. -/
import Derived.Test.YtcggnjaimdjgmaaPSumsx0
namespace Go.Proofs.Ytcggnjaimdjgmaa.PSums
open Go.RowKit Go.Proofs.YtcggnjaimdjgmaaW.PrintWords Go.Proofs.YtcggnjaimdjgmaaW.PrintLast Go.Proofs.YtcggnjaimdjgmaaW.PrintMore
attribute [local go_sem] max2_int min2_int max_two min_two max_three min_three max_four min_four   -- for this text's walks alone
set_option linter.unusedVariables false
set_option linter.unusedSimpArgs false

/-! ### layoutbin_Sum: function 13 -/
mutual
def layoutbin_Sum.l0 : Nat → ByteArray → Int → Int → Int → Option (Int)
  | 0, _, _, _, _ => none
  | k + 1, x0, x3, x7, x8 => if x8 < x7 then (if 0 ≤ x8 then (if x8 < (x0.size : Int) then (layoutbin_Sum.l1 k x0 (Go.bits .xor .u32 x3 ((bt x0 x8) % 4294967296)) x7 x8 0) else (none)) else (none)) else (some (Go.bits .xor .u32 4294967295 x3))
def layoutbin_Sum.l1 : Nat → ByteArray → Int → Int → Int → Int → Option (Int)
  | 0, _, _, _, _, _ => none
  | k + 1, x0, x3, x7, x8, x17 => if x17 < 8 then (layoutbin_Sum.l1 k x0 (Go.bits .xor .u32 (x3 / 2) ((3988292384 * (Go.bits .and .u32 x3 1)) % 4294967296)) x7 x8 (wrap64 (x17 + 1))) else (layoutbin_Sum.l0 k x0 x3 x7 (wrap64 (x8 + 1)))
end
def layoutbin_Sum.f (k : Nat) (a0 : ByteArray) : Option (Int) := layoutbin_Sum.l0 k a0 4294967295 (a0.size : Int) 0
theorem layoutbin_Sum.mono_l : ∀ k, (∀ y0 y1 y2 y3, LeO (layoutbin_Sum.l0 k y0 y1 y2 y3) (layoutbin_Sum.l0 (k + 1) y0 y1 y2 y3)) ∧ (∀ y0 y1 y2 y3 y4, LeO (layoutbin_Sum.l1 k y0 y1 y2 y3 y4) (layoutbin_Sum.l1 (k + 1) y0 y1 y2 y3 y4))
  | 0 => ⟨fun _ _ _ _ r h => by simp [layoutbin_Sum.l0] at h, fun _ _ _ _ _ r h => by simp [layoutbin_Sum.l1] at h⟩
  | k + 1 => by
    obtain ⟨ih0, ih1⟩ := layoutbin_Sum.mono_l k
    refine ⟨?_, ?_⟩
    · intro y0 y1 y2 y3
      unfold layoutbin_Sum.l0
      repeat' first
      | (with_reducible exact ih0 _ _ _ _)
      | (with_reducible exact ih1 _ _ _ _ _)
      | (with_reducible exact LeO.refl _)
      | (with_reducible exact LeO.none _)
      | (with_reducible refine LeO.ite ?_ ?_)
      | (with_reducible refine LeO.bind ?_ (fun _ => ?_))
      | exact ih0 _ _ _ _
      | exact ih1 _ _ _ _ _
      | exact LeO.none _
      | refine LeO.ite ?_ ?_
      | refine LeO.bind ?_ (fun _ => ?_)
    · intro y0 y1 y2 y3 y4
      unfold layoutbin_Sum.l1
      repeat' first
      | (with_reducible exact ih0 _ _ _ _)
      | (with_reducible exact ih1 _ _ _ _ _)
      | (with_reducible exact LeO.refl _)
      | (with_reducible exact LeO.none _)
      | (with_reducible refine LeO.ite ?_ ?_)
      | (with_reducible refine LeO.bind ?_ (fun _ => ?_))
      | exact ih0 _ _ _ _
      | exact ih1 _ _ _ _ _
      | exact LeO.none _
      | refine LeO.ite ?_ ?_
      | refine LeO.bind ?_ (fun _ => ?_)
theorem layoutbin_Sum.mono : ∀ a0 k, LeO (layoutbin_Sum.f k a0) (layoutbin_Sum.f (k + 1) a0) := by
  intro a0 k
  obtain ⟨ih0, ih1⟩ := layoutbin_Sum.mono_l k
  unfold layoutbin_Sum.f
  repeat' first
      | (with_reducible exact ih0 _ _ _ _)
      | (with_reducible exact ih1 _ _ _ _ _)
      | (with_reducible exact LeO.refl _)
      | (with_reducible exact LeO.none _)
      | (with_reducible refine LeO.ite ?_ ?_)
      | (with_reducible refine LeO.bind ?_ (fun _ => ?_))
      | exact ih0 _ _ _ _
      | exact ih1 _ _ _ _ _
      | exact LeO.none _
      | refine LeO.ite ?_ ?_
      | refine LeO.bind ?_ (fun _ => ?_)
set_option maxHeartbeats 8000000 in
set_option maxRecDepth 100000 in
theorem layoutbin_Sum.calls (k : Nat) (a0 : ByteArray) (r : Int) (w : World) (h : layoutbin_Sum.f k a0 = some r) :
    Calls Try.prog 13 #[.string a0] w fun e w' => e = .returned (.int .u32 r) ∧ Drawn0 w w' := by
  have H : (layoutbin_Sum.l0 k a0 4294967295 (a0.size : Int) 0) = some r := h
  clear h
  have H' := Aside0.mk H
  clear H
  go_enter Try.func13, Try.ntmps13
  go_wp2
  go_loopg [3, 8] k (fun kq v3 v8 w' => ∃ (x3_1 : Int) (x8_1 : Int), v3 = .int .u32 x3_1 ∧ v8 = .int .i64 x8_1 ∧ Aside0 (layoutbin_Sum.l0 kq a0 x3_1 (a0.size : Int) x8_1 = some r) ∧ Aside0 (kq ≤ k) ∧ Drawn0 w w')
  case atStart => exact ⟨(4294967295), (0), (by first | rfl | (simp; done) | (simp [*]; done)), (by first | rfl | (simp; done) | (simp [*]; done)), H', ⟨Nat.le_refl _⟩, by repeat (first | exact Drawn0.refl _ | apply Drawn0.step)⟩
  case round =>
    clear H'
    try clear c1
    obtain ⟨x3_1, x8_1, rfl, rfl, HA, HK1, ⟨m1, rfl⟩⟩ := hrel
    cases gk with
    | zero => exact absurd HA.out (by simp [layoutbin_Sum.l0])
    | succ k1 =>
      have H := HA.out
      clear HA
      simp only [layoutbin_Sum.l0] at H
      by_cases c2 : x8_1 < (a0.size : Int)
      · rw [if_pos c2] at H
        have c2b0 : decide (x8_1 < (a0.size : Int)) = true := decide_eq_true c2
        clear c2
        by_cases c3 : 0 ≤ x8_1
        · rw [if_pos c3] at H
          have c3b0 : decide (0 ≤ x8_1) = true := decide_eq_true c3
          clear c3
          by_cases c4 : x8_1 < (a0.size : Int)
          · rw [if_pos c4] at H
            have c4b0 : decide (x8_1 < (a0.size : Int)) = true := decide_eq_true c4
            clear c4
            have H' := Aside0.mk H
            clear H
            have p5 : 0 ≤ (x8_1 : Int) := of_decide_eq_true (by first | (with_reducible assumption) | assumption)
            have q5 : x8_1 < (a0.size : Int) := of_decide_eq_true (by first | (with_reducible assumption) | assumption)
            have hx5 := bt_at a0 x8_1
            replace p5 := eq_true p5
            replace q5 := eq_true q5
            go_wp2
            go_loopg [3, 17] k1 (fun kq v3 v17 w' => ∃ (x3_2 : Int) (x17_2 : Int), v3 = .int .u32 x3_2 ∧ v17 = .int .i64 x17_2 ∧ Aside0 (layoutbin_Sum.l1 kq a0 x3_2 (a0.size : Int) x8_1 x17_2 = some r) ∧ Aside0 (kq ≤ k1) ∧ Drawn0 w w')
            case atStart => exact ⟨(Go.bits .xor .u32 x3_1 ((bt a0 x8_1) % 4294967296)), (0), (by first | rfl | (simp; done) | (simp [*]; done)), (by first | rfl | (simp; done) | (simp [*]; done)), H', ⟨Nat.le_refl _⟩, by repeat (first | exact Drawn0.refl _ | apply Drawn0.step)⟩
            case round =>
              clear H'
              try clear c1
              try clear c2
              try clear c2b0
              try clear p2
              try clear c3
              try clear c3b0
              try clear c4
              try clear c4b0
              try clear p5
              try clear q5
              try clear hx5
              try clear p5
              try clear q5
              obtain ⟨x3_2, x17_2, rfl, rfl, HA, HK2, ⟨m2, rfl⟩⟩ := hrel
              cases gk with
              | zero => exact absurd HA.out (by simp [layoutbin_Sum.l1])
              | succ k2 =>
                have H := HA.out
                clear HA
                simp only [layoutbin_Sum.l1] at H
                by_cases c6 : x17_2 < 8
                · rw [if_pos c6] at H
                  have c6b0 : decide (x17_2 < 8) = true := decide_eq_true c6
                  clear c6
                  have H' := Aside0.mk H
                  clear H
                  go_wp2
                  go_roundg k2
                  case measure => have := HK1.out; have := HK2.out; omega
                  case rel => exact ⟨(Go.bits .xor .u32 (x3_2 / 2) ((3988292384 * (Go.bits .and .u32 x3_2 1)) % 4294967296)), (wrap64 (x17_2 + 1)), (by first | rfl | (simp; done) | (simp [*]; done)), (by first | rfl | (simp; done) | (simp [*]; done)), H', ⟨by have := HK1.out; have := HK2.out; omega⟩, by repeat (first | exact Drawn0.refl _ | apply Drawn0.step)⟩
                · rw [if_neg c6] at H
                  have c6b0 : decide (x17_2 < 8) = false := decide_eq_false c6
                  clear c6
                  have H' := Aside0.mk H
                  clear H
                  go_wp2
                  go_roundg k2
                  case measure => have := HK1.out; have := HK2.out; omega
                  case rel => exact ⟨(x3_2), (wrap64 (x8_1 + 1)), (by first | rfl | (simp; done) | (simp [*]; done)), (by first | rfl | (simp; done) | (simp [*]; done)), H', ⟨by have := HK1.out; have := HK2.out; omega⟩, by repeat (first | exact Drawn0.refl _ | apply Drawn0.step)⟩
          · rw [if_neg c4] at H
            exact absurd H (by simp)
        · rw [if_neg c3] at H
          exact absurd H (by simp)
      · rw [if_neg c2] at H
        have c2b0 : decide (x8_1 < (a0.size : Int)) = false := decide_eq_false c2
        clear c2
        obtain rfl := Option.some.inj H
        go_wp2
        go_ret
        exact ⟨by first | rfl | (simp; done) | (simp [*]; done), by repeat (first | exact Drawn0.refl _ | apply Drawn0.step)⟩

/-! ### railplanlaw5_awake: function 12 -/
def railplanlaw5_awake.f (k : Nat)  : Option (Bool) := (layoutbin_Sum.f k (⟨#[97]⟩ : ByteArray)).bind fun t101 => (some (t101 == 3904355907))
theorem railplanlaw5_awake.mono : ∀ k, LeO (railplanlaw5_awake.f k ) (railplanlaw5_awake.f (k + 1) ) := by
  intro  k
  unfold railplanlaw5_awake.f
  repeat' first
      | (with_reducible exact layoutbin_Sum.mono _ _)
      | (with_reducible exact LeO.refl _)
      | (with_reducible exact LeO.none _)
      | (with_reducible refine LeO.ite ?_ ?_)
      | (with_reducible refine LeO.bind ?_ (fun _ => ?_))
      | exact layoutbin_Sum.mono _ _
      | exact LeO.none _
      | refine LeO.ite ?_ ?_
      | refine LeO.bind ?_ (fun _ => ?_)
set_option maxHeartbeats 8000000 in
set_option maxRecDepth 100000 in
theorem railplanlaw5_awake.calls (k : Nat)  (r : Bool) (w : World) (h : railplanlaw5_awake.f k  = some r) :
    Calls Try.prog 12 #[] w fun e w' => e = .returned (.bool r) ∧ Drawn0 w w' := by
  have H : ((layoutbin_Sum.f k (⟨#[97]⟩ : ByteArray)).bind fun t101 => (some (t101 == 3904355907))) = some r := h
  clear h
  replace H := Option.bind_eq_some_iff.mp H
  obtain ⟨t101, A10, H⟩ := H
  replace H : (some (t101 == 3904355907)) = some r := H
  have A1 := Aside0.mk A10
  clear A10
  obtain rfl := Option.some.inj H
  go_enter Try.func12, Try.ntmps12
  go_wp2_with (first | ((with_reducible refine gate_callee (f := 13) rfl ?_); refine goesL_ (some 1) rfl rfl Try.func13 (by kernel_rfl) rfl #[.string (⟨#[97]⟩ : ByteArray)] rfl (by (try simp only [List.map_toArray, List.map_cons, List.map_nil]); first | done | rfl | (simp only [List.length_drop, List.length_take]; rfl)) ?_; (with_reducible refine (layoutbin_Sum.calls k (⟨#[97]⟩ : ByteArray) t101 _ A1.out).mono ?_); rintro e w' ⟨rfl, ⟨nd, rfl⟩⟩; refine ⟨_, rfl, ?_⟩))
  go_ret
  exact ⟨by first | rfl | (simp; done) | (simp [*]; done), by repeat (first | exact Drawn0.refl _ | apply Drawn0.step)⟩

/-! ### railplanref1_Crc: function 14 -/
mutual
def railplanref1_Crc.l0 : Nat → ByteArray → Int → Int → Option (Int)
  | 0, _, _, _ => none
  | k + 1, x0, x3, x4 => if x4 < (x0.size : Int) then (if 0 ≤ x4 then (railplanref1_Crc.l1 k x0 (Go.bits .xor .u32 x3 ((bt x0 x4) % 4294967296)) x4 0) else (none)) else (some (Go.bits .xor .u32 4294967295 x3))
def railplanref1_Crc.l1 : Nat → ByteArray → Int → Int → Int → Option (Int)
  | 0, _, _, _, _ => none
  | k + 1, x0, x3, x4, x5 => if x5 < 8 then (if (Go.bits .and .u32 x3 1) = 1 then (railplanref1_Crc.l1 k x0 (Go.bits .xor .u32 (x3 / 2) 3988292384) x4 (wrap64 (x5 + 1))) else (railplanref1_Crc.l1 k x0 (x3 / 2) x4 (wrap64 (x5 + 1)))) else (railplanref1_Crc.l0 k x0 x3 (wrap64 (x4 + 1)))
end
def railplanref1_Crc.f (k : Nat) (a0 : ByteArray) : Option (Int) := railplanref1_Crc.l0 k a0 4294967295 0
theorem railplanref1_Crc.mono_l : ∀ k, (∀ y0 y1 y2, LeO (railplanref1_Crc.l0 k y0 y1 y2) (railplanref1_Crc.l0 (k + 1) y0 y1 y2)) ∧ (∀ y0 y1 y2 y3, LeO (railplanref1_Crc.l1 k y0 y1 y2 y3) (railplanref1_Crc.l1 (k + 1) y0 y1 y2 y3))
  | 0 => ⟨fun _ _ _ r h => by simp [railplanref1_Crc.l0] at h, fun _ _ _ _ r h => by simp [railplanref1_Crc.l1] at h⟩
  | k + 1 => by
    obtain ⟨ih0, ih1⟩ := railplanref1_Crc.mono_l k
    refine ⟨?_, ?_⟩
    · intro y0 y1 y2
      unfold railplanref1_Crc.l0
      repeat' first
      | (with_reducible exact ih0 _ _ _)
      | (with_reducible exact ih1 _ _ _ _)
      | (with_reducible exact LeO.refl _)
      | (with_reducible exact LeO.none _)
      | (with_reducible refine LeO.ite ?_ ?_)
      | (with_reducible refine LeO.bind ?_ (fun _ => ?_))
      | exact ih0 _ _ _
      | exact ih1 _ _ _ _
      | exact LeO.none _
      | refine LeO.ite ?_ ?_
      | refine LeO.bind ?_ (fun _ => ?_)
    · intro y0 y1 y2 y3
      unfold railplanref1_Crc.l1
      repeat' first
      | (with_reducible exact ih0 _ _ _)
      | (with_reducible exact ih1 _ _ _ _)
      | (with_reducible exact LeO.refl _)
      | (with_reducible exact LeO.none _)
      | (with_reducible refine LeO.ite ?_ ?_)
      | (with_reducible refine LeO.bind ?_ (fun _ => ?_))
      | exact ih0 _ _ _
      | exact ih1 _ _ _ _
      | exact LeO.none _
      | refine LeO.ite ?_ ?_
      | refine LeO.bind ?_ (fun _ => ?_)
theorem railplanref1_Crc.mono : ∀ a0 k, LeO (railplanref1_Crc.f k a0) (railplanref1_Crc.f (k + 1) a0) := by
  intro a0 k
  obtain ⟨ih0, ih1⟩ := railplanref1_Crc.mono_l k
  unfold railplanref1_Crc.f
  repeat' first
      | (with_reducible exact ih0 _ _ _)
      | (with_reducible exact ih1 _ _ _ _)
      | (with_reducible exact LeO.refl _)
      | (with_reducible exact LeO.none _)
      | (with_reducible refine LeO.ite ?_ ?_)
      | (with_reducible refine LeO.bind ?_ (fun _ => ?_))
      | exact ih0 _ _ _
      | exact ih1 _ _ _ _
      | exact LeO.none _
      | refine LeO.ite ?_ ?_
      | refine LeO.bind ?_ (fun _ => ?_)
set_option maxHeartbeats 8000000 in
set_option maxRecDepth 100000 in
theorem railplanref1_Crc.calls (k : Nat) (a0 : ByteArray) (r : Int) (w : World) (h : railplanref1_Crc.f k a0 = some r) :
    Calls Try.prog 14 #[.string a0] w fun e w' => e = .returned (.int .u32 r) ∧ Drawn0 w w' := by
  have H : (railplanref1_Crc.l0 k a0 4294967295 0) = some r := h
  clear h
  have H' := Aside0.mk H
  clear H
  go_enter Try.func14, Try.ntmps14
  go_wp2
  go_loopg [3, 4] k (fun kq v3 v4 w' => ∃ (x3_1 : Int) (x4_1 : Int), v3 = .int .u32 x3_1 ∧ v4 = .int .i64 x4_1 ∧ Aside0 (railplanref1_Crc.l0 kq a0 x3_1 x4_1 = some r) ∧ Aside0 (kq ≤ k) ∧ Drawn0 w w')
  case atStart => exact ⟨(4294967295), (0), (by first | rfl | (simp; done) | (simp [*]; done)), (by first | rfl | (simp; done) | (simp [*]; done)), H', ⟨Nat.le_refl _⟩, by repeat (first | exact Drawn0.refl _ | apply Drawn0.step)⟩
  case round =>
    clear H'
    try clear c1
    obtain ⟨x3_1, x4_1, rfl, rfl, HA, HK1, ⟨m1, rfl⟩⟩ := hrel
    cases gk with
    | zero => exact absurd HA.out (by simp [railplanref1_Crc.l0])
    | succ k1 =>
      have H := HA.out
      clear HA
      simp only [railplanref1_Crc.l0] at H
      by_cases c2 : x4_1 < (a0.size : Int)
      · rw [if_pos c2] at H
        have c2b0 : decide (x4_1 < (a0.size : Int)) = true := decide_eq_true c2
        clear c2
        by_cases c3 : 0 ≤ x4_1
        · rw [if_pos c3] at H
          have c3b0 : decide (0 ≤ x4_1) = true := decide_eq_true c3
          clear c3
          have H' := Aside0.mk H
          clear H
          have p4 : 0 ≤ (x4_1 : Int) := of_decide_eq_true (by first | (with_reducible assumption) | assumption)
          have q4 : x4_1 < (a0.size : Int) := of_decide_eq_true (by first | (with_reducible assumption) | assumption)
          have hx4 := bt_at a0 x4_1
          replace p4 := eq_true p4
          replace q4 := eq_true q4
          go_wp2
          go_loopg [3, 5] k1 (fun kq v3 v5 w' => ∃ (x3_2 : Int) (x5_2 : Int), v3 = .int .u32 x3_2 ∧ v5 = .int .i64 x5_2 ∧ Aside0 (railplanref1_Crc.l1 kq a0 x3_2 x4_1 x5_2 = some r) ∧ Aside0 (kq ≤ k1) ∧ Drawn0 w w')
          case atStart => exact ⟨(Go.bits .xor .u32 x3_1 ((bt a0 x4_1) % 4294967296)), (0), (by first | rfl | (simp; done) | (simp [*]; done)), (by first | rfl | (simp; done) | (simp [*]; done)), H', ⟨Nat.le_refl _⟩, by repeat (first | exact Drawn0.refl _ | apply Drawn0.step)⟩
          case round =>
            clear H'
            try clear c1
            try clear c2
            try clear c2b0
            try clear p2
            try clear c3
            try clear c3b0
            try clear p4
            try clear q4
            try clear hx4
            try clear p4
            try clear q4
            obtain ⟨x3_2, x5_2, rfl, rfl, HA, HK2, ⟨m2, rfl⟩⟩ := hrel
            cases gk with
            | zero => exact absurd HA.out (by simp [railplanref1_Crc.l1])
            | succ k2 =>
              have H := HA.out
              clear HA
              simp only [railplanref1_Crc.l1] at H
              by_cases c5 : x5_2 < 8
              · rw [if_pos c5] at H
                have c5b0 : decide (x5_2 < 8) = true := decide_eq_true c5
                clear c5
                by_cases c6 : (Go.bits .and .u32 x3_2 1) = 1
                · rw [if_pos c6] at H
                  have c6b0 : ((Go.bits .and .u32 x3_2 1) == 1) = true := beq_iff_eq.mpr c6
                  have c6b1 : ((Go.bits .and .u32 x3_2 1) != 1) = false := bne_eq_false_iff_eq.mpr c6
                  clear c6
                  have H' := Aside0.mk H
                  clear H
                  go_wp2
                  go_roundg k2
                  case measure => have := HK1.out; have := HK2.out; omega
                  case rel => exact ⟨(Go.bits .xor .u32 (x3_2 / 2) 3988292384), (wrap64 (x5_2 + 1)), (by first | rfl | (simp; done) | (simp [*]; done)), (by first | rfl | (simp; done) | (simp [*]; done)), H', ⟨by have := HK1.out; have := HK2.out; omega⟩, by repeat (first | exact Drawn0.refl _ | apply Drawn0.step)⟩
                · rw [if_neg c6] at H
                  have c6b0 : ((Go.bits .and .u32 x3_2 1) == 1) = false := beq_eq_false_iff_ne.mpr c6
                  have c6b1 : ((Go.bits .and .u32 x3_2 1) != 1) = true := bne_iff_ne.mpr c6
                  have H' := Aside0.mk H
                  clear H
                  go_wp2
                  go_roundg k2
                  case measure => have := HK1.out; have := HK2.out; omega
                  case rel => exact ⟨(x3_2 / 2), (wrap64 (x5_2 + 1)), (by first | rfl | (simp; done) | (simp [*]; done)), (by first | rfl | (simp; done) | (simp [*]; done)), H', ⟨by have := HK1.out; have := HK2.out; omega⟩, by repeat (first | exact Drawn0.refl _ | apply Drawn0.step)⟩
              · rw [if_neg c5] at H
                have c5b0 : decide (x5_2 < 8) = false := decide_eq_false c5
                clear c5
                have H' := Aside0.mk H
                clear H
                go_wp2
                go_roundg k2
                case measure => have := HK1.out; have := HK2.out; omega
                case rel => exact ⟨(x3_2), (wrap64 (x4_1 + 1)), (by first | rfl | (simp; done) | (simp [*]; done)), (by first | rfl | (simp; done) | (simp [*]; done)), H', ⟨by have := HK1.out; have := HK2.out; omega⟩, by repeat (first | exact Drawn0.refl _ | apply Drawn0.step)⟩
        · rw [if_neg c3] at H
          exact absurd H (by simp)
      · rw [if_neg c2] at H
        have c2b0 : decide (x4_1 < (a0.size : Int)) = false := decide_eq_false c2
        clear c2
        obtain rfl := Option.some.inj H
        go_wp2
        go_ret
        exact ⟨by first | rfl | (simp; done) | (simp [*]; done), by repeat (first | exact Drawn0.refl _ | apply Drawn0.step)⟩

/-! ### railplanlaw5_LayoutbinSums: function 3 -/
def railplanlaw5_LayoutbinSums.f (k : Nat) (a0 : ByteArray) : Option (Bool) := (railplanlaw5_awake.f k).bind fun t102 => (if t102 = true then ((layoutbin_Sum.f k a0).bind fun t103 => ((railplanref1_Crc.f k a0).bind fun t104 => (some (t103 == t104)))) else (some false))
theorem railplanlaw5_LayoutbinSums.mono : ∀ a0 k, LeO (railplanlaw5_LayoutbinSums.f k a0) (railplanlaw5_LayoutbinSums.f (k + 1) a0) := by
  intro a0 k
  unfold railplanlaw5_LayoutbinSums.f
  repeat' first
      | (with_reducible exact layoutbin_Sum.mono _ _)
      | (with_reducible exact railplanlaw5_awake.mono _)
      | (with_reducible exact railplanref1_Crc.mono _ _)
      | (with_reducible exact LeO.refl _)
      | (with_reducible exact LeO.none _)
      | (with_reducible refine LeO.ite ?_ ?_)
      | (with_reducible refine LeO.bind ?_ (fun _ => ?_))
      | exact layoutbin_Sum.mono _ _
      | exact railplanlaw5_awake.mono _
      | exact railplanref1_Crc.mono _ _
      | exact LeO.none _
      | refine LeO.ite ?_ ?_
      | refine LeO.bind ?_ (fun _ => ?_)
set_option maxHeartbeats 8000000 in
set_option maxRecDepth 100000 in
theorem railplanlaw5_LayoutbinSums.calls (k : Nat) (a0 : ByteArray) (r : Bool) (w : World) (h : railplanlaw5_LayoutbinSums.f k a0 = some r) :
    Calls Try.prog 3 #[.string a0] w fun e w' => e = .returned (.bool r) ∧ Drawn0 w w' := by
  have H : ((railplanlaw5_awake.f k).bind fun t102 => (if t102 = true then ((layoutbin_Sum.f k a0).bind fun t103 => ((railplanref1_Crc.f k a0).bind fun t104 => (some (t103 == t104)))) else (some false))) = some r := h
  clear h
  replace H := Option.bind_eq_some_iff.mp H
  obtain ⟨t102, A20, H⟩ := H
  replace H : (if t102 = true then ((layoutbin_Sum.f k a0).bind fun t103 => ((railplanref1_Crc.f k a0).bind fun t104 => (some (t103 == t104)))) else (some false)) = some r := H
  have A2 := Aside0.mk A20
  clear A20
  by_cases c3 : t102 = true
  · subst c3
    have H1 : ((layoutbin_Sum.f k a0).bind fun t103 => ((railplanref1_Crc.f k a0).bind fun t104 => (some (t103 == t104)))) = some r := by rw [if_pos rfl] at H; exact H
    clear H
    have H := H1
    clear H1
    replace H := Option.bind_eq_some_iff.mp H
    obtain ⟨t103, A40, H⟩ := H
    replace H : ((railplanref1_Crc.f k a0).bind fun t104 => (some (t103 == t104))) = some r := H
    have A4 := Aside0.mk A40
    clear A40
    replace H := Option.bind_eq_some_iff.mp H
    obtain ⟨t104, A50, H⟩ := H
    replace H : (some (t103 == t104)) = some r := H
    have A5 := Aside0.mk A50
    clear A50
    obtain rfl := Option.some.inj H
    go_enter Try.func3, Try.ntmps3
    go_wp2_with (first | ((with_reducible refine gate_callee (f := 12) rfl ?_); refine goesL_ (some 3) rfl rfl Try.func12 (by kernel_rfl) rfl #[] rfl (by (try simp only [List.map_toArray, List.map_cons, List.map_nil]); first | done | rfl | (simp only [List.length_drop, List.length_take]; rfl)) ?_; (with_reducible refine (railplanlaw5_awake.calls k  true _ A2.out).mono ?_); rintro e w' ⟨rfl, ⟨nd, rfl⟩⟩; refine ⟨_, rfl, ?_⟩) | (go_at_call 13; (with_reducible refine (layoutbin_Sum.calls k a0 t103 _ A4.out).mono ?_); rintro e w' ⟨rfl, ⟨nd, rfl⟩⟩) | (go_at_call 14; (with_reducible refine (railplanref1_Crc.calls k a0 t104 _ A5.out).mono ?_); rintro e w' ⟨rfl, ⟨nd, rfl⟩⟩))
    go_ret
    exact ⟨by first | rfl | (simp; done) | (simp [*]; done), by repeat (first | exact Drawn0.refl _ | apply Drawn0.step)⟩
  · replace c3 := Bool.eq_false_iff.mpr c3
    subst c3
    have H1 : (some false) = some r := by rw [if_neg (show ¬ (false = true) by decide)] at H; exact H
    clear H
    have H := H1
    clear H1
    obtain rfl := Option.some.inj H
    go_enter Try.func3, Try.ntmps3
    go_wp2_with (first | ((with_reducible refine gate_callee (f := 12) rfl ?_); refine goesL_ (some 3) rfl rfl Try.func12 (by kernel_rfl) rfl #[] rfl (by (try simp only [List.map_toArray, List.map_cons, List.map_nil]); first | done | rfl | (simp only [List.length_drop, List.length_take]; rfl)) ?_; (with_reducible refine (railplanlaw5_awake.calls k  false _ A2.out).mono ?_); rintro e w' ⟨rfl, ⟨nd, rfl⟩⟩; refine ⟨_, rfl, ?_⟩))
    go_ret
    exact ⟨by first | rfl | (simp; done) | (simp [*]; done), by repeat (first | exact Drawn0.refl _ | apply Drawn0.step)⟩

/-- THE ONE PURE STATEMENT of railplanlaw5_LayoutbinSums: yours. -/
def railplanlaw5_LayoutbinSums.Pure : Prop := ∀ (a0 : ByteArray), a0.size ≤ 140737488351232 → ∃ k, railplanlaw5_LayoutbinSums.f k a0 = some true
theorem railplanlaw5_LayoutbinSums.walk (P : railplanlaw5_LayoutbinSums.Pure) (a0 : ByteArray) (w : World) (w0 : a0.size ≤ 140737488351232) :
    Calls Try.prog 3 #[.string a0] w fun e w' => e = .returned (.bool true) ∧ Below w.heap.size w w' := by
  obtain ⟨k, h⟩ := P a0 w0
  refine (railplanlaw5_LayoutbinSums.calls k a0 true w h).mono ?_
  rintro e w' ⟨rfl, hd⟩
  exact ⟨rfl, hd.below⟩

end Go.Proofs.Ytcggnjaimdjgmaa.PSums
