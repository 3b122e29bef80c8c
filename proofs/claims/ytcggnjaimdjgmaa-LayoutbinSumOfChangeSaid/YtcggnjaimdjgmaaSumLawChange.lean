/- What the printed Sum and Crc answer: the CRC-32 of the string's bytes, with enough rounds. -/
import Derived.Test.YtcggnjaimdjgmaaCrc
import Derived.Test.YtcggnjaimdjgmaaPChangex1
namespace Go.Proofs.Ytcggnjaimdjgmaa.SumLawChange
open Go.RowKit Go.Proofs.Ytcggnjaimdjgmaa.PChange Go.Proofs.Ytcggnjaimdjgmaa.Crc Go.Proofs.YtcggnjaimdjgmaaW.PrintWords Go.Proofs.YtcggnjaimdjgmaaW.PrintLast

theorem wrap_next {i n : Int} (h0 : 0 ≤ i) (h : i < n) (hn : n ≤ 9223372036854775807) : wrap64 (i + 1) = i + 1 := by
  unfold wrap64
  omega
theorem step_sum (c : Nat) (h : c < 4294967296) : Go.bits .xor .u32 ((c : Int) / 2) ((3988292384 * (Go.bits .and .u32 (c : Int) 1)) % 4294967296) = ((bit1 c : Nat) : Int) := by
  rw [bits_and1 c h]
  have e1 : ((c : Int) / 2) = ((c / 2 : Nat) : Int) := by omega
  rw [e1]
  unfold bit1
  split
  · rename_i h1
    rw [h1]
    exact bits_xor (c / 2) 3988292384 (by omega) (by omega)
  · have h0 : c % 2 = 0 := by omega
    rw [h0]
    have := bits_xor (c / 2) 0 (by omega) (by omega)
    simpa using this
theorem l1_sum (s : ByteArray) (n : Int) (i : Int) (k : Nat) : ∀ (d : Nat) (c : Nat) (j : Int), c < 4294967296 → j = 8 - (d : Int) → d ≤ 8 →
    layoutbin_Sum.l1 (k + d + 1) s (c : Int) n i j = layoutbin_Sum.l0 k s ((bitN d c : Nat) : Int) n (wrap64 (i + 1))
  | 0, c, j, _, hj, _ => by
    simp only [layoutbin_Sum.l1]
    rw [if_neg (by omega)]
    rfl
  | d + 1, c, j, hc, hj, hd => by
    have e : k + (d + 1) + 1 = (k + d + 1) + 1 := by omega
    rw [e]
    simp only [layoutbin_Sum.l1]
    rw [if_pos (by omega), step_sum c hc, wrap_next (i := j) (n := 8) (by omega) (by omega) (by omega)]
    exact l1_sum s n i k d (bit1 c) (j + 1) (bit1_lt hc) (by omega) (by omega)
theorem bt_toNat (s : ByteArray) (i : Nat) (h : i < s.size) : bt s (i : Int) = (((s.data.toList[i]'(by simpa using h)).toNat : Nat) : Int) := by
  unfold bt
  simp [h]
  rfl
theorem l0_sum (s : ByteArray) (hs : s.size ≤ 140737488351232) : ∀ (d : Nat) (c : Nat) (i : Nat), c < 4294967296 → i + d = s.size →
    layoutbin_Sum.l0 (10 * d + 1) s (c : Int) (s.size : Int) (i : Int) = some (((4294967295 ^^^ run (s.data.toList.drop i) c : Nat)) : Int)
  | 0, c, i, hc, hi => by
    simp only [layoutbin_Sum.l0]
    rw [if_neg (by omega), List.drop_eq_nil_of_le (by simp; omega)]
    simp only [run]
    rw [← bits_xor 4294967295 c (by omega) hc]
    rfl
  | d + 1, c, i, hc, hi => by
    have e : 10 * (d + 1) + 1 = ((10 * d + 1) + 8 + 1) + 1 := by omega
    rw [e]
    simp only [layoutbin_Sum.l0]
    have hlt : i < s.size := by omega
    rw [if_pos (by omega), if_pos (by omega), if_pos (by omega), bt_toNat s i hlt]
    have hb := (s.data.toList[i]'(by simpa using hlt)).toNat_lt
    rw [show ((((s.data.toList[i]'(by simpa using hlt)).toNat : Nat) : Int) % 4294967296) = (((s.data.toList[i]'(by simpa using hlt)).toNat : Nat) : Int) from by omega]
    rw [bits_xor c _ hc (by omega)]
    rw [l1_sum s _ _ _ 8 _ 0 (Nat.xor_lt_two_pow (n := 32) (by omega) (by omega)) (by omega) (by omega)]
    rw [wrap_next (n := s.size) (by omega) (by omega) (by omega)]
    have := l0_sum s hs d (byte1 c (s.data.toList[i]'(by simpa using hlt)).toNat) (i + 1) (byte1_lt hc hb) (by omega)
    rw [List.drop_eq_getElem_cons (by simpa using hlt)]
    simpa [run, byte1] using this
theorem sum_f (s : ByteArray) (hs : s.size ≤ 140737488351232) : layoutbin_Sum.f (10 * s.size + 1) s = some ((crc s.data.toList : Nat) : Int) := by
  have := l0_sum s hs s.size 4294967295 0 (by omega) (by omega)
  simpa [layoutbin_Sum.f, crc] using this

theorem rounds_up {α : Type} {g : Nat → Option α} (hm : ∀ k, LeO (g k) (g (k + 1))) {k : Nat} {r : α} (h : g k = some r) : ∀ d, g (k + d) = some r
  | 0 => h
  | d + 1 => hm _ _ (rounds_up hm h d)
theorem awake_f : railplanlaw5_awake.f 11 = some true := by
  unfold railplanlaw5_awake.f
  rw [show layoutbin_Sum.f 11 (⟨#[97]⟩ : ByteArray) = _ from sum_f ⟨#[97]⟩ (by decide)]
  decide +kernel
end Go.Proofs.Ytcggnjaimdjgmaa.SumLawChange
