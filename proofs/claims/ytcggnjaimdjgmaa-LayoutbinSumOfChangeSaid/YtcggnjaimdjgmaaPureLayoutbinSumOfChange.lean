/- For every string, place and byte: the string with the byte laid at the place has the same Sum exactly if the byte stood there. No condition beyond the row's own bound on the string's size. -/
import Derived.Test.YtcggnjaimdjgmaaSumLawChange
import Derived.OpenShut
namespace Go.Proofs.Ytcggnjaimdjgmaa.Pure
open Go.RowKit Go.Proofs.Ytcggnjaimdjgmaa.PChange Go.Proofs.Ytcggnjaimdjgmaa.Crc Go.Proofs.Ytcggnjaimdjgmaa.SumLawChange Go.Proofs.YtcggnjaimdjgmaaW.PrintWords Go.Proofs.YtcggnjaimdjgmaaW.PrintLast

theorem pick_f (v n : Int) (h0 : 0 < n) (h : n ≤ 140737488351232) : ∃ t, railplankeep_Pick.f v n = some t ∧ 0 ≤ t ∧ t < n := by
  unfold railplankeep_Pick.f
  have e : IntKind.u64.wrap n = n := by rw [IntKind.wrap_u64]; omega
  rw [e, if_neg (by omega)]
  have hp : 0 ≤ IntKind.u64.wrap v := by rw [IntKind.wrap_u64]; omega
  have hm := Int.emod_nonneg (IntKind.u64.wrap v) (show n ≠ 0 by omega)
  have hl := Int.emod_lt_of_pos (IntKind.u64.wrap v) h0
  rw [Int.tmod_eq_emod_of_nonneg hp]
  refine ⟨_, rfl, ?_⟩
  unfold wrap64
  omega
theorem size_list (b : ByteArray) : b.size = b.data.toList.length := (Array.length_toList (xs := b.data)).symm
theorem cut_list (s : ByteArray) (k : Nat) (h : k < s.size) (c : Int) :
    ((s.extract 0 k ++ strOfNums [c]) ++ s.extract (k + 1) s.size).data.toList = s.data.toList.take k ++ UInt8.ofNat c.toNat :: s.data.toList.drop (k + 1) := by
  have hs := size_list s
  simp only [ByteArray.data_append, Array.toList_append, strOfNums_data, ByteArray.data_extract, Array.toList_extract, List.extract_eq_take_drop, List.drop_zero, Nat.sub_zero, List.map_cons, List.map_nil]
  rw [List.take_of_length_le (l := s.data.toList.drop (k + 1)) (by rw [List.length_drop]; omega)]
  simp
theorem LayoutbinSumOfChange : railplanlaw5_LayoutbinSumOfChange.Pure := by
  intro s v c hs _ hc
  have hc' : 0 ≤ c ∧ c < 256 := by have := bounds_u8 hc; omega
  by_cases he : s.size = 0
  · refine ⟨11, ?_⟩
    unfold railplanlaw5_LayoutbinSumOfChange.f
    rw [if_pos (by omega), awake_f]
    rfl
  · obtain ⟨t, ht, t0, t1⟩ := pick_f v s.size (by omega) (by omega)
    obtain ⟨k, rfl⟩ := Int.eq_ofNat_of_zero_le t0
    have hk : k < s.size := by omega
    have hw : wrap64 ((k : Int) + 1) = ((k + 1 : Nat) : Int) := by unfold wrap64; omega
    have hl := cut_list s k hk c
    have hz : ((s.extract 0 k ++ strOfNums [c]) ++ s.extract (k + 1) s.size).size = s.size := by
      have := congrArg List.length hl
      have hs := size_list s
      rw [size_list, this]
      simp
      omega
    have h1 := rounds_up railplanlaw5_awake.mono awake_f (10 * s.size + 1)
    have h2 := rounds_up (fun k => layoutbin_Sum.mono s k) (sum_f s hs) 11
    have h3 := rounds_up (fun j => layoutbin_Sum.mono ((s.extract 0 k ++ strOfNums [c]) ++ s.extract (k + 1) s.size) j) (sum_f _ (by rw [hz]; exact hs)) 11
    rw [hz, Nat.add_comm] at h3
    rw [Nat.add_comm] at h2
    refine ⟨11 + (10 * s.size + 1), ?_⟩
    have z1 : (s.extract 0 k).size = k := by simp [ByteArray.size_extract]; omega
    have z2 : (strOfNums [c]).size = 1 := by simp [strOfNums_size]
    unfold railplanlaw5_LayoutbinSumOfChange.f
    rw [if_neg (by omega), ht]
    simp only [Option.bind_some]
    rw [if_pos t0, if_pos (by omega), hw]
    simp only [Int.toNat_natCast]
    rw [if_pos (by rw [z1, z2]; omega), if_pos (by omega), if_pos (by omega), if_pos (by rw [← ByteArray.size_append, hz]; omega), h1]
    simp only [Option.bind_some, if_true]
    rw [h2, h3]
    simp only [Option.bind_some]
    rw [if_pos (by omega), hl]
    congr 1
    have hb : bt s (k : Int) = ((s.data.toList[k]'(by simpa using hk)).toNat : Int) := by simpa using bt_toNat s k hk
    have hsplit : s.data.toList = s.data.toList.take k ++ (s.data.toList[k]'(by simpa using hk)) :: s.data.toList.drop (k + 1) := by
      rw [← List.drop_eq_getElem_cons (by simpa using hk), List.take_append_drop]
    have hcc := crc_change (s.data.toList.take k) (s.data.toList.drop (k + 1)) (s.data.toList[k]'(by simpa using hk)) (UInt8.ofNat c.toNat)
    rw [← hsplit] at hcc
    rw [hb]
    have hu : (UInt8.ofNat c.toNat).toNat = c.toNat := by simp; omega
    have e1 : ((((crc s.data.toList : Nat) : Int)) == ((crc (s.data.toList.take k ++ UInt8.ofNat c.toNat :: s.data.toList.drop (k + 1)) : Nat) : Int)) = decide ((s.data.toList[k]'(by simpa using hk)) = UInt8.ofNat c.toNat) := by
      rw [Bool.eq_iff_iff, beq_iff_eq, decide_eq_true_iff, ← hcc]
      omega
    have e2 : ((((s.data.toList[k]'(by simpa using hk)).toNat : Int)) == c) = decide ((s.data.toList[k]'(by simpa using hk)) = UInt8.ofNat c.toNat) := by
      rw [Bool.eq_iff_iff, beq_iff_eq, decide_eq_true_iff, ← UInt8.toNat_inj, hu]
      omega
    rw [e1, e2]
    simp
end Go.Proofs.Ytcggnjaimdjgmaa.Pure
