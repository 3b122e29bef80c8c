/- For every string, Sum and the reference's Crc answer the same. No condition beyond the row's own bound on the string's size. -/
import Derived.Test.YtcggnjaimdjgmaaSumLaw
namespace Go.Proofs.Ytcggnjaimdjgmaa.Pure
open Go.RowKit Go.Proofs.Ytcggnjaimdjgmaa.PSums Go.Proofs.Ytcggnjaimdjgmaa.Crc Go.Proofs.Ytcggnjaimdjgmaa.SumLaw Go.Proofs.YtcggnjaimdjgmaaW.PrintWords Go.Proofs.YtcggnjaimdjgmaaW.PrintLast

theorem LayoutbinSums : railplanlaw5_LayoutbinSums.Pure := by
  intro s hs
  have h1 := rounds_up railplanlaw5_awake.mono awake_f (10 * s.size + 1)
  have h2 := rounds_up (fun k => layoutbin_Sum.mono s k) (sum_f s hs) 11
  have h3 := rounds_up (fun k => railplanref1_Crc.mono s k) (crc_f s hs) 11
  refine ⟨11 + (10 * s.size + 1), ?_⟩
  rw [Nat.add_comm] at h2 h3
  unfold railplanlaw5_LayoutbinSums.f
  rw [h1, h2, h3]
  simp
end Go.Proofs.Ytcggnjaimdjgmaa.Pure
