/- The contract of simplex.cut: the Go code returns 'cutIter's list, wherever all indices are in range. -/
import Derived.Test.YtbkjplomoegbdaaHCut
namespace Go.Proofs.Ytbkjplomoegbdaa.PB
open Go.RowKit Go.Proofs.Ytbkjplomoegbdaa.UF Go.Proofs.YtbkjplomoegbdaaW.PrintWords Go.Proofs.YtbkjplomoegbdaaW.PrintLast Go.Proofs.YtbkjplomoegbdaaW.PrintMore
set_option linter.unusedVariables false
set_option linter.unusedSimpArgs false

def simplex_cut.f (a0_0 : Int) (l0_1 : List (S97)) (l0_2 : List (S36)) (l1 : List Int) (a2 : Int) : Option (List Bool) :=
  if fitB l0_1.length l0_2 a2 && l1.all (fitB l0_1.length l0_2) && decide (l0_1.length ≤ 1048576) then some (cutIter l0_2 a2 l1 (l0_1.length + 1) ((List.replicate l0_1.length false).set (toOf l0_2 a2) true)) else none

set_option maxHeartbeats 2000000 in
set_option maxRecDepth 100000 in
theorem simplex_cut.calls (a0_0 : Int) (A0_1 : Option Addr) (c0_1 : Nat) (l0_1 : List (S97)) (A0_2 : Option Addr) (c0_2 : Nat) (l0_2 : List (S36)) (A1 : Option Addr) (c1 : Nat) (l1 : List Int) (a2 : Int) (r : List Bool) (w : World) (hr0_1 : Kd.C k97 w A0_1 l0_1.length l0_1) (hc0_1 : l0_1.length ≤ c0_1) (hr0_2 : Kd.C k36 w A0_2 l0_2.length l0_2) (hc0_2 : l0_2.length ≤ c0_2) (hr1 : Kd.C (Kd.int .i64) w A1 l1.length l1) (hc1 : l1.length ≤ c1) (h : simplex_cut.f a0_0 l0_1 l0_2 l1 a2 = some r) :
    Calls Try.prog 90 #[.agg #[.int .i64 a0_0, .slice A0_1 l0_1.length c0_1, .slice A0_2 l0_2.length c0_2], .slice A1 l1.length c1, .int .i64 a2] w fun e w' => ∃ v0_ : Value, e = .returned (v0_) ∧ Kd.R Kd.bool 4 w' w.heap.size (fun _ => True) v0_ r ∧ Below w.heap.size w w' := by
  have hu26 := Try.underlying26
  have hu36 := Try.underlying36
  have HR02 := Aside0.mk hr0_2
  have HR1 := Aside0.mk hr1
  have m2 := Kd.C_max hr0_2
  have m3 := Kd.C_max hr1
  clear hr0_1 hr0_2 hc0_1 hc0_2 hr1 hc1
  unfold simplex_cut.f at h
  split at h
  case isFalse => cases h
  case isTrue hfit =>
  obtain rfl := Option.some.inj h
  clear h
  simp only [Bool.and_eq_true, List.all_eq_true, decide_eq_true_eq] at hfit
  obtain ⟨⟨hfa, hft⟩, hsz⟩ := hfit
  obtain ⟨fa1, fa2, fa3, fa4, fa5, fa6⟩ := fitB_iff hfa
  have HFT := Aside0.mk hft
  clear hft hfa
  generalize hn : l0_1.length = n at *
  have hn0 : 0 < n := by omega
  obtain ⟨ad, e, g0, g1, g2, g3, g4, g5⟩ := at_T36 HR02.out a2 fa1 (by omega)
  cases e
  have hb2 : (rd_T36 l0_2 a2).f2 = (toOf l0_2 a2 : Int) := fa5
  rw [hb2] at g2
  clear g0 g1 g3 g4 g5 hb2 fa3 fa5 hn
  have HG2 := Aside0.mk g2
  clear g2
  go_enter Try.func90, Try.ntmps90
  go_wp2_with ((with_reducible refine gate_dst (N := 15) rfl ?_); refine Kd.R_make Kd.bool _ 4 rfl (N := 15) rfl 31 _ _ rfl (n : Int) rfl rfl Try.underlying31 (.bool false) 1 info4 rfl (by decide) (by omega) false (ok := fun _ => True) (okp := fun _ => True) rfl (fun _ hk => hk) trivial (by omega) (by omega) (Below.refl _ _) (Nat.le_refl _) ?_; intro v W ho hb hg hnew; clear hg hnew; rw [Int.toNat_natCast] at ho; obtain ⟨gv, cap, ev, HC⟩ := CI.start hn0 ho hb; subst ev; clear ho hb; have q2 := (blk_cell HC.nb 2).trans rfl; have q3 := (HC.bel.cell (World.block_lt_of_cell? w _ HG2.out)).trans HG2.out; obtain ⟨q4, q5⟩ := HC.cell (i := toOf l0_2 a2) fa6; have HC0 := Aside0.mk (HC.put (i := toOf l0_2 a2) fa6 true); clear HC)
  clear q2 q3 q4 q5
  generalize W.setCell ⟨gv, toOf l0_2 a2, none⟩ (.bool true) = W1 at HC0 ⊢
  generalize hR : cutIter l0_2 a2 l1 (n + 1) ((List.replicate n false).set (toOf l0_2 a2) true) = R
  have HRR := Aside0.mk hR
  clear hR HG2
  go_loopg [8] (n + 1) (fun kq v8 W => ∃ (m : List Bool) (gr : Bool), v8 = .bool gr ∧ Aside0 (CI w #[.int .i64 a0_0, .slice A0_1 n c0_1, .slice (some ad) l0_2.length c0_2] gv cap w.heap.size n W m) ∧ Aside0 (gr = true → cutIter l0_2 a2 l1 kq m = R ∧ falses m < kq) ∧ Aside0 (gr = false → m = R))
  case atStart => exact ⟨_, true, rfl, HC0, ⟨fun _ => ⟨HRR.out, Nat.lt_succ_of_le (by have := List.countP_le_length (p := fun b => !b) (l := (List.replicate n false).set (toOf l0_2 a2) true); simpa [falses] using this)⟩⟩, ⟨fun h => by cases h⟩⟩
  case round =>
    obtain ⟨m, gr, rfl, HC, HT, HF⟩ := hrel
    clear HC0
    cases gr with
    | false =>
      have HM := Aside0.mk (HF.out rfl)
      clear HF HT
      go_wp2
      go_ret
      exact ⟨_, rfl, by rw [HRR.out, ← HM.out]; exact Kd.R_mono HC.out.row (fun _ _ => trivial), HC.out.bel⟩
    | true =>
      obtain ⟨ht1, ht2⟩ := HT.out rfl
      obtain ⟨k1, rfl⟩ : ∃ k1, gk = k1 + 1 := ⟨gk - 1, by omega⟩
      have HT1 := Aside0.mk ht1
      have HT2 := Aside0.mk ht2
      clear HT HF ht1 ht2
      go_wp2_with fail
      go_loopw [8, 27] (fun v8 v27 W => ∃ (i : Nat) (m' : List Bool) (gr : Bool), i ≤ l1.length ∧ v27 = .int .i64 i ∧ v8 = .bool gr ∧ Aside0 (CI w #[.int .i64 a0_0, .slice A0_1 n c0_1, .slice (some ad) l0_2.length c0_2] gv cap w.heap.size n W m') ∧ Aside0 (cutPass l0_2 a2 (l1.drop i) m' gr = cutPass l0_2 a2 l1 m false)) (fun _ v27 _ => l1.length - (intOf v27).toNat)
      case atStart => exact ⟨0, m, false, Nat.zero_le _, rfl, rfl, HC, ⟨rfl⟩⟩
      case round =>
        obtain ⟨i, m', gr, hi, rfl, rfl, HC', HE⟩ := hrel
        have hcl := HC.out.len
        have HCL := Aside0.mk hcl
        clear HC hcl
        by_cases hlt : i < l1.length
        · have hdrop : l1.drop i = rd l1 i :: l1.drop (i + 1) := by
            rw [List.drop_eq_getElem_cons hlt]; simp [rd, List.getD_eq_getElem?_getD, hlt]
          have hmem : rd l1 i ∈ l1 := by simpa [rd] using getD_mem (z := (0 : Int)) hlt
          obtain ⟨f1, f2, f3, f4, f5, f6⟩ := fitB_iff (HFT.out _ hmem)
          obtain ⟨ad1, e1, hx1⟩ := Kd.at_int (Kd.C_below HR1.out HC'.out.bel) (i : Int) (by omega) (by omega)
          cases e1
          rw [Int.toNat_natCast] at hx1
          have HD := Aside0.mk hdrop
          clear hdrop hmem
          generalize hx : rd l1 i = x at hx1 HD f1 f2 f3 f4 f5 f6
          clear hx
          obtain ⟨ad2, e2, g0, g1, g2, g3, g4, g5⟩ := at_T36 (Kd.C_below HR02.out HC'.out.bel) x f1 (by omega)
          obtain rfl : ad = ad2 := by injection e2
          clear e2
          have q2 : wr.cell? ⟨w.heap.size, 2, none⟩ = some (.slice (some ad) l0_2.length c0_2) := (blk_cell HC'.out.nb 2).trans rfl
          rw [show (rd_T36 l0_2 x).f1 = (fromOf l0_2 x : Int) from f3] at g1
          rw [show (rd_T36 l0_2 x).f2 = (toOf l0_2 x : Int) from f5] at g2
          clear f3 f5
          have hps : cutPass l0_2 a2 (x :: l1.drop (i + 1)) m' gr = if x ≠ a2 ∧ m'.getD (fromOf l0_2 x) false ≠ m'.getD (toOf l0_2 x) false then cutPass l0_2 a2 (l1.drop (i + 1)) ((m'.set (fromOf l0_2 x) true).set (toOf l0_2 x) true) true else cutPass l0_2 a2 (l1.drop (i + 1)) m' gr := by
            simp only [cutPass]
          have HPS := Aside0.mk hps
          clear hps
          generalize fromOf l0_2 x = na at g1 f4 HPS
          generalize toOf l0_2 x = nb at g2 f6 HPS
          obtain ⟨qa, qa'⟩ := HC'.out.cell f4
          obtain ⟨qb, qb'⟩ := HC'.out.cell f6
          by_cases hk : x = a2
          · subst hk
            go_wp2_with fail
            go_quiet (fail)
            go_wp2
            go_roundw
            case rel => exact ⟨i + 1, m', gr, by omega, by go_num, rfl, ⟨by repeat (first | exact HC'.out | apply CI.drewN | apply CI.alloc)⟩, ⟨by rw [← HE.out, HD.out, HPS.out, if_neg (fun h => h.1 rfl)]⟩⟩
            case measure => simp [intOf]; omega
          · have hk1 : (x == a2) = false := beq_eq_false_iff_ne.2 hk
            have hk2 : (x != a2) = true := bne_iff_ne.2 hk
            generalize hma : m'.getD na false = ba at qa HPS
            generalize hmb : m'.getD nb false = bb at qb HPS
            have hnn : ¬ ba = bb → na ≠ nb := fun h e => h (by rw [← hma, ← hmb, e])
            have HNN := Aside0.mk hnn
            clear hma hmb hnn
            have hqa : ∀ o, (wr.alloc o).cell? ⟨gv, na, none⟩ = some (.bool ba) := fun o => (World.cell?_alloc_lt _ _ _ (World.block_lt_of_cell? _ _ qa)).trans qa
            have hqb : ∀ o, (wr.alloc o).cell? ⟨gv, nb, none⟩ = some (.bool bb) := fun o => (World.cell?_alloc_lt _ _ _ (World.block_lt_of_cell? _ _ qb)).trans qb
            by_cases hd : ba = bb
            · subst hd
              go_wp2_with fail
              go_quiet (fail)
              go_wp2
              go_roundw
              case rel => exact ⟨i + 1, m', gr, by omega, by go_num, rfl, ⟨by repeat (first | exact HC'.out | apply CI.drewN | apply CI.alloc)⟩, ⟨by rw [← HE.out, HD.out, HPS.out, if_neg (fun h => h.2 rfl)]⟩⟩
              case measure => simp [intOf]; omega
            · have hd1 : (ba == bb) = false := beq_eq_false_iff_ne.2 hd
              have hd2 : (ba != bb) = true := bne_iff_ne.2 hd
              have HDD := Aside0.mk hd
              clear hd
              go_wp2_with fail
              go_quiet (fail)
              go_wp2
              have hfa : ∀ o, (wr.alloc o).frozen? ⟨gv, na, none⟩ = false := fun o => (World.frozen?_alloc_past _ _ _ (World.block_lt_of_cell? _ _ qa)).trans qa'
              have hfb : ∀ o, (wr.alloc o).frozen? ⟨gv, nb, none⟩ = false := fun o => (World.frozen?_alloc_past _ _ _ (World.block_lt_of_cell? _ _ qb)).trans qb'
              have hne := HNN.out HDD.out
              have hgl : gv < wr.heap.size := World.block_lt_of_cell? _ _ qa
              have hs1 : ∀ W' : World, (W'.setCell ⟨gv, na, none⟩ (.bool true)).cell? ⟨gv, nb, none⟩ = W'.cell? ⟨gv, nb, none⟩ := fun W' => World.cell?_setCell_other _ _ _ _ (by intro e; injection e with _ e; exact hne e)
              have hs2 : ∀ W' : World, (W'.setCell ⟨gv, nb, none⟩ (.bool true)).cell? ⟨gv, na, none⟩ = W'.cell? ⟨gv, na, none⟩ := fun W' => World.cell?_setCell_other _ _ _ _ (by intro e; injection e with _ e; exact hne e.symm)
              have hs3 : ∀ (W' : World) (j i : Nat), (W'.setCell ⟨gv, j, none⟩ (.bool true)).cell? ⟨wr.heap.size, i, none⟩ = W'.cell? ⟨wr.heap.size, i, none⟩ := fun W' j i => World.cell?_setCell_other _ _ _ _ (by intro e; injection e with e; omega)
              clear hgl
              clear hne
              go_region
              all_goals
                clear hs1 hs2 hs3
                go_wp2
                go_roundw
                case rel =>
                  refine ⟨i + 1, (m'.set na true).set nb true, true, by omega, by go_num, rfl, ⟨?_⟩, ⟨by rw [← HE.out, HD.out, HPS.out, if_pos ⟨hk, HDD.out⟩]⟩⟩
                  first
                    | exact CI.put (CI.put ((HC'.out.alloc _).drewN _) f4 true) f6 true
                    | (rw [List.set_comm _ _ (HNN.out HDD.out)]; exact CI.put (CI.put ((HC'.out.alloc _).drewN _) f6 true) f4 true)
                case measure => simp [intOf]; omega
        · have hend : l1.drop i = [] := List.drop_eq_nil_of_le (by omega)
          have hp : cutPass l0_2 a2 l1 m false = (m', gr) := by rw [← HE.out, hend]; rfl
          have hfc := cutPass_facts n l0_2 a2 l1 m false HCL.out HFT.out
          have hit : (if gr then cutIter l0_2 a2 l1 k1 m' else m') = R := by
            have := HT1.out
            simp only [cutIter] at this
            rw [hp] at this
            exact this
          have HIT := Aside0.mk hit
          have HFC := Aside0.mk hfc
          have HP := Aside0.mk hp
          clear hend hp hfc hit
          go_wp2
          go_roundg k1
          case rel => exact ⟨m', gr, rfl, HC', ⟨fun h => by
            have h1 := HIT.out
            rw [h] at h1
            have h2 := HFC.out.2.2
            rw [HP.out] at h2
            have h3 := HT2.out
            refine ⟨by simpa using h1, ?_⟩
            rcases h2 h with h4 | h4
            · cases h4
            · simp only at h4; omega⟩, ⟨fun h => by
            have h1 := HIT.out
            rw [h] at h1
            simpa using h1⟩⟩
          case measure => omega
end Go.Proofs.Ytbkjplomoegbdaa.PB
