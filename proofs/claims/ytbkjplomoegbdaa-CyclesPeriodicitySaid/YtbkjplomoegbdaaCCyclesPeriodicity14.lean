/- Parts of the proof of CyclesPeriodicity, gathered by a program of this claim out of texts that it or the kit's print wrote: lemmas alone, no condition of their own. -/
import Derived.Test.YtbkjplomoegbdaaCCyclesPeriodicity13
import Derived.Test.YtbkjplomoegbdaaCCyclesPeriodicity2
import Derived.Test.YtbkjplomoegbdaaCCyclesPeriodicity1
import Derived.RegionTactic
import Derived.ChangeAlike
namespace Go.Proofs.Ytbkjplomoegbdaa.PB
open Go.RowKit Go.Proofs.Ytbkjplomoegbdaa.UF Go.Proofs.Ytbkjplomoegbdaa.RefTree Go.Proofs.YtbkjplomoegbdaaW.PrintWords Go.Proofs.YtbkjplomoegbdaaW.PrintLast Go.Proofs.YtbkjplomoegbdaaW.PrintMore
set_option linter.unusedVariables false
set_option linter.unusedSimpArgs false
theorem in_c (a b c : Int) (W : World) : Calls Try.prog 110 #[.int .i64 a, .int .i64 b, .int .i64 c] W fun e w' => e = .returned (.bool (decide (b ≤ a) && decide (a ≤ c))) ∧ ∃ m, w' = W.drewN m :=
  (railplanref11_in.calls a b c _ W (in_b a b c)).mono fun _ _ ⟨h1, h2⟩ => ⟨h1, h2.out⟩
def SameP (n : Nat) (g : List Int) (L : List Nat) : Prop := g.length = n ∧ L.length = n ∧ ∀ i j, i < n → j < n → (g.getD i 0 = g.getD j 0 ↔ L.getD i 0 = L.getD j 0)
theorem SameP.start (n : Nat) (g : List Int) (hl : g.length = n) (h : ∀ j, j < n → g.getD j 0 = (j : Int)) : SameP n g (List.range n) := by
  refine ⟨hl, by simp, fun i j hi hj => ?_⟩
  rw [h i hi, h j hj]
  simp [List.getD_eq_getElem?_getD, hi, hj]
  omega
theorem SameP.merge {n : Nat} {g : List Int} {L : List Nat} (h : SameP n g L) {a b : Nat} (ha : a < n) (hb : b < n) : SameP n (mergeL g a b) (uni L a b) := by
  obtain ⟨h1, h2, h3⟩ := h
  refine ⟨by simp [mergeL, h1], by simp [uni, h2], fun i j hi hj => ?_⟩
  unfold mergeL uni
  rw [Graph.getD_map _ g i 0 0 (by omega), Graph.getD_map _ g j 0 0 (by omega), Graph.getD_map _ L i 0 0 (by omega), Graph.getD_map _ L j 0 0 (by omega), RefTree.arith, Graph.join_arith, h3 i j hi hj, h3 i a hi ha, h3 b j hb hj, h3 i b hi hb, h3 a j ha hj]
structure RFI (w0 : World) (cs : Array Value) (v : Value) (bn n : Nat) (W : World) (g : List Int) : Prop where
  nb : W.heap[bn]? = some (.cells cs 26 (0, 0))
  row : Kd.R (Kd.int .i64) 3 W w0.heap.size (fun k => k ≠ bn) v g
  bel : Below w0.heap.size w0 W
  len : g.length = n
namespace RFI
variable {w0 : World} {cs : Array Value} {v : Value} {bn n : Nat} {W : World} {g : List Int}
theorem drewN (h : RFI w0 cs v bn n W g) (m : Nat) : RFI w0 cs v bn n (W.drewN m) g := ⟨h.nb, Kd.R_drewN h.row m, pw_below_drewN h.bel m, h.len⟩
theorem drew (h : RFI w0 cs v bn n W g) : RFI w0 cs v bn n W.drew g := h.drewN 1
theorem own_ne (h : RFI w0 cs v bn n W g) : some bn ≠ v.ownBlock := fun e => h.row.1 bn e.symm rfl
theorem kept {W' : World} {g' : List Int} (h : RFI w0 cs v bn n W g) (hk : Kept W W' (fun k => some k = v.ownBlock)) (hr : Kd.R (Kd.int .i64) 3 W' w0.heap.size (fun k => k ≠ bn) v g') (hb : Below w0.heap.size w0 W') (hl : g'.length = g.length) : RFI w0 cs v bn n W' g' :=
  ⟨blk_kept h.nb hk h.own_ne, hr, hb, hl.trans h.len⟩
theorem form (h : RFI w0 cs v bn n W g) (hn : 0 < n) : ∃ gv cap, v = .slice (some ⟨gv, 0, none⟩) n cap := by
  obtain ⟨gv, cap, e, _⟩ := Kd.R_form h.row (by rw [h.len]; exact hn)
  exact ⟨gv, cap, by rw [e, h.len]⟩
theorem cell {gv cap : Nat} (h : RFI w0 cs (.slice (some ⟨gv, 0, none⟩) n cap) bn n W g) {i : Nat} (hi : i < n) : W.cell? ⟨gv, i, none⟩ = some (.int .i64 (g.getD i 0)) ∧ W.frozen? ⟨gv, i, none⟩ = false := by
  have := Kd.R_celln (0 : Int) h.row (i : Int) (by omega) (by omega)
  rw [Int.toNat_natCast] at this
  simpa [rdOf] using this
theorem put {gv cap : Nat} (h : RFI w0 cs (.slice (some ⟨gv, 0, none⟩) n cap) bn n W g) {i : Nat} (hi : i < n) (x : Int) : RFI w0 cs (.slice (some ⟨gv, 0, none⟩) n cap) bn n (W.setCell ⟨gv, i, none⟩ (.int .i64 x)) (g.set i x) := by
  have hr := Kd.R_putg h.row (i : Int) x
  rw [Int.toNat_natCast] at hr
  have hg : gv ≠ bn := h.row.1 gv rfl
  have hge : w0.heap.size ≤ gv := Kd.R_base h.row gv rfl
  exact ⟨blk_far h.nb (fun e => hg e.symm) _, hr.1, below_set h.bel hge, by simp [h.len]⟩
theorem start {w w1 W : World} {n : Nat} {cs : Array Value} {v : Value} (hnb : w1.heap[w.heap.size]? = some (.cells cs 26 (0, 0))) (hB : Below w.heap.size w w1) (ho : Kd.R (Kd.int .i64) 3 W w1.heap.size (fun _ => True) v (List.replicate n 0)) (hb : Below w1.heap.size w1 W) : RFI w cs v w.heap.size n W (List.replicate n 0) :=
  ⟨blk_below hnb hb, Kd.R_mono (Kd.R_lower (Kd.R_bound ho) (Nat.le_of_lt (blk_lt hnb))) (fun k hk => by have := blk_lt hnb; have := hk.2.1; omega), below_step hB hb, by simp⟩
theorem merge (h : RFI w0 cs v bn n W g) (x : S36) (a b : Nat) (hx1 : x.f1 = (a : Int)) (hx2 : x.f2 = (b : Int)) (ha : a < n) (hb : b < n) (hn : n ≤ 48) (S : World → Prop) (hS : ∀ W', Kept W W' (fun k => some k = v.ownBlock) → S W') :
    Calls Try.prog 86 #[v, .agg #[.int .i64 x.f0, .int .i64 x.f1, .int .i64 x.f2, .int .i64 x.f3, .int .i64 x.f4, .int .i64 x.f5]] W fun e w' => ∃ g', e = .returned (.bool (!decide (g.getD a 0 = g.getD b 0))) ∧ S w' ∧ RFI w0 cs v bn n w' g' ∧ g' = if g.getD a 0 = g.getD b 0 then g else mergeL g a b := by
  obtain ⟨m, hm⟩ := (merge_ev g x a b hx1 hx2 (by rw [h.len]; exact ha) (by rw [h.len]; exact hb) (by rw [h.len]; omega)).rounds
  have hm' : railplanref11_merge.f m g x.f0 x.f1 x.f2 x.f3 x.f4 x.f5 = some (!decide (g.getD a 0 = g.getD b 0), if g.getD a 0 = g.getD b 0 then g else mergeL g a b) := by
    rw [hm]
    by_cases c : g.getD a 0 = g.getD b 0
    · rw [if_pos c, if_pos c, decide_eq_true c]; rfl
    · rw [if_neg c, if_neg c, decide_eq_false c]; rfl
  refine (railplanref11_merge.calls m (fun k => some k = v.ownBlock) v g _ _ _ _ _ _ _ _ w0 W h.bel (Kd.R_tight rfl h.row) hm').mono ?_
  rintro e w' ⟨rfl, a1, b1, c1⟩
  exact ⟨_, rfl, hS _ c1, h.kept c1 (Kd.R_reok rfl a1 h.row.1) b1 (by split <;> simp [mergeL]), rfl⟩
end RFI
def rfor12.T : Bool × List (List Nat × List Nat) := (true, [([], []), ([], []), ([0, 1], [0, 1]), ([2], [2]), ([], []), ([4], [4]), ([5], [5]), ([6], [6]), ([3, 7], [3, 7]), ([8], [8]), ([9, 8], [9]), ([10], [10]), ([11, 10], [10, 11]), ([12, 10, 10], [10, 12]), ([13], [13]), ([13], [13]), ([14, 15, 13], [13, 14, 15]), ([16, 13], [13, 16]), ([13], [13]), ([13], [13]), ([19, 13], [13, 19]), ([18, 20, 13], [13, 18, 20]), ([21, 13], [13, 21]), ([17, 22, 13], [13, 17, 22]), ([13, 23, 10], [10, 13, 23]), ([10, 24], [10, 24]), ([25, 13], [25]), ([26], [26]), ([26], [26]), ([28, 26], [26, 28]), ([26], [26]), ([26], [26]), ([30, 31, 26], [26, 30, 31]), ([32, 26], [26, 32]), ([29, 33, 26], [26, 29, 33]), ([34, 26], [26, 34]), ([27, 35, 26, 26], [26, 27, 35]), ([36, 26], [26, 36]), ([26, 37], [26, 37])])
def rfor12.B : List Nat := [0, 0, 3, 7, 0, 16, 48, 112, 255, 511, 1023, 2047, 4095, 8191, 16383, 16383, 65535, 131071, 16383, 16383, 540671, 1851391, 3948543, 8388607, 16777215, 33554431, 67108863, 134217727, 134217727, 402653183, 134217727, 134217727, 3355443199, 7650410495, 17045651455, 34225520639, 68719476735, 137438953471, 274877906943]
theorem rfor12.tab : rtab .any (opsOf Try.f52 12) = rfor12.T := by kernel_rfl
theorem rfor12.bits : waitsOk rfor12.T.2 rfor12.B = true := by kernel_rfl
def railplanref11_Forest.f (a0_0 : Int) (l0_1 : List (S97)) (l0_2 : List (S36)) (l1 : List Int) : Option (Bool) := some (forestB a0_0 l0_1.length l0_2 l1)
set_option maxHeartbeats 2000000 in
set_option maxRecDepth 100000 in
theorem railplanref11_Forest.calls (a0_0 : Int) (A0_1 : Option Addr) (c0_1 : Nat) (l0_1 : List (S97)) (A0_2 : Option Addr) (c0_2 : Nat) (l0_2 : List (S36)) (A1 : Option Addr) (c1 : Nat) (l1 : List Int) (r : Bool) (w : World) (hr0_1 : Kd.C k97 w A0_1 l0_1.length l0_1) (hc0_1 : l0_1.length ≤ c0_1) (hr0_2 : Kd.C k36 w A0_2 l0_2.length l0_2) (hc0_2 : l0_2.length ≤ c0_2) (hr1 : Kd.C (Kd.int .i64) w A1 l1.length l1) (hc1 : l1.length ≤ c1) (h : railplanref11_Forest.f a0_0 l0_1 l0_2 l1 = some r) :
    Calls Try.prog 52 #[.agg #[.int .i64 a0_0, .slice A0_1 l0_1.length c0_1, .slice A0_2 l0_2.length c0_2], .slice A1 l1.length c1] w fun e w' => e = .returned (.bool r) ∧ Below w.heap.size w w' := by
  obtain rfl := Option.some.inj h
  clear h
  have hu26 := Try.underlying26
  have hu36 := Try.underlying36
  have HR01 := Aside0.mk hr0_1
  have HR02 := Aside0.mk hr0_2
  have HR1 := Aside0.mk hr1
  have HC01 := Aside0.mk hc0_1
  have HC02 := Aside0.mk hc0_2
  have m1 := Kd.C_max hr0_1
  have m2 := Kd.C_max hr0_2
  have m3 := Kd.C_max hr1
  clear hr0_1 hr0_2 hc0_1 hc0_2 hr1 hc1
  obtain ⟨kc, hkc⟩ := (check_ev a0_0 l0_1 l0_2).rounds
  have HKC := Aside0.mk hkc
  clear hkc
  cases hok : netOk a0_0 l0_1.length l0_2 with
  | false =>
    have hres : forestB a0_0 l0_1.length l0_2 l1 = false := by simp [forestB, hok]
    have HRES := Aside0.mk hres
    rw [hok] at HKC
    clear hres hok
    go_enter Try.func52, Try.ntmps52
    go_wp2_with (go_at_call 85; refine (railplanref11_Check.calls kc a0_0 A0_1 c0_1 l0_1 A0_2 c0_2 l0_2 false _ ?h1 HC01.out ?h2 HC02.out HKC.out).mono ?_; (case h1 => exact Kd.C_alloc HR01.out _); (case h2 => exact Kd.C_alloc HR02.out _); rintro e w' ⟨rfl, hb⟩)
    go_ret
    rw [HRES.out]
    exact ⟨rfl, below_step (below_alloc (Below.refl _ _) _) hb⟩
  | true =>
    rw [hok] at HKC
    have HOK := Aside0.mk hok
    have hn : l0_1.length ≤ 48 := by simp [netOk] at hok; omega
    have ha : l0_2.length ≤ 512 := by simp [netOk] at hok; omega
    clear hok
    go_enter Try.func52, Try.ntmps52
    go_wp2_with (first | (go_at_call 85; refine (railplanref11_Check.calls kc a0_0 A0_1 c0_1 l0_1 A0_2 c0_2 l0_2 true _ ?h1 HC01.out ?h2 HC02.out HKC.out).mono ?_; (case h1 => exact Kd.C_alloc HR01.out _); (case h2 => exact Kd.C_alloc HR02.out _); rintro e w1 ⟨rfl, hb⟩; have hnb := blk_below (blk_new w (.cells #[.int .i64 a0_0, .slice A0_1 l0_1.length c0_1, .slice A0_2 l0_2.length c0_2] 26)) hb; have q0 := (blk_cell hnb 0).trans rfl; have q1 := (blk_cell hnb 1).trans rfl; have q2 := (blk_cell hnb 2).trans rfl; have HNB := Aside0.mk hnb; have HB1 := Aside0.mk (below_step (below_alloc (Below.refl _ _) _) hb); clear hb hnb) | ((with_reducible refine gate_dst (N := 15) rfl ?_); refine Kd.R_make (Kd.int .i64) w1.heap.size 3 rfl (N := 15) rfl 22 _ _ rfl (l0_1.length : Int) rfl rfl Try.underlying22 (.int .i64 0) 8 info3 rfl (by decide) (by omega) 0 (ok := fun _ => True) (okp := fun _ => True) rfl (fun _ hk => hk) trivial (by omega) (by omega) (Below.refl _ _) (Nat.le_refl _) ?_; intro v W ho hb hg hnew; clear hg hnew; rw [Int.toNat_natCast] at ho; obtain ⟨Av, cv, ev⟩ := Kd.R_slice ho; rw [List.length_replicate] at ev; subst ev; have HF0 := Aside0.mk (RFI.start HNB.out HB1.out ho hb); clear ho hb HB1 HNB q0 q1 q2))
    go_loopw [18] (fun v18 W => ∃ (i : Nat) (g : List Int), i ≤ l0_1.length ∧ v18 = .int .i64 i ∧ Aside0 (RFI w #[.int .i64 a0_0, .slice A0_1 l0_1.length c0_1, .slice A0_2 l0_2.length c0_2] (.slice Av l0_1.length cv) w.heap.size l0_1.length W g) ∧ Aside0 (∀ j, j < i → g.getD j 0 = (j : Int))) (fun v18 _ => l0_1.length - (intOf v18).toNat)
    case atStart => exact ⟨0, _, Nat.zero_le _, rfl, HF0, ⟨fun j hj => absurd hj (Nat.not_lt_zero _)⟩⟩
    case round =>
      obtain ⟨i, g, hi, rfl, HF, HG⟩ := hrel
      clear HF0
      by_cases hlt : i < l0_1.length
      · obtain ⟨gv, cap, ev⟩ := HF.out.form (by omega)
        injection ev with e1 _ e3
        subst e1 e3
        obtain ⟨qa, qa'⟩ := HF.out.cell hlt
        have HF1 := Aside0.mk (HF.out.put hlt (i : Int))
        have HL := Aside0.mk HF.out.len
        clear HF
        go_wp2
        go_roundw
        case rel => exact ⟨i + 1, g.set i i, by omega, by go_num, HF1, ⟨fun j hj => by
          by_cases e : i = j
          · subst e; simp [List.getD_eq_getElem?_getD, show i < g.length by rw [HL.out]; exact hlt]
          · have := HG.out j (by omega)
            rw [← this]
            simp only [List.getD_eq_getElem?_getD, List.getElem?_set_ne e]⟩⟩
        case measure => simp [intOf]; omega
      · have HS := Aside0.mk (SameP.start l0_1.length g HF.out.len (fun j hj => HG.out j (by omega)))
        obtain rfl : i = l0_1.length := by omega
        clear HG hi hlt
        obtain ⟨wo, ewo⟩ : ∃ wo : World, wo = wr := ⟨_, rfl⟩
        subst ewo
        go_wp2
        go_loopw [7] (fun v7 W => ∃ (i : Nat) (last : Int) (g : List Int) (L : List Nat), i ≤ l1.length ∧ v7 = .int .i64 i ∧ -1 ≤ last ∧ (0 < i → last = rd l1 ((i : Int) - 1)) ∧ (i = 0 → last = -1) ∧ Aside0 (RFI w #[.int .i64 a0_0, .slice A0_1 l0_1.length c0_1, .slice A0_2 l0_2.length c0_2] (.slice Av l0_1.length cv) w.heap.size l0_1.length W g) ∧ Aside0 (SameP l0_1.length g L) ∧ Aside0 (forestGo l0_2 l1 (-1) (List.range l0_1.length) = forestGo l0_2 (l1.drop i) last L)) (fun v7 _ => l1.length - (intOf v7).toNat)
        case atStart => exact ⟨0, -1, g, _, Nat.zero_le _, rfl, Int.le_refl _, fun h => absurd h (Nat.lt_irrefl _), fun _ => rfl, HF, HS, ⟨rfl⟩⟩
        case round =>
          clear HF HS
          obtain ⟨i, last, g, L, hi, rfl, hlast, hprev, hprev0, HF, HS, HE⟩ := hrel
          have HPV := Aside0.mk hprev
          have HPV0 := Aside0.mk hprev0
          clear hprev hprev0
          have q2 : wr.cell? ⟨w.heap.size, 2, none⟩ = some (.slice A0_2 l0_2.length c0_2) := (blk_cell HF.out.nb 2).trans rfl
          by_cases hlt : i < l1.length
          · have hdrop : l1.drop i = rd l1 i :: l1.drop (i + 1) := by
              rw [List.drop_eq_getElem_cons hlt]; simp [rd, List.getD_eq_getElem?_getD, hlt]
            obtain ⟨ad1, e1, hx1⟩ := Kd.at_int (Kd.C_below HR1.out HF.out.bel) (i : Int) (by omega) (by omega)
            cases e1
            rw [Int.toNat_natCast] at hx1
            have HD := Aside0.mk hdrop
            clear hdrop
            generalize hx : rd l1 i = x at hx1 HD
            have HX := Aside0.mk hx
            clear hx
            have hw1 : IntKind.i64.wrap ((l0_2.length : Int) - 1) = (l0_2.length : Int) - 1 := IntWalk.i64_in _ (by omega)
            by_cases h1 : 0 ≤ x ∧ x ≤ (l0_2.length : Int) - 1
            · have hb : (decide (0 ≤ x) && decide (x ≤ (l0_2.length : Int) - 1)) = true := by simp; omega
              have HIN : Aside0 (∀ W, Calls Try.prog 110 #[.int .i64 x, .int .i64 0, .int .i64 ((l0_2.length : Int) - 1)] W fun e w' => e = .returned (.bool true) ∧ ∃ m, w' = W.drewN m) := ⟨fun W => hb ▸ in_c _ _ _ W⟩
              clear hb
              by_cases h2 : x ≤ last
              · have hi0 : 0 < i := by
                  rcases Nat.eq_zero_or_pos i with h | h
                  · exact absurd (HPV0.out h) (by omega)
                  · exact h
                obtain ⟨ad2, e2, hx2⟩ := Kd.at_int (Kd.C_below HR1.out HF.out.bel) ((i : Int) - 1) (by omega) (by omega)
                injection e2 with e2
                subst e2
                rw [← HPV.out hi0, show ((i : Int) - 1).toNat = i - 1 by omega] at hx2
                have hres : forestB a0_0 l0_1.length l0_2 l1 = false := by
                  unfold forestB
                  rw [HE.out, HD.out]
                  simp only [forestGo]
                  rw [if_pos (by omega)]
                  simp
                have HRES := Aside0.mk hres
                have hw2 : IntKind.i64.wrap ((i : Int) - 1) = (i : Int) - 1 := IntWalk.i64_in _ (by omega)
                have hd1 : decide ((0 : Int) < (i : Int)) = true := decide_eq_true (by omega)
                have hd2 : decide (x ≤ last) = true := decide_eq_true h2
                have hd3 : (1 : Int) ≤ (i : Int) := by omega
                have hd4 : (i : Int) - 1 < (l1.length : Int) := by omega
                clear hres HPV HPV0
                go_wp2_with fail
                go_quiet ((go_at_call 110; exact Calls.quiet_of (HIN.out _)))
                go_wp2
                go_ret
                rw [HRES.out]
                exact ⟨rfl, pw_below_drewN HF.out.bel _⟩
              · have hmem : l0_2.getD x.toNat z36 ∈ l0_2 := getD_mem (by omega)
                obtain ⟨⟨n1, n2⟩, n3, n4⟩ := netOk_ends HOK.out hmem
                obtain ⟨ad, e, g0, g1, g2, g3, g4, g5⟩ := at_T36 (Kd.C_below HR02.out HF.out.bel) x h1.1 (by omega)
                cases e
                have hadl : ad.block < w.heap.size := Kd.C_lt HR02.out (by omega) (by decide)
                have had1 : ad1.block < w.heap.size := Kd.C_lt HR1.out (by omega) (by decide)
                obtain ⟨ad2, e2, hx2⟩ := Kd.at_int (Kd.C_below HR1.out HF.out.bel) ((i - 1 : Nat) : Int) (by omega) (by omega)
                injection e2 with e2
                subst e2
                rw [Int.toNat_natCast] at hx2
                generalize hpw : rd l1 ((i - 1 : Nat) : Int) = pv at hx2
                have HPW := Aside0.mk hpw
                clear hpw
                have hrd : l0_2.getD x.toNat z36 = rd_T36 l0_2 x := rfl
                rw [hrd] at n1 n2 n3 n4
                have HRD := Aside0.mk hrd
                clear hmem hrd
                generalize rd_T36 l0_2 x = a at *
                generalize hA : a.f1.toNat = na at n2
                generalize hB : a.f2.toNat = nb at n4
                have hob : ∀ k, some k = (Value.slice Av l0_1.length cv).ownBlock → w.heap.size ≤ k := fun k hk => Kd.R_base HF.out.row k hk.symm
                have HOB := Aside0.mk hob
                clear hob
                have HOC := Aside0.mk HF.out.own_ne
                have hme : ∀ W, (W.cell? ⟨w.heap.size, 2, none⟩ = some (.slice (some ad) l0_2.length c0_2) ∧ W.cell? (ad1.add i) = some (.int .i64 x) ∧ W.cell? (ad1.add (i - 1)) = some (.int .i64 pv) ∧ W.cell? (ad.add (x.toNat * 6)) = some (.int .i64 a.f0) ∧ W.cell? ⟨(ad.add (x.toNat * 6)).block, (ad.add (x.toNat * 6)).off + 1, none⟩ = some (.int .i64 a.f1) ∧ W.cell? ⟨(ad.add (x.toNat * 6)).block, (ad.add (x.toNat * 6)).off + 2, none⟩ = some (.int .i64 a.f2) ∧ W.cell? ⟨(ad.add (x.toNat * 6)).block, (ad.add (x.toNat * 6)).off + 3, none⟩ = some (.int .i64 a.f3) ∧ W.cell? ⟨(ad.add (x.toNat * 6)).block, (ad.add (x.toNat * 6)).off + 4, none⟩ = some (.int .i64 a.f4) ∧ W.cell? ⟨(ad.add (x.toNat * 6)).block, (ad.add (x.toNat * 6)).off + 5, none⟩ = some (.int .i64 a.f5)) → RFI w #[.int .i64 a0_0, .slice A0_1 l0_1.length c0_1, .slice (some ad) l0_2.length c0_2] (.slice Av l0_1.length cv) w.heap.size l0_1.length W g →
                    Calls Try.prog 86 #[.slice Av l0_1.length cv, .agg #[.int .i64 a.f0, .int .i64 a.f1, .int .i64 a.f2, .int .i64 a.f3, .int .i64 a.f4, .int .i64 a.f5]] W fun e W => ∃ g', e = .returned (.bool (!decide (g.getD na 0 = g.getD nb 0))) ∧ (W.cell? ⟨w.heap.size, 2, none⟩ = some (.slice (some ad) l0_2.length c0_2) ∧ W.cell? (ad1.add i) = some (.int .i64 x) ∧ W.cell? (ad1.add (i - 1)) = some (.int .i64 pv) ∧ W.cell? (ad.add (x.toNat * 6)) = some (.int .i64 a.f0) ∧ W.cell? ⟨(ad.add (x.toNat * 6)).block, (ad.add (x.toNat * 6)).off + 1, none⟩ = some (.int .i64 a.f1) ∧ W.cell? ⟨(ad.add (x.toNat * 6)).block, (ad.add (x.toNat * 6)).off + 2, none⟩ = some (.int .i64 a.f2) ∧ W.cell? ⟨(ad.add (x.toNat * 6)).block, (ad.add (x.toNat * 6)).off + 3, none⟩ = some (.int .i64 a.f3) ∧ W.cell? ⟨(ad.add (x.toNat * 6)).block, (ad.add (x.toNat * 6)).off + 4, none⟩ = some (.int .i64 a.f4) ∧ W.cell? ⟨(ad.add (x.toNat * 6)).block, (ad.add (x.toNat * 6)).off + 5, none⟩ = some (.int .i64 a.f5)) ∧ RFI w #[.int .i64 a0_0, .slice A0_1 l0_1.length c0_1, .slice (some ad) l0_2.length c0_2] (.slice Av l0_1.length cv) w.heap.size l0_1.length W g' ∧ g' = if g.getD na 0 = g.getD nb 0 then g else mergeL g na nb :=
                  fun W ⟨s0, s1, s2, s3, s4, s5, s6, s7, s8⟩ hf => hf.merge a na nb (by omega) (by omega) n2 n4 hn _ (fun W' hk => by
                    have o1 : ∀ m, ¬ some (ad1.add m).block = (Value.slice Av l0_1.length cv).ownBlock := fun m h => by have := HOB.out _ h; rw [add_block] at this; omega
                    have o2 : ∀ m, ¬ some (ad.add m).block = (Value.slice Av l0_1.length cv).ownBlock := fun m h => by have := HOB.out _ h; rw [add_block] at this; omega
                    exact ⟨kept_cell hk s0 HOC.out, kept_cell hk s1 (o1 _), kept_cell hk s2 (o1 _), kept_cell hk s3 (o2 _), kept_cell hk s4 (o2 _), kept_cell hk s5 (o2 _), kept_cell hk s6 (o2 _), kept_cell hk s7 (o2 _), kept_cell hk s8 (o2 _)⟩)
                generalize hbv : (!decide (g.getD na 0 = g.getD nb 0)) = bv at hme
                have HBV := Aside0.mk hbv
                have HME := Aside0.mk hme
                clear hme hbv HOB HOC
                have hgo : forestGo l0_2 (x :: l1.drop (i + 1)) last L = if g.getD na 0 = g.getD nb 0 then none else forestGo l0_2 (l1.drop (i + 1)) x (uni L na nb) := by
                  simp only [forestGo]
                  rw [if_neg (by omega)]
                  have e1 : (l0_2.getD x.toNat z36).f1.toNat = na := by rw [HRD.out]; exact hA
                  have e2 : (l0_2.getD x.toNat z36).f2.toNat = nb := by rw [HRD.out]; exact hB
                  rw [e1, e2]
                  by_cases c : g.getD na 0 = g.getD nb 0
                  · rw [if_pos c, if_pos ((HS.out.2.2 na nb n2 n4).1 c)]
                  · rw [if_neg c, if_neg (fun h => c ((HS.out.2.2 na nb n2 n4).2 h))]
                have HGO := Aside0.mk hgo
                have hpi : i = 0 ∨ (0 < i ∧ pv = last) := by
                  rcases Nat.eq_zero_or_pos i with h | h
                  · exact .inl h
                  · refine .inr ⟨h, ?_⟩
                    rw [← HPW.out, HPV.out h, show ((i - 1 : Nat) : Int) = (i : Int) - 1 by omega]
                clear hgo hA hB HPV HPV0 HRD n1 n3 hadl had1 HPW
                have hx0 : 0 ≤ x := h1.1
                have hx9 : x < (l0_2.length : Int) := by omega
                clear h1
                have hw2 : IntKind.i64.wrap ((i : Int) - 1) = (i : Int) - 1 := IntWalk.i64_in _ (by omega)
                rcases hpi with hi0 | ⟨hi0, rfl⟩
                · subst hi0
                  clear hw2
                  go_wp2_with fail
                  refine start_ (n := 39) (S := fun w' => w'.cell? ⟨w.heap.size, 2, none⟩ = some (.slice (some ad) l0_2.length c0_2) ∧ w'.cell? ad1 = some (.int .i64 x) ∧ w'.cell? (ad.add (x.toNat * 6)) = some (.int .i64 a.f0) ∧ w'.cell? ⟨(ad.add (x.toNat * 6)).block, (ad.add (x.toNat * 6)).off + 1, none⟩ = some (.int .i64 a.f1) ∧ w'.cell? ⟨(ad.add (x.toNat * 6)).block, (ad.add (x.toNat * 6)).off + 2, none⟩ = some (.int .i64 a.f2) ∧ w'.cell? ⟨(ad.add (x.toNat * 6)).block, (ad.add (x.toNat * 6)).off + 3, none⟩ = some (.int .i64 a.f3) ∧ w'.cell? ⟨(ad.add (x.toNat * 6)).block, (ad.add (x.toNat * 6)).off + 4, none⟩ = some (.int .i64 a.f4) ∧ w'.cell? ⟨(ad.add (x.toNat * 6)).block, (ad.add (x.toNat * 6)).off + 5, none⟩ = some (.int .i64 a.f5)) (ds := [36]) #[false, false, false, false, false, false, false, false, false, false, false, false, false, false, false, false, false, false, false, false, false, false, false, false, false, false, false, false, false, false, false, false, false, false, false, false, false, false, false] (by kernel_rfl) rfl rfl ⟨q2, hx1, g0, g1, g2, g3, g4, g5⟩ (fun hHeld => ?_); refine with_tabW rfor12.tab rfor12.bits (fun HT_ HW_ => ?_)
                  refine pure_ (i := 0) (N := some 32) (v := ?_) (a' := ?_) #[true, false, false, false, false, false, false, false, false, false, false, false, false, false, false, false, false, false, false, false, false, false, false, false, false, false, false, false, false, false, false, false, false, false, false, false, false, false, false] rfl rfl (any_of HT_.out (by kernel_rfl)) (fun _ _ _ h => h) (Or.inl ⟨by rfl, ?_⟩) ?_ ?_; rotate_left; intro w'; go_simp; with_reducible rfl; rotate_left; simp only [Act.put, List.setIfInBounds_toArray, List.set_cons_zero, List.set_cons_succ, i64_w, i32_w]; rfl
                  refine pure_ (i := 1) (N := some 33) (v := ?_) (a' := ?_) #[true, true, false, false, false, false, false, false, false, false, false, false, false, false, false, false, false, false, false, false, false, false, false, false, false, false, false, false, false, false, false, false, false, false, false, false, false, false, false] rfl rfl (any_of HT_.out (by kernel_rfl)) (fun _ _ _ h => h) (Or.inl ⟨by rfl, ?_⟩) ?_ ?_; rotate_left; intro w'; go_simp; with_reducible rfl; rotate_left; simp only [Act.put, List.setIfInBounds_toArray, List.set_cons_zero, List.set_cons_succ, i64_w, i32_w]; rfl
                  refine pure_ (i := 2) (N := some 34) (v := ?_) (a' := ?_) #[true, true, true, false, false, false, false, false, false, false, false, false, false, false, false, false, false, false, false, false, false, false, false, false, false, false, false, false, false, false, false, false, false, false, false, false, false, false, false] rfl rfl (any_of HT_.out (by kernel_rfl)) (fun _ _ _ h => h) (Or.inl ⟨by rfl, ?_⟩) ?_ ?_; rotate_left; intro w'; go_simp; with_reducible rfl; rotate_left; simp only [Act.put, List.setIfInBounds_toArray, List.set_cons_zero, List.set_cons_succ, i64_w, i32_w]; rfl
                  refine pure_ (i := 4) (N := some 36) (v := ?_) (a' := ?_) #[true, true, true, false, true, false, false, false, false, false, false, false, false, false, false, false, false, false, false, false, false, false, false, false, false, false, false, false, false, false, false, false, false, false, false, false, false, false, false] rfl rfl (any_of HT_.out (by kernel_rfl)) (fun _ _ _ h => h) (Or.inl ⟨by rfl, ?_⟩) ?_ ?_; rotate_left; intro w'; go_simp; with_reducible rfl; rotate_left; simp only [Act.put, List.setIfInBounds_toArray, List.set_cons_zero, List.set_cons_succ, i64_w, i32_w]; rfl
                  refine take_ (i := 3) (N := some 35) (v := ?_) (a' := ?_) #[true, true, true, true, true, false, false, false, false, false, false, false, false, false, false, false, false, false, false, false, false, false, false, false, false, false, false, false, false, false, false, false, false, false, false, false, false, false, false] rfl rfl (take_ofW HT_.out HW_.out (by kernel_rfl)) (fun _ _ _ h => h) (Or.inl ⟨by rfl, ?_⟩) hHeld ?_ ?_; rotate_left; rintro w' ⟨s0, s1, s2, s3, s4, s5, s6, s7⟩; go_simp; with_reducible rfl; rotate_left; simp only [Act.put, List.setIfInBounds_toArray, List.set_cons_zero, List.set_cons_succ, i64_w, i32_w]; rfl
                  refine take_ (i := 5) (N := some 37) (v := ?_) (a' := ?_) #[true, true, true, true, true, true, false, false, false, false, false, false, false, false, false, false, false, false, false, false, false, false, false, false, false, false, false, false, false, false, false, false, false, false, false, false, false, false, false] rfl rfl (take_ofW HT_.out HW_.out (by kernel_rfl)) (fun _ _ _ h => h) (Or.inl ⟨by rfl, ?_⟩) hHeld ?_ ?_; rotate_left; rintro w' ⟨s0, s1, s2, s3, s4, s5, s6, s7⟩; go_simp; with_reducible rfl; rotate_left; simp only [Act.put, List.setIfInBounds_toArray, List.set_cons_zero, List.set_cons_succ, i64_w, i32_w]; rfl
                  refine pure_ (i := 6) (N := some 38) (v := ?_) (a' := ?_) #[true, true, true, true, true, true, true, false, false, false, false, false, false, false, false, false, false, false, false, false, false, false, false, false, false, false, false, false, false, false, false, false, false, false, false, false, false, false, false] rfl rfl (any_of HT_.out (by kernel_rfl)) (fun _ _ _ h => h) (Or.inl ⟨by rfl, ?_⟩) ?_ ?_; rotate_left; intro w'; go_simp; with_reducible rfl; rotate_left; simp only [Act.put, List.setIfInBounds_toArray, List.set_cons_zero, List.set_cons_succ, i64_w, i32_w]; rfl
                  refine pure_ (i := 7) (N := some 39) (v := ?_) (a' := ?_) #[true, true, true, true, true, true, true, true, false, false, false, false, false, false, false, false, false, false, false, false, false, false, false, false, false, false, false, false, false, false, false, false, false, false, false, false, false, false, false] rfl rfl (any_of HT_.out (by kernel_rfl)) (fun _ _ _ h => h) (Or.inl ⟨by rfl, ?_⟩) ?_ ?_; rotate_left; intro w'; go_simp; with_reducible rfl; rotate_left; simp only [Act.put, List.setIfInBounds_toArray, List.set_cons_zero, List.set_cons_succ, i64_w, i32_w]; rfl
                  refine one_ (i := 8) (N := some 40) #[true, true, true, true, true, true, true, true, true, false, false, false, false, false, false, false, false, false, false, false, false, false, false, false, false, false, false, false, false, false, false, false, false, false, false, false, false, false, false] rfl rfl (one_of HT_.out (by kernel_rfl)) (by decide) (fun K hK => ?_)
                  refine goes_ Try.func110 (by kernel_rfl) rfl #[.int .i64 x, .int .i64 0, .int .i64 ((l0_2.length : Int) - 1)] (by rfl) rfl rfl (by (try simp only [List.map_toArray, List.map_cons, List.map_nil]); first | done | rfl) ?_
                  refine (HIN.out _).mono ?_; rintro e w2 ⟨rfl, ⟨nd, rfl⟩⟩
                  refine ⟨_, rfl, ?_⟩
                  refine hK.out _ _ ⟨q2, hx1, g0, g1, g2, g3, g4, g5⟩ (fun hHeld => ?_)
                  clear hK K
                  refine norm_ (a' := ?_) ?_ ?_; rotate_left; show Act.put _ (some 40) _ = _; simp only [Act.put, List.setIfInBounds_toArray, List.set_cons_zero, List.set_cons_succ, i64_w, i32_w]; rfl
                  refine pure_ (i := 9) (N := some 41) (v := ?_) (a' := ?_) #[true, true, true, true, true, true, true, true, true, true, false, false, false, false, false, false, false, false, false, false, false, false, false, false, false, false, false, false, false, false, false, false, false, false, false, false, false, false, false] rfl rfl (any_of HT_.out (by kernel_rfl)) (fun _ _ _ h => h) (Or.inl ⟨by rfl, ?_⟩) ?_ ?_; rotate_left; intro w'; go_simp; with_reducible rfl; rotate_left; simp only [Act.put, List.setIfInBounds_toArray, List.set_cons_zero, List.set_cons_succ, i64_w, i32_w]; rfl
                  refine pure_ (i := 10) (N := some 42) (v := ?_) (a' := ?_) #[true, true, true, true, true, true, true, true, true, true, true, false, false, false, false, false, false, false, false, false, false, false, false, false, false, false, false, false, false, false, false, false, false, false, false, false, false, false, false] rfl rfl (any_of HT_.out (by kernel_rfl)) (fun _ _ _ h => h) (Or.inl ⟨by rfl, ?_⟩) ?_ ?_; rotate_left; intro w'; go_simp; with_reducible rfl; rotate_left; simp only [Act.put, List.setIfInBounds_toArray, List.set_cons_zero, List.set_cons_succ, i64_w, i32_w]; rfl
                  refine pure_ (i := 11) (N := some 43) (v := ?_) (a' := ?_) #[true, true, true, true, true, true, true, true, true, true, true, true, false, false, false, false, false, false, false, false, false, false, false, false, false, false, false, false, false, false, false, false, false, false, false, false, false, false, false] rfl rfl (any_of HT_.out (by kernel_rfl)) (fun _ _ _ h => h) (Or.inl ⟨by rfl, ?_⟩) ?_ ?_; rotate_left; intro w'; go_simp; with_reducible rfl; rotate_left; simp only [Act.put, List.setIfInBounds_toArray, List.set_cons_zero, List.set_cons_succ, i64_w, i32_w]; rfl
                  refine pure_ (i := 12) (N := some 44) (v := ?_) (a' := ?_) #[true, true, true, true, true, true, true, true, true, true, true, true, true, false, false, false, false, false, false, false, false, false, false, false, false, false, false, false, false, false, false, false, false, false, false, false, false, false, false] rfl rfl (any_of HT_.out (by kernel_rfl)) (fun _ _ _ h => h) (Or.inl ⟨by rfl, ?_⟩) ?_ ?_; rotate_left; intro w'; go_simp; with_reducible rfl; rotate_left; simp only [Act.put, List.setIfInBounds_toArray, List.set_cons_zero, List.set_cons_succ, i64_w, i32_w]; rfl
                  refine pure_ (i := 13) (N := some 45) (v := ?_) (a' := ?_) #[true, true, true, true, true, true, true, true, true, true, true, true, true, true, false, false, false, false, false, false, false, false, false, false, false, false, false, false, false, false, false, false, false, false, false, false, false, false, false] rfl rfl (any_of HT_.out (by kernel_rfl)) (fun _ _ _ h => h) (Or.inl ⟨by rfl, ?_⟩) ?_ ?_; rotate_left; intro w'; go_simp; with_reducible rfl; rotate_left; simp only [Act.put, List.setIfInBounds_toArray, List.set_cons_zero, List.set_cons_succ, i64_w, i32_w]; rfl
                  refine pure_ (i := 14) (N := some 46) (v := undef) (a' := ?_) #[true, true, true, true, true, true, true, true, true, true, true, true, true, true, true, false, false, false, false, false, false, false, false, false, false, false, false, false, false, false, false, false, false, false, false, false, false, false, false] rfl rfl (any_of HT_.out (by kernel_rfl)) (fun _ _ _ h => h) (Or.inr ⟨by rfl, rfl⟩) ?_ ?_; rotate_left; simp only [Act.put, List.setIfInBounds_toArray, List.set_cons_zero, List.set_cons_succ, i64_w, i32_w]; rfl
                  refine pure_ (i := 15) (N := some 47) (v := undef) (a' := ?_) #[true, true, true, true, true, true, true, true, true, true, true, true, true, true, true, true, false, false, false, false, false, false, false, false, false, false, false, false, false, false, false, false, false, false, false, false, false, false, false] rfl rfl (any_of HT_.out (by kernel_rfl)) (fun _ _ _ h => h) (Or.inr ⟨by rfl, rfl⟩) ?_ ?_; rotate_left; simp only [Act.put, List.setIfInBounds_toArray, List.set_cons_zero, List.set_cons_succ, i64_w, i32_w]; rfl
                  refine pure_ (i := 16) (N := some 48) (v := undef) (a' := ?_) #[true, true, true, true, true, true, true, true, true, true, true, true, true, true, true, true, true, false, false, false, false, false, false, false, false, false, false, false, false, false, false, false, false, false, false, false, false, false, false] rfl rfl (any_of HT_.out (by kernel_rfl)) (fun _ _ _ h => h) (Or.inr ⟨by rfl, rfl⟩) ?_ ?_; rotate_left; simp only [Act.put, List.setIfInBounds_toArray, List.set_cons_zero, List.set_cons_succ, i64_w, i32_w]; rfl
                  refine pure_ (i := 17) (N := some 49) (v := undef) (a' := ?_) #[true, true, true, true, true, true, true, true, true, true, true, true, true, true, true, true, true, true, false, false, false, false, false, false, false, false, false, false, false, false, false, false, false, false, false, false, false, false, false] rfl rfl (any_of HT_.out (by kernel_rfl)) (fun _ _ _ h => h) (Or.inr ⟨by rfl, rfl⟩) ?_ ?_; rotate_left; simp only [Act.put, List.setIfInBounds_toArray, List.set_cons_zero, List.set_cons_succ, i64_w, i32_w]; rfl
                  refine pure_ (i := 18) (N := some 50) (v := undef) (a' := ?_) #[true, true, true, true, true, true, true, true, true, true, true, true, true, true, true, true, true, true, true, false, false, false, false, false, false, false, false, false, false, false, false, false, false, false, false, false, false, false, false] rfl rfl (any_of HT_.out (by kernel_rfl)) (fun _ _ _ h => h) (Or.inr ⟨by rfl, rfl⟩) ?_ ?_; rotate_left; simp only [Act.put, List.setIfInBounds_toArray, List.set_cons_zero, List.set_cons_succ, i64_w, i32_w]; rfl
                  refine pure_ (i := 19) (N := some 51) (v := undef) (a' := ?_) #[true, true, true, true, true, true, true, true, true, true, true, true, true, true, true, true, true, true, true, true, false, false, false, false, false, false, false, false, false, false, false, false, false, false, false, false, false, false, false] rfl rfl (any_of HT_.out (by kernel_rfl)) (fun _ _ _ h => h) (Or.inr ⟨by rfl, rfl⟩) ?_ ?_; rotate_left; simp only [Act.put, List.setIfInBounds_toArray, List.set_cons_zero, List.set_cons_succ, i64_w, i32_w]; rfl
                  refine pure_ (i := 20) (N := some 52) (v := undef) (a' := ?_) #[true, true, true, true, true, true, true, true, true, true, true, true, true, true, true, true, true, true, true, true, true, false, false, false, false, false, false, false, false, false, false, false, false, false, false, false, false, false, false] rfl rfl (any_of HT_.out (by kernel_rfl)) (fun _ _ _ h => h) (Or.inr ⟨by rfl, rfl⟩) ?_ ?_; rotate_left; simp only [Act.put, List.setIfInBounds_toArray, List.set_cons_zero, List.set_cons_succ, i64_w, i32_w]; rfl
                  refine pure_ (i := 21) (N := some 53) (v := undef) (a' := ?_) #[true, true, true, true, true, true, true, true, true, true, true, true, true, true, true, true, true, true, true, true, true, true, false, false, false, false, false, false, false, false, false, false, false, false, false, false, false, false, false] rfl rfl (any_of HT_.out (by kernel_rfl)) (fun _ _ _ h => h) (Or.inr ⟨by rfl, rfl⟩) ?_ ?_; rotate_left; simp only [Act.put, List.setIfInBounds_toArray, List.set_cons_zero, List.set_cons_succ, i64_w, i32_w]; rfl
                  refine pure_ (i := 22) (N := some 54) (v := undef) (a' := ?_) #[true, true, true, true, true, true, true, true, true, true, true, true, true, true, true, true, true, true, true, true, true, true, true, false, false, false, false, false, false, false, false, false, false, false, false, false, false, false, false] rfl rfl (any_of HT_.out (by kernel_rfl)) (fun _ _ _ h => h) (Or.inr ⟨by rfl, rfl⟩) ?_ ?_; rotate_left; simp only [Act.put, List.setIfInBounds_toArray, List.set_cons_zero, List.set_cons_succ, i64_w, i32_w]; rfl
                  refine pure_ (i := 23) (N := some 55) (v := undef) (a' := ?_) #[true, true, true, true, true, true, true, true, true, true, true, true, true, true, true, true, true, true, true, true, true, true, true, true, false, false, false, false, false, false, false, false, false, false, false, false, false, false, false] rfl rfl (any_of HT_.out (by kernel_rfl)) (fun _ _ _ h => h) (Or.inr ⟨by rfl, rfl⟩) ?_ ?_; rotate_left; simp only [Act.put, List.setIfInBounds_toArray, List.set_cons_zero, List.set_cons_succ, i64_w, i32_w]; rfl
                  refine pure_ (i := 24) (N := some 56) (v := ?_) (a' := ?_) #[true, true, true, true, true, true, true, true, true, true, true, true, true, true, true, true, true, true, true, true, true, true, true, true, true, false, false, false, false, false, false, false, false, false, false, false, false, false, false] rfl rfl (any_of HT_.out (by kernel_rfl)) (fun _ _ _ h => h) (Or.inl ⟨by rfl, ?_⟩) ?_ ?_; rotate_left; intro w'; go_simp; with_reducible rfl; rotate_left; simp only [Act.put, List.setIfInBounds_toArray, List.set_cons_zero, List.set_cons_succ, i64_w, i32_w]; rfl
                  refine pure_ (i := 25) (N := some 57) (v := ?_) (a' := ?_) #[true, true, true, true, true, true, true, true, true, true, true, true, true, true, true, true, true, true, true, true, true, true, true, true, true, true, false, false, false, false, false, false, false, false, false, false, false, false, false] rfl rfl (any_of HT_.out (by kernel_rfl)) (fun _ _ _ h => h) (Or.inl ⟨by rfl, ?_⟩) ?_ ?_; rotate_left; intro w'; go_simp; with_reducible rfl; rotate_left; simp only [Act.put, List.setIfInBounds_toArray, List.set_cons_zero, List.set_cons_succ, i64_w, i32_w]; rfl
                  refine pure_ (i := 26) (N := some 58) (v := ?_) (a' := ?_) #[true, true, true, true, true, true, true, true, true, true, true, true, true, true, true, true, true, true, true, true, true, true, true, true, true, true, true, false, false, false, false, false, false, false, false, false, false, false, false] rfl rfl (any_of HT_.out (by kernel_rfl)) (fun _ _ _ h => h) (Or.inl ⟨by rfl, ?_⟩) ?_ ?_; rotate_left; intro w'; go_simp; with_reducible rfl; rotate_left; simp only [Act.put, List.setIfInBounds_toArray, List.set_cons_zero, List.set_cons_succ, i64_w, i32_w]; rfl
                  refine pure_ (i := 27) (N := some 59) (v := ?_) (a' := ?_) #[true, true, true, true, true, true, true, true, true, true, true, true, true, true, true, true, true, true, true, true, true, true, true, true, true, true, true, true, false, false, false, false, false, false, false, false, false, false, false] rfl rfl (any_of HT_.out (by kernel_rfl)) (fun _ _ _ h => h) (Or.inl ⟨by rfl, ?_⟩) ?_ ?_; rotate_left; intro w'; go_simp; with_reducible rfl; rotate_left; simp only [Act.put, List.setIfInBounds_toArray, List.set_cons_zero, List.set_cons_succ, i64_w, i32_w]; rfl
                  refine pure_ (i := 28) (N := some 60) (v := ?_) (a' := ?_) #[true, true, true, true, true, true, true, true, true, true, true, true, true, true, true, true, true, true, true, true, true, true, true, true, true, true, true, true, true, false, false, false, false, false, false, false, false, false, false] rfl rfl (any_of HT_.out (by kernel_rfl)) (fun _ _ _ h => h) (Or.inl ⟨by rfl, ?_⟩) ?_ ?_; rotate_left; intro w'; go_simp; with_reducible rfl; rotate_left; simp only [Act.put, List.setIfInBounds_toArray, List.set_cons_zero, List.set_cons_succ, i64_w, i32_w]; rfl
                  refine pure_ (i := 30) (N := some 62) (v := ?_) (a' := ?_) #[true, true, true, true, true, true, true, true, true, true, true, true, true, true, true, true, true, true, true, true, true, true, true, true, true, true, true, true, true, false, true, false, false, false, false, false, false, false, false] rfl rfl (any_of HT_.out (by kernel_rfl)) (fun _ _ _ h => h) (Or.inl ⟨by rfl, ?_⟩) ?_ ?_; rotate_left; intro w'; go_simp; with_reducible rfl; rotate_left; simp only [Act.put, List.setIfInBounds_toArray, List.set_cons_zero, List.set_cons_succ, i64_w, i32_w]; rfl
                  refine pure_ (i := 31) (N := some 63) (v := ?_) (a' := ?_) #[true, true, true, true, true, true, true, true, true, true, true, true, true, true, true, true, true, true, true, true, true, true, true, true, true, true, true, true, true, false, true, true, false, false, false, false, false, false, false] rfl rfl (any_of HT_.out (by kernel_rfl)) (fun _ _ _ h => h) (Or.inl ⟨by rfl, ?_⟩) ?_ ?_; rotate_left; intro w'; go_simp; with_reducible rfl; rotate_left; simp only [Act.put, List.setIfInBounds_toArray, List.set_cons_zero, List.set_cons_succ, i64_w, i32_w]; rfl
                  refine pure_ (i := 32) (N := some 64) (v := ?_) (a' := ?_) #[true, true, true, true, true, true, true, true, true, true, true, true, true, true, true, true, true, true, true, true, true, true, true, true, true, true, true, true, true, false, true, true, true, false, false, false, false, false, false] rfl rfl (any_of HT_.out (by kernel_rfl)) (fun _ _ _ h => h) (Or.inl ⟨by rfl, ?_⟩) ?_ ?_; rotate_left; intro w'; go_simp; with_reducible rfl; rotate_left; simp only [Act.put, List.setIfInBounds_toArray, List.set_cons_zero, List.set_cons_succ, i64_w, i32_w]; rfl
                  refine take_ (i := 29) (N := some 61) (v := ?_) (a' := ?_) #[true, true, true, true, true, true, true, true, true, true, true, true, true, true, true, true, true, true, true, true, true, true, true, true, true, true, true, true, true, true, true, true, true, false, false, false, false, false, false] rfl rfl (take_ofW HT_.out HW_.out (by kernel_rfl)) (fun _ _ _ h => h) (Or.inl ⟨by rfl, ?_⟩) hHeld ?_ ?_; rotate_left; rintro w' ⟨s0, s1, s2, s3, s4, s5, s6, s7⟩; go_simp; with_reducible rfl; rotate_left; simp only [Act.put, List.setIfInBounds_toArray, List.set_cons_zero, List.set_cons_succ, i64_w, i32_w]; rfl
                  refine take_ (i := 33) (N := some 65) (v := ?_) (a' := ?_) #[true, true, true, true, true, true, true, true, true, true, true, true, true, true, true, true, true, true, true, true, true, true, true, true, true, true, true, true, true, true, true, true, true, true, false, false, false, false, false] rfl rfl (take_ofW HT_.out HW_.out (by kernel_rfl)) (fun _ _ _ h => h) (Or.inl ⟨by rfl, ?_⟩) hHeld ?_ ?_; rotate_left; rintro w' ⟨s0, s1, s2, s3, s4, s5, s6, s7⟩; go_simp; with_reducible rfl; rotate_left; simp only [Act.put, List.setIfInBounds_toArray, List.set_cons_zero, List.set_cons_succ, i64_w, i32_w]; rfl
                  refine pure_ (i := 34) (N := some 66) (v := ?_) (a' := ?_) #[true, true, true, true, true, true, true, true, true, true, true, true, true, true, true, true, true, true, true, true, true, true, true, true, true, true, true, true, true, true, true, true, true, true, true, false, false, false, false] rfl rfl (any_of HT_.out (by kernel_rfl)) (fun _ _ _ h => h) (Or.inl ⟨by rfl, ?_⟩) ?_ ?_; rotate_left; intro w'; go_simp; with_reducible rfl; rotate_left; simp only [Act.put, List.setIfInBounds_toArray, List.set_cons_zero, List.set_cons_succ, i64_w, i32_w]; rfl
                  refine take_ (i := 35) (N := some 67) (v := ?_) (a' := ?_) #[true, true, true, true, true, true, true, true, true, true, true, true, true, true, true, true, true, true, true, true, true, true, true, true, true, true, true, true, true, true, true, true, true, true, true, true, false, false, false] rfl rfl (take_ofW HT_.out HW_.out (by kernel_rfl)) (fun _ _ _ h => h) (Or.inl ⟨by rfl, ?_⟩) hHeld ?_ ?_; rotate_left; rintro w' ⟨s0, s1, s2, s3, s4, s5, s6, s7⟩; go_simp; with_reducible rfl; rotate_left; simp only [Act.put, List.setIfInBounds_toArray, List.set_cons_zero, List.set_cons_succ, i64_w, i32_w]; rfl
                  refine last_ (i := 36) (N := some 68) #[true, true, true, true, true, true, true, true, true, true, true, true, true, true, true, true, true, true, true, true, true, true, true, true, true, true, true, true, true, true, true, true, true, true, true, true, true, false, false] rfl rfl (one_of HT_.out (by kernel_rfl)) (by decide) (fun K hK => ?_)
                  refine goes_ Try.func86 (by kernel_rfl) rfl #[.slice Av l0_1.length cv, .agg #[.int .i64 a.f0, .int .i64 a.f1, .int .i64 a.f2, .int .i64 a.f3, .int .i64 a.f4, .int .i64 a.f5]] (by rfl) rfl rfl (by (try simp only [List.map_toArray, List.map_cons, List.map_nil]); first | done | rfl) ?_
                  (with_reducible refine (HME.out _ ?hs ?hf).mono ?_); (case hs => exact ⟨q2, hx1, hx2, g0, g1, g2, g3, g4, g5⟩); (case hf => first | exact HF.out.drew.drewN _ | exact HF.out.drewN _); rintro e w1 ⟨g', rfl, k0, H1, HL⟩
                  refine ⟨_, rfl, ?_⟩
                  refine hK.out _ _ ?_
                  clear hK K
                  refine norm_ (a' := ?_) ?_ ?_; rotate_left; show Act.put _ (some 68) _ = _; simp only [Act.put, List.setIfInBounds_toArray, List.set_cons_zero, List.set_cons_succ, i64_w, i32_w]; rfl
                  refine pure_ (i := 37) (N := some 69) (v := ?_) (a' := ?_) #[true, true, true, true, true, true, true, true, true, true, true, true, true, true, true, true, true, true, true, true, true, true, true, true, true, true, true, true, true, true, true, true, true, true, true, true, true, true, false] rfl rfl (any_of HT_.out (by kernel_rfl)) (fun _ _ _ h => h) (Or.inl ⟨by rfl, ?_⟩) ?_ ?_; rotate_left; intro w'; go_simp; with_reducible rfl; rotate_left; simp only [Act.put, List.setIfInBounds_toArray, List.set_cons_zero, List.set_cons_succ, i64_w, i32_w]; rfl
                  refine pure_ (i := 38) (N := some 70) (v := ?_) (a' := ?_) #[true, true, true, true, true, true, true, true, true, true, true, true, true, true, true, true, true, true, true, true, true, true, true, true, true, true, true, true, true, true, true, true, true, true, true, true, true, true, true] rfl rfl (any_of HT_.out (by kernel_rfl)) (fun _ _ _ h => h) (Or.inl ⟨by rfl, ?_⟩) ?_ ?_; rotate_left; intro w'; go_simp; with_reducible rfl; rotate_left; simp only [Act.put, List.setIfInBounds_toArray, List.set_cons_zero, List.set_cons_succ, i64_w, i32_w]; rfl
                  refine done_ (done_of HT_.out (by kernel_rfl)) ?_
                  clear HME
                  cases bv with
                  | false =>
                    have hres : forestB a0_0 l0_1.length l0_2 l1 = false := by
                      have he : g.getD na 0 = g.getD nb 0 := by have := HBV.out; simpa [-List.getD_eq_getElem?_getD] using this
                      unfold forestB
                      rw [HE.out, HD.out, HGO.out, if_pos he]
                      simp
                    have HRES := Aside0.mk hres
                    clear hres
                    go_wp2
                    go_ret
                    rw [HRES.out]
                    exact ⟨rfl, H1.bel⟩
                  | true =>
                    have he : ¬ g.getD na 0 = g.getD nb 0 := by have := HBV.out; simpa [-List.getD_eq_getElem?_getD] using this
                    have HNE := Aside0.mk he
                    rw [if_neg he] at HL
                    subst HL
                    clear he
                    go_wp2
                    go_roundw
                    case rel => exact ⟨0 + 1, x, _, _, by omega, by go_num, by omega, fun _ => by rw [show (((0 + 1 : Nat) : Int) - 1) = ((0 : Nat) : Int) by omega, HX.out], fun h => absurd h (by omega), ⟨H1⟩, ⟨HS.out.merge n2 n4⟩, ⟨by rw [HE.out, HD.out, HGO.out, if_neg HNE.out]⟩⟩
                    case measure => simp [intOf]; omega
                · have hd1 : decide ((0 : Int) < (i : Int)) = true := decide_eq_true (by omega)
                  have hd2 : decide (x ≤ pv) = false := decide_eq_false h2
                  have hd3 : (1 : Int) ≤ (i : Int) := by omega
                  have hd4 : (i : Int) - 1 < (l1.length : Int) := by omega
                  have hd5 : ((i : Int) - 1).toNat = i - 1 := by omega
                  go_wp2_with fail
                  go_region_held3 (fun W => W.cell? ⟨w.heap.size, 2, none⟩ = some (.slice (some ad) l0_2.length c0_2) ∧ W.cell? (ad1.add i) = some (.int .i64 x) ∧ W.cell? (ad1.add (i - 1)) = some (.int .i64 pv) ∧ W.cell? (ad.add (x.toNat * 6)) = some (.int .i64 a.f0) ∧ W.cell? ⟨(ad.add (x.toNat * 6)).block, (ad.add (x.toNat * 6)).off + 1, none⟩ = some (.int .i64 a.f1) ∧ W.cell? ⟨(ad.add (x.toNat * 6)).block, (ad.add (x.toNat * 6)).off + 2, none⟩ = some (.int .i64 a.f2) ∧ W.cell? ⟨(ad.add (x.toNat * 6)).block, (ad.add (x.toNat * 6)).off + 3, none⟩ = some (.int .i64 a.f3) ∧ W.cell? ⟨(ad.add (x.toNat * 6)).block, (ad.add (x.toNat * 6)).off + 4, none⟩ = some (.int .i64 a.f4) ∧ W.cell? ⟨(ad.add (x.toNat * 6)).block, (ad.add (x.toNat * 6)).off + 5, none⟩ = some (.int .i64 a.f5))
                    (first | exact ⟨q2, hx1, hx2, g0, g1, g2, g3, g4, g5⟩ | exact k0 | go_keep)
                    ((first | (go_at_call 110; refine (HIN.out _).mono ?_; rintro e w' ⟨rfl, ⟨nd, rfl⟩⟩) | (go_at_call 86; (with_reducible refine (HME.out _ ?hs ?hf).mono ?_); (case hs => exact ⟨q2, hx1, hx2, g0, g1, g2, g3, g4, g5⟩); (case hf => first | exact HF.out.drew.drewN _ | exact HF.out.drewN _); rintro e w1 ⟨g', rfl, k0, H1, HL⟩)))
                  clear HME
                  cases bv with
                  | false =>
                    have hres : forestB a0_0 l0_1.length l0_2 l1 = false := by
                      have he : g.getD na 0 = g.getD nb 0 := by have := HBV.out; simpa [-List.getD_eq_getElem?_getD] using this
                      unfold forestB
                      rw [HE.out, HD.out, HGO.out, if_pos he]
                      simp
                    have HRES := Aside0.mk hres
                    clear hres
                    go_wp2
                    go_ret
                    rw [HRES.out]
                    exact ⟨rfl, H1.bel⟩
                  | true =>
                    have he : ¬ g.getD na 0 = g.getD nb 0 := by have := HBV.out; simpa [-List.getD_eq_getElem?_getD] using this
                    have HNE := Aside0.mk he
                    rw [if_neg he] at HL
                    subst HL
                    clear he
                    go_wp2
                    go_roundw
                    case rel => exact ⟨i + 1, x, _, _, by omega, by go_num, by omega, fun _ => by rw [show (((i + 1 : Nat) : Int) - 1) = (i : Int) by omega, HX.out], fun h => absurd h (by omega), ⟨H1⟩, ⟨HS.out.merge n2 n4⟩, ⟨by rw [HE.out, HD.out, HGO.out, if_neg HNE.out]⟩⟩
                    case measure => simp [intOf]; omega
            · have hb : (decide (0 ≤ x) && decide (x ≤ (l0_2.length : Int) - 1)) = false := by simp; omega
              have hres : forestB a0_0 l0_1.length l0_2 l1 = false := by
                unfold forestB
                rw [HE.out, HD.out]
                simp only [forestGo]
                rw [if_pos (by omega)]
                simp
              have HRES := Aside0.mk hres
              have HIN : Aside0 (∀ W, Calls Try.prog 110 #[.int .i64 x, .int .i64 0, .int .i64 ((l0_2.length : Int) - 1)] W fun e w' => e = .returned (.bool false) ∧ ∃ m, w' = W.drewN m) := ⟨fun W => hb ▸ in_c _ _ _ W⟩
              clear hres h1 hb
              go_wp2_with fail
              go_quiet ((go_at_call 110; exact Calls.quiet_of (HIN.out _)))
              go_wp2
              go_ret
              rw [HRES.out]
              exact ⟨rfl, pw_below_drewN HF.out.bel _⟩
          · have hend : l1.drop i = [] := List.drop_eq_nil_of_le (by omega)
            have hall : ∀ a ∈ l0_2, (L.getD a.f1.toNat 0 == L.getD a.f2.toNat 0) = decide (g.getD a.f1.toNat 0 = g.getD a.f2.toNat 0) := by
              intro a ha
              obtain ⟨⟨_, n2⟩, _, n4⟩ := netOk_ends HOK.out ha
              have := HS.out.2.2 _ _ n2 n4
              rw [Bool.eq_iff_iff, beq_iff_eq, decide_eq_true_eq]
              exact this.symm
            have hres : forestB a0_0 l0_1.length l0_2 l1 = l0_2.all fun a => decide (g.getD a.f1.toNat 0 = g.getD a.f2.toNat 0) := by
              unfold forestB
              rw [HE.out, hend, HOK.out]
              simp only [forestGo, Bool.true_and]
              rw [Bool.eq_iff_iff, List.all_eq_true, List.all_eq_true]
              exact ⟨fun h a ha => by rw [← hall a ha]; exact h a ha, fun h a ha => by rw [hall a ha]; exact h a ha⟩
            have HRES := Aside0.mk hres
            clear hres hall hend HE HS HPV HPV0 q2 hlast
            obtain rfl : i = l1.length := by omega
            clear hlt hi
            obtain ⟨wo, ewo⟩ : ∃ wo : World, wo = wr := ⟨_, rfl⟩
            subst ewo
            go_wp2
            go_loopw [8] (fun v8 W => ∃ i : Nat, i ≤ l0_2.length ∧ v8 = .int .i64 i ∧ Aside0 (RFI w #[.int .i64 a0_0, .slice A0_1 l0_1.length c0_1, .slice A0_2 l0_2.length c0_2] (.slice Av l0_1.length cv) w.heap.size l0_1.length W g) ∧ Aside0 (∀ j, j < i → g.getD (l0_2.getD j z36).f1.toNat 0 = g.getD (l0_2.getD j z36).f2.toNat 0)) (fun v8 _ => l0_2.length - (intOf v8).toNat)
            case atStart => exact ⟨0, Nat.zero_le _, rfl, HF, ⟨fun j hj => absurd hj (Nat.not_lt_zero _)⟩⟩
            case round =>
              clear HF
              obtain ⟨i, hi, rfl, HF, HA⟩ := hrel
              have q2 : wr.cell? ⟨w.heap.size, 2, none⟩ = some (.slice A0_2 l0_2.length c0_2) := (blk_cell HF.out.nb 2).trans rfl
              by_cases hlt : i < l0_2.length
              · have hmem : l0_2.getD i z36 ∈ l0_2 := getD_mem hlt
                obtain ⟨⟨n1, n2⟩, n3, n4⟩ := netOk_ends HOK.out hmem
                obtain ⟨ad, e, g0, g1, g2, g3, g4, g5⟩ := at_T36 (Kd.C_below HR02.out HF.out.bel) (i : Int) (by omega) (by omega)
                cases e
                have hrd : rd_T36 l0_2 (i : Int) = l0_2.getD i z36 := by unfold rd_T36; rw [Int.toNat_natCast]
                rw [hrd, show (l0_2.getD i z36).f1 = (((l0_2.getD i z36).f1.toNat : Nat) : Int) by omega] at g1
                rw [hrd, show (l0_2.getD i z36).f2 = (((l0_2.getD i z36).f2.toNat : Nat) : Int) by omega] at g2
                rw [Int.toNat_natCast] at g1 g2
                clear g0 g3 g4 g5 hrd n1 n3
                obtain ⟨gv, cap, ev⟩ := HF.out.form (by omega)
                injection ev with e1 _ e3
                subst e1 e3
                generalize hna : (l0_2.getD i z36).f1.toNat = na at g1 n2
                generalize hnb : (l0_2.getD i z36).f2.toNat = nb at g2 n4
                obtain ⟨qa, _⟩ := HF.out.cell n2
                obtain ⟨qb, _⟩ := HF.out.cell n4
                have HMEM := Aside0.mk hmem
                have HNA := Aside0.mk hna
                have HNB := Aside0.mk hnb
                clear hmem hna hnb
                generalize hga : g.getD na 0 = ga at qa
                generalize hgb : g.getD nb 0 = gb at qb
                have HGA := Aside0.mk hga
                have HGB := Aside0.mk hgb
                clear hga hgb
                by_cases hd : ga = gb
                · subst hd
                  go_wp2_with fail
                  go_quiet (fail)
                  go_wp2
                  go_roundw
                  case rel => exact ⟨i + 1, by omega, by go_num, ⟨HF.out.drewN _⟩, ⟨fun j hj => by
                    rcases Nat.lt_succ_iff_lt_or_eq.1 hj with h | rfl
                    · exact HA.out j h
                    · rw [HNA.out, HNB.out, HGA.out, HGB.out]⟩⟩
                  case measure => simp [intOf]; omega
                · have hd1 : (ga == gb) = false := beq_eq_false_iff_ne.2 hd
                  have hd2 : (ga != gb) = true := bne_iff_ne.2 hd
                  have hres : forestB a0_0 l0_1.length l0_2 l1 = false := by
                    rw [HRES.out, List.all_eq_false]
                    refine ⟨_, HMEM.out, ?_⟩
                    rw [HNA.out, HNB.out, HGA.out, HGB.out]
                    simpa using hd
                  have HRES2 := Aside0.mk hres
                  clear hres hd
                  go_wp2_with fail
                  go_quiet (fail)
                  go_wp2
                  go_ret
                  rw [HRES2.out]
                  exact ⟨rfl, pw_below_drewN HF.out.bel _⟩
              · have hres : forestB a0_0 l0_1.length l0_2 l1 = true := by
                  rw [HRES.out, List.all_eq_true]
                  intro a ha
                  obtain ⟨j, hj, rfl⟩ := List.getElem_of_mem ha
                  have := HA.out j (by omega)
                  simpa [List.getD_eq_getElem?_getD, hj] using this
                have HRES2 := Aside0.mk hres
                clear hres
                go_wp2
                go_ret
                rw [HRES2.out]
                exact ⟨rfl, HF.out.bel⟩
end Go.Proofs.Ytbkjplomoegbdaa.PB
