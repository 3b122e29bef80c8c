/- Parts of the proof of CyclesPeriodicity, gathered by a program of this claim out of texts that it or the kit's print wrote: lemmas alone, no condition of their own. -/
import Derived.Test.YtbkjplomoegbdaaCCyclesPeriodicity14
import Derived.Test.YtbkjplomoegbdaaCCyclesPeriodicity13
namespace Go.Proofs.Ytbkjplomoegbdaa.PB
open Go.RowKit Go.Proofs.Ytbkjplomoegbdaa.UF Go.Proofs.Ytbkjplomoegbdaa.RefTree Go.Proofs.YtbkjplomoegbdaaW.PrintWords Go.Proofs.YtbkjplomoegbdaaW.PrintLast Go.Proofs.YtbkjplomoegbdaaW.PrintMore
set_option linter.unusedVariables false
set_option linter.unusedSimpArgs false
def pathStep (acts : List S36) (st : List Int × List Bool) (k : Int) : List Int × List Bool :=
  if st.2.getD (fromOf acts k) false = true ∧ st.2.getD (toOf acts k) false = false then (st.1.set (toOf acts k) k, st.2.set (toOf acts k) true)
  else if st.2.getD (toOf acts k) false = true ∧ st.2.getD (fromOf acts k) false = false then (st.1.set (fromOf acts k) k, st.2.set (fromOf acts k) true)
  else st
def pathPass (acts : List S36) (tree : List Int) (st : List Int × List Bool) : List Int × List Bool := tree.foldl (pathStep acts) st
def pathRounds (acts : List S36) (tree : List Int) : Nat → List Int × List Bool → List Int × List Bool
  | 0, st => st
  | r + 1, st => pathRounds acts tree r (pathPass acts tree st)
def pathBack (n : Nat) (acts : List S36) (via : List Int) (src : Nat) : Nat → Nat → List Int → List Int → Option (List Int × List Int)
  | 0, _, _, _ => none
  | k + 1, x, ar, ss =>
    if x = src then some (ar, ss)
    else if fitB n acts (via.getD x 0) = true ∧ (fromOf acts (via.getD x 0) = x ∨ toOf acts (via.getD x 0) = x) then
      pathBack n acts via src k (if fromOf acts (via.getD x 0) = x then toOf acts (via.getD x 0) else fromOf acts (via.getD x 0)) (via.getD x 0 :: ar) ((if fromOf acts (via.getD x 0) = x then -1 else 1) :: ss)
    else none
structure PI (w0 : World) (cs : Array Value) (gv cv gs cs2 bn n : Nat) (W : World) (st : List Int × List Bool) : Prop where
  nb : W.heap[bn]? = some (.cells cs 26 (0, 0))
  rv : Kd.R (Kd.int .i64) 3 W w0.heap.size (fun k => k ≠ bn ∧ k ≠ gs) (.slice (some ⟨gv, 0, none⟩) n cv) st.1
  rs : Kd.R Kd.bool 4 W w0.heap.size (fun k => k ≠ bn ∧ k ≠ gv) (.slice (some ⟨gs, 0, none⟩) n cs2) st.2
  bel : Below w0.heap.size w0 W
  lv : st.1.length = n
  ls : st.2.length = n
namespace PI
variable {w0 : World} {cs : Array Value} {gv cv gs cs2 bn n : Nat} {W : World} {st : List Int × List Bool}
theorem drewN (h : PI w0 cs gv cv gs cs2 bn n W st) (m : Nat) : PI w0 cs gv cv gs cs2 bn n (W.drewN m) st := ⟨h.nb, Kd.R_drewN h.rv m, Kd.R_drewN h.rs m, pw_below_drewN h.bel m, h.lv, h.ls⟩
theorem drew (h : PI w0 cs gv cv gs cs2 bn n W st) : PI w0 cs gv cv gs cs2 bn n W.drew st := h.drewN 1
theorem alloc (h : PI w0 cs gv cv gs cs2 bn n W st) (o : Obj) : PI w0 cs gv cv gs cs2 bn n (W.alloc o) st := ⟨blk_alloc h.nb o, Kd.R_alloc h.rv o, Kd.R_alloc h.rs o, below_alloc h.bel o, h.lv, h.ls⟩
theorem below (h : PI w0 cs gv cv gs cs2 bn n W st) {W' : World} (hb : Below W.heap.size W W') : PI w0 cs gv cv gs cs2 bn n W' st := ⟨blk_below h.nb hb, Kd.R_below h.rv hb, Kd.R_below h.rs hb, below_step h.bel hb, h.lv, h.ls⟩
theorem cellV (h : PI w0 cs gv cv gs cs2 bn n W st) {i : Nat} (hi : i < n) : W.cell? ⟨gv, i, none⟩ = some (.int .i64 (st.1.getD i 0)) ∧ W.frozen? ⟨gv, i, none⟩ = false := by
  have := Kd.R_celln (0 : Int) h.rv (i : Int) (by omega) (by omega)
  rw [Int.toNat_natCast] at this
  simpa [rdOf] using this
theorem cellS (h : PI w0 cs gv cv gs cs2 bn n W st) {i : Nat} (hi : i < n) : W.cell? ⟨gs, i, none⟩ = some (.bool (st.2.getD i false)) ∧ W.frozen? ⟨gs, i, none⟩ = false := by
  have := Kd.R_celln false h.rs (i : Int) (by omega) (by omega)
  rw [Int.toNat_natCast] at this
  simpa [rdOf] using this
theorem ne (h : PI w0 cs gv cv gs cs2 bn n W st) : gv ≠ bn ∧ gv ≠ gs ∧ gs ≠ bn := ⟨(h.rv.1 gv rfl).1, (h.rv.1 gv rfl).2, (h.rs.1 gs rfl).1⟩
theorem ge (h : PI w0 cs gv cv gs cs2 bn n W st) : w0.heap.size ≤ gv ∧ w0.heap.size ≤ gs := ⟨Kd.R_base h.rv gv rfl, Kd.R_base h.rs gs rfl⟩
theorem putV (h : PI w0 cs gv cv gs cs2 bn n W st) {i : Nat} (hi : i < n) (x : Int) : PI w0 cs gv cv gs cs2 bn n (W.setCell ⟨gv, i, none⟩ (.int .i64 x)) (st.1.set i x, st.2) := by
  have hr := Kd.R_putg h.rv (i : Int) x
  rw [Int.toNat_natCast] at hr
  exact ⟨blk_far h.nb (fun e => h.ne.1 e.symm) _, hr.1, Kd.R_far h.rs (fun k hk => hk.2) _, below_set h.bel h.ge.1, by simp [h.lv], h.ls⟩
theorem putS (h : PI w0 cs gv cv gs cs2 bn n W st) {i : Nat} (hi : i < n) (x : Bool) : PI w0 cs gv cv gs cs2 bn n (W.setCell ⟨gs, i, none⟩ (.bool x)) (st.1, st.2.set i x) := by
  have hr := Kd.R_putg h.rs (i : Int) x
  rw [Int.toNat_natCast] at hr
  exact ⟨blk_far h.nb (fun e => h.ne.2.2 e.symm) _, Kd.R_far h.rv (fun k hk => hk.2) _, hr.1, below_set h.bel h.ge.2, h.lv, by simp [h.ls]⟩
theorem start {w w1 W : World} {n gv cv bn : Nat} {cs : Array Value} {v : Value} {g : List Int} (hn : 0 < n) (hf : RFI w cs (.slice (some ⟨gv, 0, none⟩) n cv) bn n w1 g) (ho : Kd.R Kd.bool 4 W w1.heap.size (fun _ => True) v (List.replicate n false)) (hb : Below w1.heap.size w1 W) :
    ∃ gs cs2, v = .slice (some ⟨gs, 0, none⟩) n cs2 ∧ PI w cs gv cv gs cs2 bn n W (g, List.replicate n false) := by
  obtain ⟨gs, cap, e, hgb, hgl, _⟩ := Kd.R_form ho (by simp; omega)
  rw [List.length_replicate] at e
  subst e
  have hbn := blk_lt hf.nb
  have hgv := Kd.R_lt hf.row gv rfl
  refine ⟨gs, cap, rfl, blk_below hf.nb hb, Kd.R_below (Kd.R_mono (Kd.R_bound hf.row) (fun k hk => ⟨hk.1, by have := hk.2.2.1; omega⟩)) hb, Kd.R_mono (Kd.R_lower (Kd.R_bound ho) hf.bel.size) (fun k hk => ?_), below_step hf.bel hb, hf.len, by simp⟩
  have := hk.2.1
  omega
end PI
def rpath15.T : Bool × List (List Nat × List Nat) := (true, [([], []), ([0], [0]), ([], []), ([], []), ([2, 3], [2, 3]), ([4], [4]), ([1, 5], [1, 5]), ([6], [6]), ([], []), ([8, 7, 0, 1, 2, 3, 4, 5, 6, 7, 8], [7, 8])])
def rpath15.B : List Nat := [0, 1, 0, 0, 12, 28, 63, 127, 0, 511]
theorem rpath15.tab : rtab .any (opsOf Try.f97 15) = rpath15.T := by kernel_rfl
theorem rpath15.bits : waitsOk rpath15.T.2 rpath15.B = true := by kernel_rfl
def rpath17.T : Bool × List (List Nat × List Nat) := (true, [([], []), ([], []), ([1], [1]), ([], []), ([], []), ([4], [4]), ([], []), ([], []), ([6, 7], [6, 7]), ([8], [8]), ([0, 2, 0, 1, 2, 9], [0, 2]), ([10, 0, 1, 2, 9], [10]), ([3, 5, 0, 1, 2, 3, 4, 5, 6, 7, 8, 9, 10, 11], [3, 5]), ([12, 9, 11, 0, 1, 2, 3, 4, 5, 6, 7, 8, 9, 10, 11], [9, 12])])
def rpath17.B : List Nat := [0, 0, 2, 0, 0, 16, 0, 0, 192, 448, 967, 1991, 4095, 8191]
theorem rpath17.tab : rtab .any (opsOf Try.f97 17) = rpath17.T := by kernel_rfl
theorem rpath17.bits : waitsOk rpath17.T.2 rpath17.B = true := by kernel_rfl
def rpath19.T : Bool × List (List Nat × List Nat) := (true, [([], []), ([], []), ([1], [1]), ([], []), ([], []), ([4], [4]), ([], []), ([], []), ([6, 7], [6, 7]), ([8], [8]), ([0, 2, 0, 1, 2, 9], [0, 2]), ([10, 0, 1, 2, 9], [10]), ([3, 5, 0, 1, 2, 3, 4, 5, 6, 7, 8, 9, 10, 11], [3, 5]), ([12, 9, 11, 0, 1, 2, 3, 4, 5, 6, 7, 8, 9, 10, 11], [9, 12])])
def rpath19.B : List Nat := [0, 0, 2, 0, 0, 16, 0, 0, 192, 448, 967, 1991, 4095, 8191]
theorem rpath19.tab : rtab .any (opsOf Try.f97 19) = rpath19.T := by kernel_rfl
theorem rpath19.bits : waitsOk rpath19.T.2 rpath19.B = true := by kernel_rfl
def rpath25.T : Bool × List (List Nat × List Nat) := (true, [([], []), ([0], [0]), ([], []), ([], []), ([2, 3], [2, 3]), ([4], [4]), ([1, 5], [1, 5]), ([6], [6]), ([], []), ([8, 7, 0, 1, 2, 3, 4, 5, 6, 7, 8], [7, 8])])
def rpath25.B : List Nat := [0, 1, 0, 0, 12, 28, 63, 127, 0, 511]
theorem rpath25.tab : rtab .any (opsOf Try.f97 25) = rpath25.T := by kernel_rfl
theorem rpath25.bits : waitsOk rpath25.T.2 rpath25.B = true := by kernel_rfl
structure PBk (w0 : World) (cs : Array Value) (gv cv gs cs2 bn n : Nat) (W : World) (st : List Int × List Bool) (va vs : Value) (ar sg : List Int) : Prop where
  pi : PI w0 cs gv cv gs cs2 bn n W st
  ra : Kd.R (Kd.int .i64) 3 W w0.heap.size (fun k => some k ≠ vs.ownBlock) va ar
  rb : Kd.R (Kd.int .i64) 3 W w0.heap.size (fun k => some k ≠ va.ownBlock) vs sg
namespace PBk
variable {w0 : World} {cs : Array Value} {gv cv gs cs2 bn n : Nat} {W W' : World} {st : List Int × List Bool} {va vs : Value} {ar sg : List Int}
theorem below (h : PBk w0 cs gv cv gs cs2 bn n W st va vs ar sg) (hb : Below W.heap.size W W') : PBk w0 cs gv cv gs cs2 bn n W' st va vs ar sg := ⟨h.pi.below hb, Kd.R_below h.ra hb, Kd.R_below h.rb hb⟩
theorem setA (h : PBk w0 cs gv cv gs cs2 bn n W st va vs ar sg) (hb : Below W.heap.size W W') {v : Value} {xs : List Int} (ho : Kd.R (Kd.int .i64) 3 W' W.heap.size (fun _ => True) v xs) : PBk w0 cs gv cv gs cs2 bn n W' st v vs xs sg := by
  refine ⟨h.pi.below hb, Kd.R_mono (Kd.R_lower (Kd.R_bound ho) h.pi.bel.size) (fun k hk e => ?_), Kd.R_below (Kd.R_mono (Kd.R_bound h.rb) (fun k hk e => ?_)) hb⟩
  · have := Kd.R_lt h.rb k e.symm
    have := hk.2.1
    omega
  · have := Kd.R_base ho k e.symm
    have := hk.2.2.1
    omega
theorem setB (h : PBk w0 cs gv cv gs cs2 bn n W st va vs ar sg) (hb : Below W.heap.size W W') {v : Value} {xs : List Int} (ho : Kd.R (Kd.int .i64) 3 W' W.heap.size (fun _ => True) v xs) : PBk w0 cs gv cv gs cs2 bn n W' st va v ar xs := by
  refine ⟨h.pi.below hb, Kd.R_below (Kd.R_mono (Kd.R_bound h.ra) (fun k hk e => ?_)) hb, Kd.R_mono (Kd.R_lower (Kd.R_bound ho) h.pi.bel.size) (fun k hk e => ?_)⟩
  · have := Kd.R_base ho k e.symm
    have := hk.2.2.1
    omega
  · have := Kd.R_lt h.ra k e.symm
    have := hk.2.1
    omega
end PBk
def railplanref11_path.f (a0_0 : Int) (l0_1 : List (S97)) (l0_2 : List (S36)) (l1 : List Int) (a2 a3 : Int) : Option (List Int × List Int × Bool) :=
  if l1.all (fitB l0_1.length l0_2) && decide (0 ≤ a2) && decide (a2 < l0_1.length) && decide (0 ≤ a3) && decide (a3 < l0_1.length) && decide (l0_1.length ≤ 1048576) then
    let st := pathRounds l0_2 l1 l0_1.length (List.replicate l0_1.length (-1), (List.replicate l0_1.length false).set a2.toNat true)
    if st.2.getD a3.toNat false = false then some ([], [], false)
    else (pathBack l0_1.length l0_2 st.1 a2.toNat (l0_1.length + 1) a3.toNat [] []).map fun r => (r.1, r.2, true)
  else none
set_option maxHeartbeats 4000000 in
set_option maxRecDepth 100000 in
theorem railplanref11_path.calls (a0_0 : Int) (A0_1 : Option Addr) (c0_1 : Nat) (l0_1 : List (S97)) (A0_2 : Option Addr) (c0_2 : Nat) (l0_2 : List (S36)) (A1 : Option Addr) (c1 : Nat) (l1 : List Int) (a2 a3 : Int) (r1 r2 : List Int) (r3 : Bool) (w : World) (hr0_1 : Kd.C k97 w A0_1 l0_1.length l0_1) (hc0_1 : l0_1.length ≤ c0_1) (hr0_2 : Kd.C k36 w A0_2 l0_2.length l0_2) (hc0_2 : l0_2.length ≤ c0_2) (hr1 : Kd.C (Kd.int .i64) w A1 l1.length l1) (hc1 : l1.length ≤ c1) (h : railplanref11_path.f a0_0 l0_1 l0_2 l1 a2 a3 = some (r1, r2, r3)) :
    Calls Try.prog 97 #[.agg #[.int .i64 a0_0, .slice A0_1 l0_1.length c0_1, .slice A0_2 l0_2.length c0_2], .slice A1 l1.length c1, .int .i64 a2, .int .i64 a3] w fun e w' => ∃ v0_ v1_ : Value, e = .returned (.tuple #[v0_, v1_, .bool r3]) ∧ Kd.R (Kd.int .i64) 3 w' w.heap.size (fun k => some k ≠ v1_.ownBlock) v0_ r1 ∧ Kd.R (Kd.int .i64) 3 w' w.heap.size (fun k => some k ≠ v0_.ownBlock) v1_ r2 ∧ Below w.heap.size w w' := by
  have hu26 := Try.underlying26
  have hu36 := Try.underlying36
  have HR02 := Aside0.mk hr0_2
  have HR1 := Aside0.mk hr1
  have m2 := Kd.C_max hr0_2
  have m3 := Kd.C_max hr1
  clear hr0_1 hr0_2 hc0_1 hc0_2 hr1 hc1
  unfold railplanref11_path.f at h
  split at h
  case isFalse => cases h
  case isTrue hfit =>
  simp only [Bool.and_eq_true, List.all_eq_true, decide_eq_true_eq] at hfit
  obtain ⟨⟨⟨⟨⟨hft, h20⟩, h21⟩, h30⟩, h31⟩, hsz⟩ := hfit
  have HH := Aside0.mk h
  have HFT := Aside0.mk hft
  clear h hft
  generalize hn : l0_1.length = n at *
  clear hn
  have hn0 : 0 < n := by omega
  obtain ⟨src, rfl⟩ : ∃ x : Nat, a2 = x := ⟨a2.toNat, by omega⟩
  obtain ⟨dst, rfl⟩ : ∃ x : Nat, a3 = x := ⟨a3.toNat, by omega⟩
  rw [Int.toNat_natCast, Int.toNat_natCast] at HH
  go_enter Try.func97, Try.ntmps97
  go_wp2_with ((with_reducible refine gate_dst (N := 25) rfl ?_); refine Kd.R_make (Kd.int .i64) _ 3 rfl (N := 25) rfl 22 _ _ rfl (n : Int) rfl rfl Try.underlying22 (.int .i64 0) 8 info3 rfl (by decide) (by omega) 0 (ok := fun _ => True) (okp := fun _ => True) rfl (fun _ hk => hk) trivial (by omega) (by omega) (Below.refl _ _) (Nat.le_refl _) ?_; intro v W ho hb hg hnew; clear hg hnew; rw [Int.toNat_natCast] at ho; obtain ⟨Av, cv, ev⟩ := Kd.R_slice ho; rw [List.length_replicate] at ev; subst ev; have HF0 := Aside0.mk (RFI.start (blk_new w _) (below_alloc (Below.refl _ _) _) ho hb); clear ho hb)
  go_loopw [28] (fun v28 W => ∃ (i : Nat) (g : List Int), i ≤ n ∧ v28 = .int .i64 i ∧ Aside0 (RFI w #[.int .i64 a0_0, .slice A0_1 n c0_1, .slice A0_2 l0_2.length c0_2] (.slice Av n cv) w.heap.size n W g) ∧ Aside0 (∀ j, j < i → g.getD j 0 = -1)) (fun v28 _ => n - (intOf v28).toNat)
  case atStart => exact ⟨0, _, Nat.zero_le _, rfl, HF0, ⟨fun j hj => absurd hj (Nat.not_lt_zero _)⟩⟩
  case round =>
    obtain ⟨i, g, hi, rfl, HF, HG⟩ := hrel
    clear HF0
    obtain ⟨gv, cap, ev⟩ := HF.out.form hn0
    injection ev with e1 _ e3
    subst e1 e3
    by_cases hlt : i < n
    · obtain ⟨qa, qa'⟩ := HF.out.cell hlt
      have HF1 := Aside0.mk (HF.out.put hlt (-1))
      have HL := Aside0.mk HF.out.len
      clear HF
      go_wp2
      go_roundw
      case rel => exact ⟨i + 1, g.set i (-1), by omega, by go_num, HF1, ⟨fun j hj => by
        by_cases e : i = j
        · subst e; simp [List.getD_eq_getElem?_getD, show i < g.length by rw [HL.out]; exact hlt]
        · have := HG.out j (by omega)
          rw [← this]
          simp only [List.getD_eq_getElem?_getD, List.getElem?_set_ne e]⟩⟩
      case measure => simp [intOf]; omega
    · obtain rfl : i = n := by omega
      have hg : g = List.replicate i (-1) := by
        refine List.ext_getElem (by simp [HF.out.len]) fun j h1 h2 => ?_
        have := HG.out j (by rw [← HF.out.len]; exact h1)
        simpa [List.getD_eq_getElem?_getD, h1] using this
      subst hg
      clear HG hi hlt
      have q1 : wr.cell? ⟨w.heap.size, 1, none⟩ = some (.slice A0_1 i c0_1) := (blk_cell HF.out.nb 1).trans rfl
      go_wp2_with ((with_reducible refine gate_dst (N := 38) rfl ?_); refine Kd.R_make Kd.bool _ 4 rfl (N := 38) rfl 31 _ _ rfl (i : Int) rfl rfl Try.underlying31 (.bool false) 1 info4 rfl (by decide) (by omega) false (ok := fun _ => True) (okp := fun _ => True) rfl (fun _ hk => hk) trivial (by omega) (by omega) (Below.refl _ _) (Nat.le_refl _) ?_; intro v W ho hb hg hnew; clear hg hnew; rw [Int.toNat_natCast] at ho; obtain ⟨gs, cs2, ev, HP⟩ := PI.start hn0 HF.out ho hb; subst ev; clear ho hb q1; obtain ⟨qs, qs'⟩ := HP.cellS (i := src) (by omega); have HP0 := Aside0.mk (HP.putS (i := src) (by omega) true); clear HP)
      clear qs qs' HF
      generalize W.setCell ⟨gs, src, none⟩ (.bool true) = W1 at HP0 ⊢
      go_loopw [14] (fun v14 W => ∃ (r : Nat) (st : List Int × List Bool), r ≤ i ∧ v14 = .int .i64 r ∧ Aside0 (PI w #[.int .i64 a0_0, .slice A0_1 i c0_1, .slice A0_2 l0_2.length c0_2] gv cv gs cs2 w.heap.size i W st) ∧ Aside0 (pathRounds l0_2 l1 (i - r) st = pathRounds l0_2 l1 i (List.replicate i (-1), (List.replicate i false).set src true))) (fun v14 _ => i - (intOf v14).toNat)
      case atStart => exact ⟨0, _, Nat.zero_le _, rfl, HP0, ⟨rfl⟩⟩
      case round =>
        clear HP0
        obtain ⟨r, st, hr, rfl, HP, HE⟩ := hrel
        have q1 : wr.cell? ⟨w.heap.size, 1, none⟩ = some (.slice A0_1 i c0_1) := (blk_cell HP.out.nb 1).trans rfl
        by_cases hlt : r < i
        · obtain ⟨wo, ewo⟩ : ∃ wo : World, wo = wr := ⟨_, rfl⟩
          subst ewo
          go_wp2
          clear q1
          have HST := Aside0.mk (rfl : pathPass l0_2 l1 st = pathPass l0_2 l1 st)
          go_loopw [15] (fun v15 W => ∃ (j : Nat) (st' : List Int × List Bool), j ≤ l1.length ∧ v15 = .int .i64 j ∧ Aside0 (PI w #[.int .i64 a0_0, .slice A0_1 i c0_1, .slice A0_2 l0_2.length c0_2] gv cv gs cs2 w.heap.size i W st') ∧ Aside0 (pathPass l0_2 (l1.drop j) st' = pathPass l0_2 l1 st)) (fun v15 _ => l1.length - (intOf v15).toNat)
          case atStart => exact ⟨0, st, Nat.zero_le _, rfl, HP, ⟨rfl⟩⟩
          case round =>
            clear HP
            obtain ⟨j, st', hj, rfl, HP, HS⟩ := hrel
            by_cases hjt : j < l1.length
            · have hdrop : l1.drop j = rd l1 j :: l1.drop (j + 1) := by
                rw [List.drop_eq_getElem_cons hjt]; simp [rd, List.getD_eq_getElem?_getD, hjt]
              have hmem : rd l1 j ∈ l1 := by simpa [rd] using getD_mem (z := (0 : Int)) hjt
              obtain ⟨f1, f2, f3, f4, f5, f6⟩ := fitB_iff (HFT.out _ hmem)
              obtain ⟨ad1, e1, hx1⟩ := Kd.at_int (Kd.C_below HR1.out HP.out.bel) (j : Int) (by omega) (by omega)
              cases e1
              rw [Int.toNat_natCast] at hx1
              have HD := Aside0.mk hdrop
              clear hdrop hmem
              generalize hx : rd l1 j = x at hx1 HD f1 f2 f3 f4 f5 f6
              have HX := Aside0.mk hx
              clear hx
              obtain ⟨ad, e2, g0, g1, g2, g3, g4, g5⟩ := at_T36 (Kd.C_below HR02.out HP.out.bel) x f1 (by omega)
              cases e2
              have q2 : wr.cell? ⟨w.heap.size, 2, none⟩ = some (.slice (some ad) l0_2.length c0_2) := (blk_cell HP.out.nb 2).trans rfl
              have hrd : l0_2.getD x.toNat z36 = rd_T36 l0_2 x := rfl
              rw [hrd] at f3 f5
              have hps : pathPass l0_2 (x :: l1.drop (j + 1)) st' = pathPass l0_2 (l1.drop (j + 1)) (pathStep l0_2 st' x) := rfl
              rw [← HD.out, HS.out] at hps
              unfold pathStep at hps
              generalize rd_T36 l0_2 x = a at *
              generalize fromOf l0_2 x = na at *
              generalize toOf l0_2 x = nb at *
              have HPS := Aside0.mk hps
              clear hps HS HD
              have had1 : ad1.block < w.heap.size := Kd.C_lt HR1.out (by omega) (by decide)
              have HPD := Aside0.mk HP.out.drew
              go_wp2_with fail
              refine start_ (n := 10) (S := fun w' => w'.cell? ⟨w.heap.size, 2, none⟩ = some (.slice (some ad) l0_2.length c0_2) ∧ w'.cell? (ad1.add j) = some (.int .i64 x) ∧ w'.cell? (ad.add (x.toNat * 6)) = some (.int .i64 a.f0) ∧ w'.cell? ⟨(ad.add (x.toNat * 6)).block, (ad.add (x.toNat * 6)).off + 1, none⟩ = some (.int .i64 a.f1) ∧ w'.cell? ⟨(ad.add (x.toNat * 6)).block, (ad.add (x.toNat * 6)).off + 2, none⟩ = some (.int .i64 a.f2) ∧ w'.cell? ⟨(ad.add (x.toNat * 6)).block, (ad.add (x.toNat * 6)).off + 3, none⟩ = some (.int .i64 a.f3) ∧ w'.cell? ⟨(ad.add (x.toNat * 6)).block, (ad.add (x.toNat * 6)).off + 4, none⟩ = some (.int .i64 a.f4) ∧ w'.cell? ⟨(ad.add (x.toNat * 6)).block, (ad.add (x.toNat * 6)).off + 5, none⟩ = some (.int .i64 a.f5)) (ds := [9]) #[false, false, false, false, false, false, false, false, false, false] (by kernel_rfl) rfl rfl ⟨q2, hx1, g0, g1, g2, g3, g4, g5⟩ (fun hHeld => ?_); refine with_tabW rpath15.tab rpath15.bits (fun HT_ HW_ => ?_)
              generalize wr.drew = wd at HPD hHeld ⊢
              refine pure_ (i := 0) (N := some 55) (v := ?_) (a' := ?_) #[true, false, false, false, false, false, false, false, false, false] rfl rfl (any_of HT_.out (by kernel_rfl)) (fun _ _ _ h => h) (Or.inl ⟨by rfl, ?_⟩) ?_ ?_; rotate_left; intro w'; go_simp; with_reducible rfl; rotate_left; simp only [Act.put, List.setIfInBounds_toArray, List.set_cons_zero, List.set_cons_succ, i64_w, i32_w]; rfl
              refine pure_ (i := 2) (N := some 57) (v := ?_) (a' := ?_) #[true, false, true, false, false, false, false, false, false, false] rfl rfl (any_of HT_.out (by kernel_rfl)) (fun _ _ _ h => h) (Or.inl ⟨by rfl, ?_⟩) ?_ ?_; rotate_left; intro w'; go_simp; with_reducible rfl; rotate_left; simp only [Act.put, List.setIfInBounds_toArray, List.set_cons_zero, List.set_cons_succ, i64_w, i32_w]; rfl
              refine pure_ (i := 3) (N := some 58) (v := ?_) (a' := ?_) #[true, false, true, true, false, false, false, false, false, false] rfl rfl (any_of HT_.out (by kernel_rfl)) (fun _ _ _ h => h) (Or.inl ⟨by rfl, ?_⟩) ?_ ?_; rotate_left; intro w'; go_simp; with_reducible rfl; rotate_left; simp only [Act.put, List.setIfInBounds_toArray, List.set_cons_zero, List.set_cons_succ, i64_w, i32_w]; rfl
              refine pure_ (i := 4) (N := some 59) (v := ?_) (a' := ?_) #[true, false, true, true, true, false, false, false, false, false] rfl rfl (any_of HT_.out (by kernel_rfl)) (fun _ _ _ h => h) (Or.inl ⟨by rfl, ?_⟩) ?_ ?_; rotate_left; intro w'; go_simp; with_reducible rfl; rotate_left; simp only [Act.put, List.setIfInBounds_toArray, List.set_cons_zero, List.set_cons_succ, i64_w, i32_w]; rfl
              refine take_ (i := 1) (N := some 56) (v := ?_) (a' := ?_) #[true, true, true, true, true, false, false, false, false, false] rfl rfl (take_ofW HT_.out HW_.out (by kernel_rfl)) (fun _ _ _ h => h) (Or.inl ⟨by rfl, ?_⟩) hHeld ?_ ?_; rotate_left; rintro w' ⟨s0, s1, s2, s3, s4, s5, s6, s7⟩; go_simp; with_reducible rfl; rotate_left; simp only [Act.put, List.setIfInBounds_toArray, List.set_cons_zero, List.set_cons_succ, i64_w, i32_w]; rfl
              refine take_ (i := 5) (N := some 60) (v := ?_) (a' := ?_) #[true, true, true, true, true, true, false, false, false, false] rfl rfl (take_ofW HT_.out HW_.out (by kernel_rfl)) (fun _ _ _ h => h) (Or.inl ⟨by rfl, ?_⟩) hHeld ?_ ?_; rotate_left; rintro w' ⟨s0, s1, s2, s3, s4, s5, s6, s7⟩; go_simp; with_reducible rfl; rotate_left; simp only [Act.put, List.setIfInBounds_toArray, List.set_cons_zero, List.set_cons_succ, i64_w, i32_w]; rfl
              refine pure_ (i := 6) (N := some 61) (v := ?_) (a' := ?_) #[true, true, true, true, true, true, true, false, false, false] rfl rfl (any_of HT_.out (by kernel_rfl)) (fun _ _ _ h => h) (Or.inl ⟨by rfl, ?_⟩) ?_ ?_; rotate_left; intro w'; go_simp; with_reducible rfl; rotate_left; simp only [Act.put, List.setIfInBounds_toArray, List.set_cons_zero, List.set_cons_succ, i64_w, i32_w]; rfl
              refine take_ (i := 7) (N := some 62) (v := ?_) (a' := ?_) #[true, true, true, true, true, true, true, true, false, false] rfl rfl (take_ofW HT_.out HW_.out (by kernel_rfl)) (fun _ _ _ h => h) (Or.inl ⟨by rfl, ?_⟩) hHeld ?_ ?_; rotate_left; rintro w' ⟨s0, s1, s2, s3, s4, s5, s6, s7⟩; go_simp; with_reducible rfl; rotate_left; simp only [Act.put, List.setIfInBounds_toArray, List.set_cons_zero, List.set_cons_succ, i64_w, i32_w]; rfl
              refine one_ (i := 8) (N := some 16) #[true, true, true, true, true, true, true, true, true, false] rfl rfl (one_of HT_.out (by kernel_rfl)) (by decide) (fun K hK => ?_)
              refine value_ (w1 := ?_) (v := ?_) (by rfl) rfl ?_ ?_; rotate_left 2; go_simp; constructor; rfl; rfl
              refine hK.out _ _ ⟨(World.cell?_alloc_lt _ _ _ (World.block_lt_of_cell? _ _ hHeld.1)).trans hHeld.1, (World.cell?_alloc_lt _ _ _ (World.block_lt_of_cell? _ _ hHeld.2.1)).trans hHeld.2.1, (World.cell?_alloc_lt _ _ _ (World.block_lt_of_cell? _ _ hHeld.2.2.1)).trans hHeld.2.2.1, (World.cell?_alloc_lt _ _ _ (World.block_lt_of_cell? _ _ hHeld.2.2.2.1)).trans hHeld.2.2.2.1, (World.cell?_alloc_lt _ _ _ (World.block_lt_of_cell? _ _ hHeld.2.2.2.2.1)).trans hHeld.2.2.2.2.1, (World.cell?_alloc_lt _ _ _ (World.block_lt_of_cell? _ _ hHeld.2.2.2.2.2.1)).trans hHeld.2.2.2.2.2.1, (World.cell?_alloc_lt _ _ _ (World.block_lt_of_cell? _ _ hHeld.2.2.2.2.2.2.1)).trans hHeld.2.2.2.2.2.2.1, (World.cell?_alloc_lt _ _ _ (World.block_lt_of_cell? _ _ hHeld.2.2.2.2.2.2.2)).trans hHeld.2.2.2.2.2.2.2⟩ (fun hHeld => ?_)
              clear hK K
              refine norm_ (a' := ?_) ?_ ?_; rotate_left; show Act.put _ (some 16) _ = _; simp only [Act.put, List.setIfInBounds_toArray, List.set_cons_zero, List.set_cons_succ, i64_w, i32_w]; rfl
              refine last_ (i := 9) (N := none) #[true, true, true, true, true, true, true, true, true, true] rfl rfl (one_of HT_.out (by kernel_rfl)) (by decide) (fun K hK => ?_)
              refine skip_ (w1 := ?_) (by rfl) rfl ?_ ?_; rotate_left; go_simp; rfl
              refine hK.out _ _ ?_
              clear hK K
              refine done_ (done_of HT_.out (by kernel_rfl)) ?_
              have HP2 := HPD.out.alloc (.cells #[.int .i64 a.f0, .int .i64 (na : Int), .int .i64 (nb : Int), .int .i64 a.f3, .int .i64 a.f4, .int .i64 a.f5] 36)
              have HGA := blk_new wd (.cells #[.int .i64 a.f0, .int .i64 (na : Int), .int .i64 (nb : Int), .int .i64 a.f3, .int .i64 a.f4, .int .i64 a.f5] 36)
              have hag : wd.heap.size ≠ gs := fun e => by have := Kd.R_lt HPD.out.rs gs rfl; omega
              have hgb : w.heap.size ≤ wd.heap.size := HPD.out.bel.size
              clear HPD hHeld q2 hx1 g0 g1 g2 g3 g4 g5
              generalize wd.alloc (.cells #[.int .i64 a.f0, .int .i64 (na : Int), .int .i64 (nb : Int), .int .i64 a.f3, .int .i64 a.f4, .int .i64 a.f5] 36) = W2 at HP2 HGA ⊢
              generalize wd.heap.size = ga at HGA hag hgb ⊢
              have HP3 := Aside0.mk HP2
              have c1 : W2.cell? ⟨ga, 1, none⟩ = some (.int .i64 (na : Int)) := (blk_cell HGA 1).trans rfl
              have c2 : W2.cell? ⟨ga, 2, none⟩ = some (.int .i64 (nb : Int)) := (blk_cell HGA 2).trans rfl
              obtain ⟨ad1', e1', hx1⟩ := Kd.at_int (Kd.C_below HR1.out HP2.bel) (j : Int) (by omega) (by omega)
              injection e1' with e1'
              subst e1'
              rw [Int.toNat_natCast, HX.out] at hx1
              have htg : ad1.block ≠ gs := fun e => by have := HP2.ge.2; omega
              obtain ⟨qa, _⟩ := HP2.cellS f4
              obtain ⟨qb, _⟩ := HP2.cellS f6
              clear HP2 HGA had1 f3 f5 hgb
              generalize hba : st'.2.getD na false = ba at qa HPS
              generalize hbb : st'.2.getD nb false = bb at qb HPS
              clear hba hbb
              cases ba
              · cases bb
                · go_wp2_with fail
                  go_wp2
                  go_roundw
                  case rel => exact ⟨j + 1, _, by omega, by go_num, HP3, ⟨by
                    rw [HPS.out, if_neg (by simp), if_neg (by simp)]⟩⟩
                  case measure => simp [intOf]; omega
                · go_wp2_with fail
                  replace HP3 := Aside0.mk HP3.out.drew
                  refine start_ (n := 14) (S := fun w' => w'.cell? ⟨ga, 1, none⟩ = some (.int .i64 (na : Int)) ∧ w'.cell? (ad1.add j) = some (.int .i64 x)) (ds := [13]) #[false, false, false, false, false, false, false, false, false, false, false, false, false, false] (by kernel_rfl) rfl rfl ⟨c1, hx1⟩ (fun hHeld => ?_); refine with_tabW rpath19.tab rpath19.bits (fun HT_ HW_ => ?_)
                  generalize W2.drew = wd at HP3 hHeld ⊢; obtain ⟨k1, k2⟩ := HP3.out.cellS (i := na) (by omega); have HP4 := Aside0.mk (HP3.out.putS (i := na) (by omega) true); obtain ⟨k3, k4⟩ := HP4.out.cellV (i := na) (by omega); have HP5 := Aside0.mk (HP4.out.putV (i := na) (by omega) x)
                  refine pure_ (i := 0) (N := some 101) (v := ?_) (a' := ?_) #[true, false, false, false, false, false, false, false, false, false, false, false, false, false] rfl rfl (any_of HT_.out (by kernel_rfl)) (fun _ _ _ h => h) (Or.inl ⟨by rfl, ?_⟩) ?_ ?_; rotate_left; intro w'; go_simp; with_reducible rfl; rotate_left; simp only [Act.put, List.setIfInBounds_toArray, List.set_cons_zero, List.set_cons_succ, i64_w, i32_w]; rfl
                  refine pure_ (i := 1) (N := some 102) (v := ?_) (a' := ?_) #[true, true, false, false, false, false, false, false, false, false, false, false, false, false] rfl rfl (any_of HT_.out (by kernel_rfl)) (fun _ _ _ h => h) (Or.inl ⟨by rfl, ?_⟩) ?_ ?_; rotate_left; intro w'; go_simp; with_reducible rfl; rotate_left; simp only [Act.put, List.setIfInBounds_toArray, List.set_cons_zero, List.set_cons_succ, i64_w, i32_w]; rfl
                  refine pure_ (i := 3) (N := some 104) (v := ?_) (a' := ?_) #[true, true, false, true, false, false, false, false, false, false, false, false, false, false] rfl rfl (any_of HT_.out (by kernel_rfl)) (fun _ _ _ h => h) (Or.inl ⟨by rfl, ?_⟩) ?_ ?_; rotate_left; intro w'; go_simp; with_reducible rfl; rotate_left; simp only [Act.put, List.setIfInBounds_toArray, List.set_cons_zero, List.set_cons_succ, i64_w, i32_w]; rfl
                  refine pure_ (i := 4) (N := some 105) (v := ?_) (a' := ?_) #[true, true, false, true, true, false, false, false, false, false, false, false, false, false] rfl rfl (any_of HT_.out (by kernel_rfl)) (fun _ _ _ h => h) (Or.inl ⟨by rfl, ?_⟩) ?_ ?_; rotate_left; intro w'; go_simp; with_reducible rfl; rotate_left; simp only [Act.put, List.setIfInBounds_toArray, List.set_cons_zero, List.set_cons_succ, i64_w, i32_w]; rfl
                  refine pure_ (i := 6) (N := some 107) (v := ?_) (a' := ?_) #[true, true, false, true, true, false, true, false, false, false, false, false, false, false] rfl rfl (any_of HT_.out (by kernel_rfl)) (fun _ _ _ h => h) (Or.inl ⟨by rfl, ?_⟩) ?_ ?_; rotate_left; intro w'; go_simp; with_reducible rfl; rotate_left; simp only [Act.put, List.setIfInBounds_toArray, List.set_cons_zero, List.set_cons_succ, i64_w, i32_w]; rfl
                  refine pure_ (i := 7) (N := some 108) (v := ?_) (a' := ?_) #[true, true, false, true, true, false, true, true, false, false, false, false, false, false] rfl rfl (any_of HT_.out (by kernel_rfl)) (fun _ _ _ h => h) (Or.inl ⟨by rfl, ?_⟩) ?_ ?_; rotate_left; intro w'; go_simp; with_reducible rfl; rotate_left; simp only [Act.put, List.setIfInBounds_toArray, List.set_cons_zero, List.set_cons_succ, i64_w, i32_w]; rfl
                  refine pure_ (i := 8) (N := some 109) (v := ?_) (a' := ?_) #[true, true, false, true, true, false, true, true, true, false, false, false, false, false] rfl rfl (any_of HT_.out (by kernel_rfl)) (fun _ _ _ h => h) (Or.inl ⟨by rfl, ?_⟩) ?_ ?_; rotate_left; intro w'; go_simp; with_reducible rfl; rotate_left; simp only [Act.put, List.setIfInBounds_toArray, List.set_cons_zero, List.set_cons_succ, i64_w, i32_w]; rfl
                  refine take_ (i := 2) (N := some 103) (v := ?_) (a' := ?_) #[true, true, true, true, true, false, true, true, true, false, false, false, false, false] rfl rfl (take_ofW HT_.out HW_.out (by kernel_rfl)) (fun _ _ _ h => h) (Or.inl ⟨by rfl, ?_⟩) hHeld ?_ ?_; rotate_left; rintro w' ⟨s0, s1⟩; go_simp; with_reducible rfl; rotate_left; simp only [Act.put, List.setIfInBounds_toArray, List.set_cons_zero, List.set_cons_succ, i64_w, i32_w]; rfl
                  refine take_ (i := 5) (N := some 106) (v := ?_) (a' := ?_) #[true, true, true, true, true, true, true, true, true, false, false, false, false, false] rfl rfl (take_ofW HT_.out HW_.out (by kernel_rfl)) (fun _ _ _ h => h) (Or.inl ⟨by rfl, ?_⟩) hHeld ?_ ?_; rotate_left; rintro w' ⟨s0, s1⟩; go_simp; with_reducible rfl; rotate_left; simp only [Act.put, List.setIfInBounds_toArray, List.set_cons_zero, List.set_cons_succ, i64_w, i32_w]; rfl
                  refine take_ (i := 9) (N := some 110) (v := ?_) (a' := ?_) #[true, true, true, true, true, true, true, true, true, true, false, false, false, false] rfl rfl (take_ofW HT_.out HW_.out (by kernel_rfl)) (fun _ _ _ h => h) (Or.inl ⟨by rfl, ?_⟩) hHeld ?_ ?_; rotate_left; rintro w' ⟨s0, s1⟩; go_simp; with_reducible rfl; rotate_left; simp only [Act.put, List.setIfInBounds_toArray, List.set_cons_zero, List.set_cons_succ, i64_w, i32_w]; rfl
                  refine pure_ (i := 10) (N := some 111) (v := ?_) (a' := ?_) #[true, true, true, true, true, true, true, true, true, true, true, false, false, false] rfl rfl (any_of HT_.out (by kernel_rfl)) (fun _ _ _ h => h) (Or.inl ⟨by rfl, ?_⟩) ?_ ?_; rotate_left; intro w'; go_simp; with_reducible rfl; rotate_left; simp only [Act.put, List.setIfInBounds_toArray, List.set_cons_zero, List.set_cons_succ, i64_w, i32_w]; rfl
                  refine one_ (i := 11) (N := none) #[true, true, true, true, true, true, true, true, true, true, true, true, false, false] rfl rfl (one_of HT_.out (by kernel_rfl)) (by decide) (fun K hK => ?_)
                  refine skip_ (w1 := ?_) (by rfl) rfl ?_ ?_; rotate_left; go_simp; rfl
                  refine hK.out _ _ ⟨(cell_far (p := ⟨gs, _, none⟩) hag _).trans hHeld.1, (cell_far (p := ⟨gs, _, none⟩) (by rw [add_block]; exact htg) _).trans hHeld.2⟩ (fun hHeld => ?_)
                  clear hK K
                  refine pure_ (i := 12) (N := some 112) (v := ?_) (a' := ?_) #[true, true, true, true, true, true, true, true, true, true, true, true, true, false] rfl rfl (any_of HT_.out (by kernel_rfl)) (fun _ _ _ h => h) (Or.inl ⟨by rfl, ?_⟩) ?_ ?_; rotate_left; intro w'; go_simp; with_reducible rfl; rotate_left; simp only [Act.put, List.setIfInBounds_toArray, List.set_cons_zero, List.set_cons_succ, i64_w, i32_w]; rfl
                  refine last_ (i := 13) (N := none) #[true, true, true, true, true, true, true, true, true, true, true, true, true, true] rfl rfl (one_of HT_.out (by kernel_rfl)) (by decide) (fun K hK => ?_)
                  refine skip_ (w1 := ?_) (by rfl) rfl ?_ ?_; rotate_left; go_simp; rfl
                  refine hK.out _ _ ?_
                  clear hK K
                  refine done_ (done_of HT_.out (by kernel_rfl)) ?_
                  go_wp2
                  go_roundw
                  case rel => exact ⟨j + 1, _, by omega, by go_num, HP5, ⟨by
                    rw [HPS.out, if_neg (by simp), if_pos (by simp)]⟩⟩
                  case measure => simp [intOf]; omega
              · cases bb
                · go_wp2_with fail
                  replace HP3 := Aside0.mk HP3.out.drew
                  refine start_ (n := 14) (S := fun w' => w'.cell? ⟨ga, 2, none⟩ = some (.int .i64 (nb : Int)) ∧ w'.cell? (ad1.add j) = some (.int .i64 x)) (ds := [13]) #[false, false, false, false, false, false, false, false, false, false, false, false, false, false] (by kernel_rfl) rfl rfl ⟨c2, hx1⟩ (fun hHeld => ?_); refine with_tabW rpath17.tab rpath17.bits (fun HT_ HW_ => ?_)
                  generalize W2.drew = wd at HP3 hHeld ⊢; obtain ⟨k1, k2⟩ := HP3.out.cellS (i := nb) (by omega); have HP4 := Aside0.mk (HP3.out.putS (i := nb) (by omega) true); obtain ⟨k3, k4⟩ := HP4.out.cellV (i := nb) (by omega); have HP5 := Aside0.mk (HP4.out.putV (i := nb) (by omega) x)
                  refine pure_ (i := 0) (N := some 76) (v := ?_) (a' := ?_) #[true, false, false, false, false, false, false, false, false, false, false, false, false, false] rfl rfl (any_of HT_.out (by kernel_rfl)) (fun _ _ _ h => h) (Or.inl ⟨by rfl, ?_⟩) ?_ ?_; rotate_left; intro w'; go_simp; with_reducible rfl; rotate_left; simp only [Act.put, List.setIfInBounds_toArray, List.set_cons_zero, List.set_cons_succ, i64_w, i32_w]; rfl
                  refine pure_ (i := 1) (N := some 77) (v := ?_) (a' := ?_) #[true, true, false, false, false, false, false, false, false, false, false, false, false, false] rfl rfl (any_of HT_.out (by kernel_rfl)) (fun _ _ _ h => h) (Or.inl ⟨by rfl, ?_⟩) ?_ ?_; rotate_left; intro w'; go_simp; with_reducible rfl; rotate_left; simp only [Act.put, List.setIfInBounds_toArray, List.set_cons_zero, List.set_cons_succ, i64_w, i32_w]; rfl
                  refine pure_ (i := 3) (N := some 79) (v := ?_) (a' := ?_) #[true, true, false, true, false, false, false, false, false, false, false, false, false, false] rfl rfl (any_of HT_.out (by kernel_rfl)) (fun _ _ _ h => h) (Or.inl ⟨by rfl, ?_⟩) ?_ ?_; rotate_left; intro w'; go_simp; with_reducible rfl; rotate_left; simp only [Act.put, List.setIfInBounds_toArray, List.set_cons_zero, List.set_cons_succ, i64_w, i32_w]; rfl
                  refine pure_ (i := 4) (N := some 80) (v := ?_) (a' := ?_) #[true, true, false, true, true, false, false, false, false, false, false, false, false, false] rfl rfl (any_of HT_.out (by kernel_rfl)) (fun _ _ _ h => h) (Or.inl ⟨by rfl, ?_⟩) ?_ ?_; rotate_left; intro w'; go_simp; with_reducible rfl; rotate_left; simp only [Act.put, List.setIfInBounds_toArray, List.set_cons_zero, List.set_cons_succ, i64_w, i32_w]; rfl
                  refine pure_ (i := 6) (N := some 82) (v := ?_) (a' := ?_) #[true, true, false, true, true, false, true, false, false, false, false, false, false, false] rfl rfl (any_of HT_.out (by kernel_rfl)) (fun _ _ _ h => h) (Or.inl ⟨by rfl, ?_⟩) ?_ ?_; rotate_left; intro w'; go_simp; with_reducible rfl; rotate_left; simp only [Act.put, List.setIfInBounds_toArray, List.set_cons_zero, List.set_cons_succ, i64_w, i32_w]; rfl
                  refine pure_ (i := 7) (N := some 83) (v := ?_) (a' := ?_) #[true, true, false, true, true, false, true, true, false, false, false, false, false, false] rfl rfl (any_of HT_.out (by kernel_rfl)) (fun _ _ _ h => h) (Or.inl ⟨by rfl, ?_⟩) ?_ ?_; rotate_left; intro w'; go_simp; with_reducible rfl; rotate_left; simp only [Act.put, List.setIfInBounds_toArray, List.set_cons_zero, List.set_cons_succ, i64_w, i32_w]; rfl
                  refine pure_ (i := 8) (N := some 84) (v := ?_) (a' := ?_) #[true, true, false, true, true, false, true, true, true, false, false, false, false, false] rfl rfl (any_of HT_.out (by kernel_rfl)) (fun _ _ _ h => h) (Or.inl ⟨by rfl, ?_⟩) ?_ ?_; rotate_left; intro w'; go_simp; with_reducible rfl; rotate_left; simp only [Act.put, List.setIfInBounds_toArray, List.set_cons_zero, List.set_cons_succ, i64_w, i32_w]; rfl
                  refine take_ (i := 2) (N := some 78) (v := ?_) (a' := ?_) #[true, true, true, true, true, false, true, true, true, false, false, false, false, false] rfl rfl (take_ofW HT_.out HW_.out (by kernel_rfl)) (fun _ _ _ h => h) (Or.inl ⟨by rfl, ?_⟩) hHeld ?_ ?_; rotate_left; rintro w' ⟨s0, s1⟩; go_simp; with_reducible rfl; rotate_left; simp only [Act.put, List.setIfInBounds_toArray, List.set_cons_zero, List.set_cons_succ, i64_w, i32_w]; rfl
                  refine take_ (i := 5) (N := some 81) (v := ?_) (a' := ?_) #[true, true, true, true, true, true, true, true, true, false, false, false, false, false] rfl rfl (take_ofW HT_.out HW_.out (by kernel_rfl)) (fun _ _ _ h => h) (Or.inl ⟨by rfl, ?_⟩) hHeld ?_ ?_; rotate_left; rintro w' ⟨s0, s1⟩; go_simp; with_reducible rfl; rotate_left; simp only [Act.put, List.setIfInBounds_toArray, List.set_cons_zero, List.set_cons_succ, i64_w, i32_w]; rfl
                  refine take_ (i := 9) (N := some 85) (v := ?_) (a' := ?_) #[true, true, true, true, true, true, true, true, true, true, false, false, false, false] rfl rfl (take_ofW HT_.out HW_.out (by kernel_rfl)) (fun _ _ _ h => h) (Or.inl ⟨by rfl, ?_⟩) hHeld ?_ ?_; rotate_left; rintro w' ⟨s0, s1⟩; go_simp; with_reducible rfl; rotate_left; simp only [Act.put, List.setIfInBounds_toArray, List.set_cons_zero, List.set_cons_succ, i64_w, i32_w]; rfl
                  refine pure_ (i := 10) (N := some 86) (v := ?_) (a' := ?_) #[true, true, true, true, true, true, true, true, true, true, true, false, false, false] rfl rfl (any_of HT_.out (by kernel_rfl)) (fun _ _ _ h => h) (Or.inl ⟨by rfl, ?_⟩) ?_ ?_; rotate_left; intro w'; go_simp; with_reducible rfl; rotate_left; simp only [Act.put, List.setIfInBounds_toArray, List.set_cons_zero, List.set_cons_succ, i64_w, i32_w]; rfl
                  refine one_ (i := 11) (N := none) #[true, true, true, true, true, true, true, true, true, true, true, true, false, false] rfl rfl (one_of HT_.out (by kernel_rfl)) (by decide) (fun K hK => ?_)
                  refine skip_ (w1 := ?_) (by rfl) rfl ?_ ?_; rotate_left; go_simp; rfl
                  refine hK.out _ _ ⟨(cell_far (p := ⟨gs, _, none⟩) hag _).trans hHeld.1, (cell_far (p := ⟨gs, _, none⟩) (by rw [add_block]; exact htg) _).trans hHeld.2⟩ (fun hHeld => ?_)
                  clear hK K
                  refine pure_ (i := 12) (N := some 87) (v := ?_) (a' := ?_) #[true, true, true, true, true, true, true, true, true, true, true, true, true, false] rfl rfl (any_of HT_.out (by kernel_rfl)) (fun _ _ _ h => h) (Or.inl ⟨by rfl, ?_⟩) ?_ ?_; rotate_left; intro w'; go_simp; with_reducible rfl; rotate_left; simp only [Act.put, List.setIfInBounds_toArray, List.set_cons_zero, List.set_cons_succ, i64_w, i32_w]; rfl
                  refine last_ (i := 13) (N := none) #[true, true, true, true, true, true, true, true, true, true, true, true, true, true] rfl rfl (one_of HT_.out (by kernel_rfl)) (by decide) (fun K hK => ?_)
                  refine skip_ (w1 := ?_) (by rfl) rfl ?_ ?_; rotate_left; go_simp; rfl
                  refine hK.out _ _ ?_
                  clear hK K
                  refine done_ (done_of HT_.out (by kernel_rfl)) ?_
                  go_wp2
                  go_roundw
                  case rel => exact ⟨j + 1, _, by omega, by go_num, HP5, ⟨by
                    rw [HPS.out, if_pos (by simp)]⟩⟩
                  case measure => simp [intOf]; omega
                · go_wp2_with fail
                  go_wp2
                  go_roundw
                  case rel => exact ⟨j + 1, _, by omega, by go_num, HP3, ⟨by
                    rw [HPS.out, if_neg (by simp), if_neg (by simp)]⟩⟩
                  case measure => simp [intOf]; omega
            · have hend : l1.drop j = [] := List.drop_eq_nil_of_le (by omega)
              have hst : st' = pathPass l0_2 l1 st := by rw [← HS.out, hend]; rfl
              have HST2 := Aside0.mk hst
              obtain rfl : j = l1.length := by omega
              clear hst hend hj hjt HS
              go_wp2
              go_roundw
              case rel => exact ⟨r + 1, st', by omega, by go_num, HP, ⟨by
                rw [← HE.out, HST2.out, show i - r = (i - (r + 1)) + 1 by omega]; rfl⟩⟩
              case measure => simp [intOf]; omega
        · obtain rfl : r = i := by omega
          have hst : st = pathRounds l0_2 l1 r (List.replicate r (-1), (List.replicate r false).set src true) := by
            have := HE.out
            rw [Nat.sub_self] at this
            exact this
          have hh := HH.out
          rw [← hst] at hh
          clear HH hst HE hr hlt
          obtain ⟨qd, _⟩ := HP.out.cellS (i := dst) (by omega)
          cases hsd : st.2.getD dst false with
          | false =>
            rw [hsd] at qd hh
            rw [if_pos rfl] at hh
            injection hh with hh
            injection hh with e1 hh
            injection hh with e2 e3
            subst e1 e2 e3
            go_wp2
            go_ret3
            exact ⟨_, _, rfl, Kd.R_nil _ _ _ _ _, Kd.R_nil _ _ _ _ _, HP.out.bel⟩
          | true =>
            rw [hsd] at qd hh
            rw [if_neg (by simp)] at hh
            obtain ⟨rr, hpb, hrr⟩ := Option.map_eq_some_iff.1 hh
            injection hrr with e1 hrr
            injection hrr with e2 e3
            subst e3
            have HPB := Aside0.mk (show pathBack r l0_2 st.1 src (r + 1) dst [] [] = some (r1, r2) by rw [hpb, ← e1, ← e2])
            clear hpb hh e1 e2
            obtain ⟨wo, ewo⟩ : ∃ wo : World, wo = wr := ⟨_, rfl⟩
            subst ewo
            go_wp2
            clear qd q1
            go_loopg [17, 18, 19] (r + 1) (fun kq v17 v18 v19 W => ∃ (y : Nat) (ar sg : List Int) (Aa : Option Addr) (ca : Nat) (Ab : Option Addr) (cb : Nat), v17 = .slice Aa ar.length ca ∧ v18 = .slice Ab sg.length cb ∧ v19 = .int .i64 y ∧ y < r ∧ ar.length + kq ≤ r + 1 ∧ sg.length = ar.length ∧ Aside0 (PBk w #[.int .i64 a0_0, .slice A0_1 r c0_1, .slice A0_2 l0_2.length c0_2] gv cv gs cs2 w.heap.size r W st (.slice Aa ar.length ca) (.slice Ab sg.length cb) ar sg) ∧ Aside0 (pathBack r l0_2 st.1 src kq y ar sg = some (r1, r2)))
            case atStart => exact ⟨dst, [], [], none, 0, none, 0, rfl, rfl, rfl, by omega, by simp, rfl, ⟨HP.out, Kd.R_nil _ _ _ _ _, Kd.R_nil _ _ _ _ _⟩, HPB⟩
            case round =>
              clear HP HPB hsd
              obtain ⟨y, ar, sg, Aa, ca, Ab, cb, rfl, rfl, rfl, hy, hlen, hsl, HB, HE⟩ := hrel
              have HSL := Aside0.mk hsl
              clear hsl
              obtain ⟨k1, rfl⟩ : ∃ k1, gk = k1 + 1 := ⟨gk - 1, by
                cases gk with
                | zero => have := HE.out; simp [pathBack] at this
                | succ m => omega⟩
              have hpb := HE.out
              unfold pathBack at hpb
              clear HE
              by_cases hys : y = src
              · rw [if_pos hys] at hpb
                injection hpb with hpb
                injection hpb with e1 e2
                subst e1 e2 hys
                go_wp2
                go_ret3
                exact ⟨_, _, rfl, HB.out.ra, HB.out.rb, HB.out.pi.bel⟩
              · rw [if_neg hys] at hpb
                obtain ⟨qv, _⟩ := HB.out.pi.cellV (i := y) hy
                generalize hxx : st.1.getD y 0 = x at hpb qv
                have HXX := Aside0.mk hxx
                clear hxx
                by_cases hfit : fitB r l0_2 x = true ∧ (fromOf l0_2 x = y ∨ toOf l0_2 x = y)
                case neg => rw [if_neg hfit] at hpb; cases hpb
                rw [if_pos hfit] at hpb
                obtain ⟨hfx, hor⟩ := hfit
                obtain ⟨f1, f2, f3, f4, f5, f6⟩ := fitB_iff hfx
                clear hfx
                obtain ⟨ad, e2, g0, g1, g2, g3, g4, g5⟩ := at_T36 (Kd.C_below HR02.out HB.out.pi.bel) x f1 (by omega)
                cases e2
                have q2 : wr.cell? ⟨w.heap.size, 2, none⟩ = some (.slice (some ad) l0_2.length c0_2) := (blk_cell HB.out.pi.nb 2).trans rfl
                have hrd : l0_2.getD x.toNat z36 = rd_T36 l0_2 x := rfl
                rw [hrd] at f3 f5
                generalize rd_T36 l0_2 x = a at *
                generalize fromOf l0_2 x = na at *
                generalize toOf l0_2 x = nb at *
                have HPD := Aside0.mk (HB.out.below (W' := wr.drew) (pw_below_drewN (Below.refl _ _) 1))
                have HPX := Aside0.mk hpb
                have HOR := Aside0.mk hor
                have hys1 : ((y : Int) == (src : Int)) = false := by rw [beq_eq_false_iff_ne]; omega
                have hys2 : ((y : Int) != (src : Int)) = true := by rw [bne_iff_ne]; omega
                clear hpb HB hor hrd hys
                go_wp2_with fail
                refine start_ (n := 10) (S := fun w' => w'.cell? ⟨w.heap.size, 2, none⟩ = some (.slice (some ad) l0_2.length c0_2) ∧ w'.cell? ⟨gv, y, none⟩ = some (.int .i64 x) ∧ w'.cell? (ad.add (x.toNat * 6)) = some (.int .i64 a.f0) ∧ w'.cell? ⟨(ad.add (x.toNat * 6)).block, (ad.add (x.toNat * 6)).off + 1, none⟩ = some (.int .i64 a.f1) ∧ w'.cell? ⟨(ad.add (x.toNat * 6)).block, (ad.add (x.toNat * 6)).off + 2, none⟩ = some (.int .i64 a.f2) ∧ w'.cell? ⟨(ad.add (x.toNat * 6)).block, (ad.add (x.toNat * 6)).off + 3, none⟩ = some (.int .i64 a.f3) ∧ w'.cell? ⟨(ad.add (x.toNat * 6)).block, (ad.add (x.toNat * 6)).off + 4, none⟩ = some (.int .i64 a.f4) ∧ w'.cell? ⟨(ad.add (x.toNat * 6)).block, (ad.add (x.toNat * 6)).off + 5, none⟩ = some (.int .i64 a.f5)) (ds := [9]) #[false, false, false, false, false, false, false, false, false, false] (by kernel_rfl) rfl rfl ⟨q2, qv, g0, g1, g2, g3, g4, g5⟩ (fun hHeld => ?_); refine with_tabW rpath25.tab rpath25.bits (fun HT_ HW_ => ?_)
                generalize wr.drew = wd at HPD hHeld ⊢
                refine pure_ (i := 0) (N := some 122) (v := ?_) (a' := ?_) #[true, false, false, false, false, false, false, false, false, false] rfl rfl (any_of HT_.out (by kernel_rfl)) (fun _ _ _ h => h) (Or.inl ⟨by rfl, ?_⟩) ?_ ?_; rotate_left; intro w'; go_simp; with_reducible rfl; rotate_left; simp only [Act.put, List.setIfInBounds_toArray, List.set_cons_zero, List.set_cons_succ, i64_w, i32_w]; rfl
                refine pure_ (i := 2) (N := some 124) (v := ?_) (a' := ?_) #[true, false, true, false, false, false, false, false, false, false] rfl rfl (any_of HT_.out (by kernel_rfl)) (fun _ _ _ h => h) (Or.inl ⟨by rfl, ?_⟩) ?_ ?_; rotate_left; intro w'; go_simp; with_reducible rfl; rotate_left; simp only [Act.put, List.setIfInBounds_toArray, List.set_cons_zero, List.set_cons_succ, i64_w, i32_w]; rfl
                refine pure_ (i := 3) (N := some 125) (v := ?_) (a' := ?_) #[true, false, true, true, false, false, false, false, false, false] rfl rfl (any_of HT_.out (by kernel_rfl)) (fun _ _ _ h => h) (Or.inl ⟨by rfl, ?_⟩) ?_ ?_; rotate_left; intro w'; go_simp; with_reducible rfl; rotate_left; simp only [Act.put, List.setIfInBounds_toArray, List.set_cons_zero, List.set_cons_succ, i64_w, i32_w]; rfl
                refine pure_ (i := 4) (N := some 126) (v := ?_) (a' := ?_) #[true, false, true, true, true, false, false, false, false, false] rfl rfl (any_of HT_.out (by kernel_rfl)) (fun _ _ _ h => h) (Or.inl ⟨by rfl, ?_⟩) ?_ ?_; rotate_left; intro w'; go_simp; with_reducible rfl; rotate_left; simp only [Act.put, List.setIfInBounds_toArray, List.set_cons_zero, List.set_cons_succ, i64_w, i32_w]; rfl
                refine take_ (i := 1) (N := some 123) (v := ?_) (a' := ?_) #[true, true, true, true, true, false, false, false, false, false] rfl rfl (take_ofW HT_.out HW_.out (by kernel_rfl)) (fun _ _ _ h => h) (Or.inl ⟨by rfl, ?_⟩) hHeld ?_ ?_; rotate_left; rintro w' ⟨s0, s1, s2, s3, s4, s5, s6, s7⟩; go_simp; with_reducible rfl; rotate_left; simp only [Act.put, List.setIfInBounds_toArray, List.set_cons_zero, List.set_cons_succ, i64_w, i32_w]; rfl
                refine take_ (i := 5) (N := some 127) (v := ?_) (a' := ?_) #[true, true, true, true, true, true, false, false, false, false] rfl rfl (take_ofW HT_.out HW_.out (by kernel_rfl)) (fun _ _ _ h => h) (Or.inl ⟨by rfl, ?_⟩) hHeld ?_ ?_; rotate_left; rintro w' ⟨s0, s1, s2, s3, s4, s5, s6, s7⟩; go_simp; with_reducible rfl; rotate_left; simp only [Act.put, List.setIfInBounds_toArray, List.set_cons_zero, List.set_cons_succ, i64_w, i32_w]; rfl
                refine pure_ (i := 6) (N := some 128) (v := ?_) (a' := ?_) #[true, true, true, true, true, true, true, false, false, false] rfl rfl (any_of HT_.out (by kernel_rfl)) (fun _ _ _ h => h) (Or.inl ⟨by rfl, ?_⟩) ?_ ?_; rotate_left; intro w'; go_simp; with_reducible rfl; rotate_left; simp only [Act.put, List.setIfInBounds_toArray, List.set_cons_zero, List.set_cons_succ, i64_w, i32_w]; rfl
                refine take_ (i := 7) (N := some 129) (v := ?_) (a' := ?_) #[true, true, true, true, true, true, true, true, false, false] rfl rfl (take_ofW HT_.out HW_.out (by kernel_rfl)) (fun _ _ _ h => h) (Or.inl ⟨by rfl, ?_⟩) hHeld ?_ ?_; rotate_left; rintro w' ⟨s0, s1, s2, s3, s4, s5, s6, s7⟩; go_simp; with_reducible rfl; rotate_left; simp only [Act.put, List.setIfInBounds_toArray, List.set_cons_zero, List.set_cons_succ, i64_w, i32_w]; rfl
                refine one_ (i := 8) (N := some 20) #[true, true, true, true, true, true, true, true, true, false] rfl rfl (one_of HT_.out (by kernel_rfl)) (by decide) (fun K hK => ?_)
                refine value_ (w1 := ?_) (v := ?_) (by rfl) rfl ?_ ?_; rotate_left 2; go_simp; constructor; rfl; rfl
                refine hK.out _ _ ⟨(World.cell?_alloc_lt _ _ _ (World.block_lt_of_cell? _ _ hHeld.1)).trans hHeld.1, (World.cell?_alloc_lt _ _ _ (World.block_lt_of_cell? _ _ hHeld.2.1)).trans hHeld.2.1, (World.cell?_alloc_lt _ _ _ (World.block_lt_of_cell? _ _ hHeld.2.2.1)).trans hHeld.2.2.1, (World.cell?_alloc_lt _ _ _ (World.block_lt_of_cell? _ _ hHeld.2.2.2.1)).trans hHeld.2.2.2.1, (World.cell?_alloc_lt _ _ _ (World.block_lt_of_cell? _ _ hHeld.2.2.2.2.1)).trans hHeld.2.2.2.2.1, (World.cell?_alloc_lt _ _ _ (World.block_lt_of_cell? _ _ hHeld.2.2.2.2.2.1)).trans hHeld.2.2.2.2.2.1, (World.cell?_alloc_lt _ _ _ (World.block_lt_of_cell? _ _ hHeld.2.2.2.2.2.2.1)).trans hHeld.2.2.2.2.2.2.1, (World.cell?_alloc_lt _ _ _ (World.block_lt_of_cell? _ _ hHeld.2.2.2.2.2.2.2)).trans hHeld.2.2.2.2.2.2.2⟩ (fun hHeld => ?_)
                clear hK K
                refine norm_ (a' := ?_) ?_ ?_; rotate_left; show Act.put _ (some 20) _ = _; simp only [Act.put, List.setIfInBounds_toArray, List.set_cons_zero, List.set_cons_succ, i64_w, i32_w]; rfl
                refine last_ (i := 9) (N := none) #[true, true, true, true, true, true, true, true, true, true] rfl rfl (one_of HT_.out (by kernel_rfl)) (by decide) (fun K hK => ?_)
                refine skip_ (w1 := ?_) (by rfl) rfl ?_ ?_; rotate_left; go_simp; rfl
                refine hK.out _ _ ?_
                clear hK K
                refine done_ (done_of HT_.out (by kernel_rfl)) ?_
                have HP2 := HPD.out.below (below_alloc (Below.refl _ _) (.cells #[.int .i64 a.f0, .int .i64 (na : Int), .int .i64 (nb : Int), .int .i64 a.f3, .int .i64 a.f4, .int .i64 a.f5] 36))
                have HGA := blk_new wd (.cells #[.int .i64 a.f0, .int .i64 (na : Int), .int .i64 (nb : Int), .int .i64 a.f3, .int .i64 a.f4, .int .i64 a.f5] 36)
                clear HPD hHeld q2 g0 g1 g2 g3 g4 g5 qv
                generalize wd.alloc (.cells #[.int .i64 a.f0, .int .i64 (na : Int), .int .i64 (nb : Int), .int .i64 a.f3, .int .i64 a.f4, .int .i64 a.f5] 36) = W2 at HP2 HGA ⊢
                generalize wd.heap.size = ga at HGA ⊢
                have HP3 := Aside0.mk HP2
                have HG3 := Aside0.mk HGA
                have c1 : W2.cell? ⟨ga, 1, none⟩ = some (.int .i64 (na : Int)) := (blk_cell HGA 1).trans rfl
                clear f3 f5 HP2 HGA
                have qv2 : W2.cell? ⟨gv, y, none⟩ = some (.int .i64 x) := by rw [← HXX.out]; exact (HP3.out.pi.cellV hy).1
                by_cases hny : na = y
                · subst hny
                  rw [if_pos rfl, if_pos rfl] at HPX
                  go_wp2_with (first | ((with_reducible refine gate_dst (N := 138) rfl ?_); refine Kd.R_lit (Kd.int .i64) (w0 := W2) W2.heap.size 3 ?hg (N := 138) ?hd (xs := [x]) (inner := [.int .i64 x]) (ok := fun _ => True) (okp := fun _ => True) ?hr ?hp (fun _ hk => hk) trivial (Below.refl _ _) (Nat.le_refl _) (by simp) ?_; (case hd => rfl); (case hg => rfl); (case hr => first | (go_simp; done) | (go_simp; rfl)); (case hp => exact Reps.one (show Kd.M (Kd.int .i64) _ _ _ x [.int .i64 x] from rfl) (Reps.none _ _)); intro v_W3 W3 h1_ h2_ _ _; have HO3 := Aside0.mk h1_; have HB3 := Aside0.mk h2_; clear h1_ h2_ c1 qv2) | ((with_reducible refine gate_builtin (b := .append) (xs := #[.tmp 138, .tmp 139]) rfl ?_); at_builtin; refine Kd.R_append_row (fun z : Int => Value.int .i64 z) 0 (w0 := W2) W2.heap.size rfl (.tmp 138) (.tmp 139) 22 3 (.int .i64 0) 8 rfl Try.underlying22 info3 rfl (by omega) v_W3 [x] ar Aa ar.length ca (fun _ => True) rfl rfl (fun _ _ => trivial) HO3.out ?aR HB3.out HB3.out.size ?aL ?_; (case aR => exact (Kd.R_reads' (Kd.R_below HP3.out.ra HB3.out)).2.2); (case aL => have := HSL.out; simp; omega); intro v_ W4 h1_ h2_ _ _; obtain ⟨Ac, cc, ev_⟩ := Kd.R_slice h1_; subst ev_; have HP4 := Aside0.mk (HP3.out.setA h2_ h1_); have HG4 := Aside0.mk (blk_below HG3.out h2_); clear h1_ h2_) | ((with_reducible refine gate_dst (N := 142) rfl ?_); refine Kd.R_lit (Kd.int .i64) (w0 := W4) W4.heap.size 3 ?hg (N := 142) ?hd (xs := [(-1)]) (inner := [.int .i64 (-1)]) (ok := fun _ => True) (okp := fun _ => True) ?hr ?hp (fun _ hk => hk) trivial (Below.refl _ _) (Nat.le_refl _) (by simp) ?_; (case hd => rfl); (case hg => rfl); (case hr => first | (go_simp; done) | (go_simp; rfl)); (case hp => exact Reps.one (show Kd.M (Kd.int .i64) _ _ _ (-1) [.int .i64 (-1)] from rfl) (Reps.none _ _)); intro v_W5 W5 h1_ h2_ _ _; have HO5 := Aside0.mk h1_; have HB5 := Aside0.mk h2_; clear h1_ h2_) | ((with_reducible refine gate_builtin (b := .append) (xs := #[.tmp 142, .tmp 143]) rfl ?_); at_builtin; refine Kd.R_append_row (fun z : Int => Value.int .i64 z) 0 (w0 := W4) W4.heap.size rfl (.tmp 142) (.tmp 143) 22 3 (.int .i64 0) 8 rfl Try.underlying22 info3 rfl (by omega) v_W5 [(-1)] sg Ab sg.length cb (fun _ => True) rfl rfl (fun _ _ => trivial) HO5.out ?aR HB5.out HB5.out.size ?aL ?_; (case aR => exact (Kd.R_reads' (Kd.R_below HP4.out.rb HB5.out)).2.2); (case aL => have := HSL.out; simp; omega); intro v_ W6 h1_ h2_ _ _; obtain ⟨Ad, cd, ev_⟩ := Kd.R_slice h1_; subst ev_; have HP6 := Aside0.mk (HP4.out.setB h2_ h1_); have HG6 := blk_below HG4.out h2_; have d1 := (blk_cell HG6 1).trans rfl; have d2 := (blk_cell HG6 2).trans rfl; clear h1_ h2_ HG6))
                  go_roundg k1
                  case rel => exact ⟨nb, x :: ar, (-1) :: sg, Ac, cc, Ad, cd, rfl, rfl, by go_num, by omega, by simp; omega, by have := HSL.out; simp; omega, HP6, ⟨by first | exact HPX.out | (rw [← HPX.out]; simp)⟩⟩
                  case measure => omega
                · have hor2 : nb = y := by rcases HOR.out with h | h; exact absurd h hny; exact h
                  subst hor2
                  rw [if_neg hny, if_neg hny] at HPX
                  have hn1 : ((na : Int) == (nb : Int)) = false := by rw [beq_eq_false_iff_ne]; omega
                  have hn2 : (na == nb) = false := by rw [beq_eq_false_iff_ne]; exact hny
                  clear hny HOR
                  go_wp2_with (first | ((with_reducible refine gate_dst (N := 138) rfl ?_); refine Kd.R_lit (Kd.int .i64) (w0 := W2) W2.heap.size 3 ?hg (N := 138) ?hd (xs := [x]) (inner := [.int .i64 x]) (ok := fun _ => True) (okp := fun _ => True) ?hr ?hp (fun _ hk => hk) trivial (Below.refl _ _) (Nat.le_refl _) (by simp) ?_; (case hd => rfl); (case hg => rfl); (case hr => first | (go_simp; done) | (go_simp; rfl)); (case hp => exact Reps.one (show Kd.M (Kd.int .i64) _ _ _ x [.int .i64 x] from rfl) (Reps.none _ _)); intro v_W3 W3 h1_ h2_ _ _; have HO3 := Aside0.mk h1_; have HB3 := Aside0.mk h2_; clear h1_ h2_ c1 qv2) | ((with_reducible refine gate_builtin (b := .append) (xs := #[.tmp 138, .tmp 139]) rfl ?_); at_builtin; refine Kd.R_append_row (fun z : Int => Value.int .i64 z) 0 (w0 := W2) W2.heap.size rfl (.tmp 138) (.tmp 139) 22 3 (.int .i64 0) 8 rfl Try.underlying22 info3 rfl (by omega) v_W3 [x] ar Aa ar.length ca (fun _ => True) rfl rfl (fun _ _ => trivial) HO3.out ?aR HB3.out HB3.out.size ?aL ?_; (case aR => exact (Kd.R_reads' (Kd.R_below HP3.out.ra HB3.out)).2.2); (case aL => have := HSL.out; simp; omega); intro v_ W4 h1_ h2_ _ _; obtain ⟨Ac, cc, ev_⟩ := Kd.R_slice h1_; subst ev_; have HP4 := Aside0.mk (HP3.out.setA h2_ h1_); have HG4 := Aside0.mk (blk_below HG3.out h2_); clear h1_ h2_) | ((with_reducible refine gate_dst (N := 142) rfl ?_); refine Kd.R_lit (Kd.int .i64) (w0 := W4) W4.heap.size 3 ?hg (N := 142) ?hd (xs := [1]) (inner := [.int .i64 1]) (ok := fun _ => True) (okp := fun _ => True) ?hr ?hp (fun _ hk => hk) trivial (Below.refl _ _) (Nat.le_refl _) (by simp) ?_; (case hd => rfl); (case hg => rfl); (case hr => first | (go_simp; done) | (go_simp; rfl)); (case hp => exact Reps.one (show Kd.M (Kd.int .i64) _ _ _ 1 [.int .i64 1] from rfl) (Reps.none _ _)); intro v_W5 W5 h1_ h2_ _ _; have HO5 := Aside0.mk h1_; have HB5 := Aside0.mk h2_; clear h1_ h2_) | ((with_reducible refine gate_builtin (b := .append) (xs := #[.tmp 142, .tmp 143]) rfl ?_); at_builtin; refine Kd.R_append_row (fun z : Int => Value.int .i64 z) 0 (w0 := W4) W4.heap.size rfl (.tmp 142) (.tmp 143) 22 3 (.int .i64 0) 8 rfl Try.underlying22 info3 rfl (by omega) v_W5 [1] sg Ab sg.length cb (fun _ => True) rfl rfl (fun _ _ => trivial) HO5.out ?aR HB5.out HB5.out.size ?aL ?_; (case aR => exact (Kd.R_reads' (Kd.R_below HP4.out.rb HB5.out)).2.2); (case aL => have := HSL.out; simp; omega); intro v_ W6 h1_ h2_ _ _; obtain ⟨Ad, cd, ev_⟩ := Kd.R_slice h1_; subst ev_; have HP6 := Aside0.mk (HP4.out.setB h2_ h1_); have HG6 := blk_below HG4.out h2_; have d1 := (blk_cell HG6 1).trans rfl; have d2 := (blk_cell HG6 2).trans rfl; clear h1_ h2_ HG6))
                  go_roundg k1
                  case rel => exact ⟨na, x :: ar, 1 :: sg, Ac, cc, Ad, cd, rfl, rfl, by go_num, by omega, by simp; omega, by have := HSL.out; simp; omega, HP6, ⟨by first | exact HPX.out | (rw [← HPX.out]; simp)⟩⟩
                  case measure => omega
end Go.Proofs.Ytbkjplomoegbdaa.PB
