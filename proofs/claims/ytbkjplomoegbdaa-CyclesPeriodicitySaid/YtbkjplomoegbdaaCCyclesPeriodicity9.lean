/- Parts of the proof of CyclesPeriodicity, gathered by a program of this claim out of texts that it or the kit's print wrote: lemmas alone, no condition of their own. -/
import Derived.Test.YtbkjplomoegbdaaCCyclesPeriodicity6
import Derived.Test.YtbkjplomoegbdaaCCyclesPeriodicity8
import Derived.Deep.RegionHeld3
import Derived.StillTailTactics
section
namespace Go.Proofs.Ytbkjplomoegbdaa.PB
open Go.RowKit Go.Proofs.Ytbkjplomoegbdaa.UF Go.Proofs.YtbkjplomoegbdaaW.PrintWords Go.Proofs.YtbkjplomoegbdaaW.PrintLast Go.Proofs.YtbkjplomoegbdaaW.PrintMore
set_option linter.unusedVariables false
set_option linter.unusedSimpArgs false
theorem find_call (v : Value) (g : List Int) (i : Nat) (w0 w : World) (ok : Nat → Prop) (hB : Below w0.heap.size w0 w) (ho : Kd.R (Kd.int .i64) 3 w w0.heap.size ok v g) (hw : WF g) (hi : i < g.length) :
    Calls Try.prog 132 #[v, .int .i64 (i : Int)] w fun e w' => ∃ g', e = .returned (.int .i64 (root g i : Nat)) ∧ Kd.R (Kd.int .i64) 3 w' w0.heap.size ok v g' ∧ Below w0.heap.size w0 w' ∧ Kept w w' (fun k => some k = v.ownBlock) ∧ WF g' ∧ g'.length = g.length ∧ ∀ j, j < g.length → root g' j = root g j := by
  obtain ⟨g', hev, h1, h2, h3⟩ := find_ev i g hw hi
  obtain ⟨k, hk⟩ := hev.rounds
  refine (cycles_groups_find.calls k (fun k => some k = v.ownBlock) v g (i : Int) _ g' w0 w hB (Kd.R_tight rfl ho) hk).mono ?_
  rintro e w' ⟨rfl, a, b, c⟩
  exact ⟨g', rfl, Kd.R_reok rfl a ho.1, b, c, h1, h2, h3⟩
def Hold (w0 w : World) (v : Value) (g : List Int) (bg : Nat) (W : World) : Prop :=
  ∃ g', Kd.R (Kd.int .i64) 3 W w0.heap.size (fun k => k ≠ bg) v g' ∧ Below w0.heap.size w0 W ∧ Kept w W (fun k => some k = v.ownBlock) ∧ WF g' ∧ g'.length = g.length ∧ ∀ j, j < g.length → root g' j = root g j
theorem Hold.drewN {w0 w : World} {v : Value} {g : List Int} {bg : Nat} {W : World} (h : Hold w0 w v g bg W) (n : Nat) : Hold w0 w v g bg (W.drewN n) := by
  obtain ⟨g', a, b, c, d⟩ := h
  exact ⟨g', Kd.R_drewN a n, pw_below_drewN b n, c.drewN n, d⟩
theorem Hold.drew {w0 w : World} {v : Value} {g : List Int} {bg : Nat} {W : World} (h : Hold w0 w v g bg W) : Hold w0 w v g bg W.drew := h.drewN 1
theorem Hold.find {w0 w : World} {v : Value} {g : List Int} {bg : Nat} {W : World} (h : Hold w0 w v g bg W) (i : Nat) (hi : i < g.length) (S : World → Prop) (hS : ∀ W', Kept W W' (fun k => some k = v.ownBlock) → S W') :
    Calls Try.prog 132 #[v, .int .i64 (i : Int)] W fun e w' => e = .returned (.int .i64 (root g i : Nat)) ∧ S w' ∧ Hold w0 w v g bg w' := by
  obtain ⟨g', a, b, c, d, l, r⟩ := h
  refine (find_call v g' i w0 W _ b a d (by omega)).mono ?_
  rintro e w' ⟨g2, rfl, a2, b2, c2, d2, l2, r2⟩
  rw [r i hi]
  exact ⟨rfl, hS _ c2, g2, a2, b2, c.then_ c2 (fun k hk => .inl hk), d2, by omega, fun j hj => by rw [r2 j (by omega), r j hj]⟩
theorem kept_cell {W W' : World} {S : Nat → Prop} (h : Kept W W' S) {p : Addr} {u : Value} (hc : W.cell? p = some u) (hb : ¬ S p.block) : W'.cell? p = some u := by
  have := h.2 p.block (World.block_lt_of_cell? W p hc) hb
  simpa [World.cell?, this] using hc
theorem Hold.find3 {w0 w : World} {v : Value} {g : List Int} {bg na : Nat} {W : World} {u1 u2 u3 : Value} (h : Hold w0 w v g bg W) (i : Nat) (hi : i < g.length)
    (h1 : W.cell? ⟨bg, 0, none⟩ = some u1) (h2 : W.cell? ⟨na, 1, none⟩ = some u2) (h3 : W.cell? ⟨na, 2, none⟩ = some u3) (hb : some bg ≠ v.ownBlock) (hn : some na ≠ v.ownBlock) :
    Calls Try.prog 132 #[v, .int .i64 (i : Int)] W fun e w' => e = .returned (.int .i64 (root g i : Nat)) ∧ (w'.cell? ⟨bg, 0, none⟩ = some u1 ∧ w'.cell? ⟨na, 1, none⟩ = some u2 ∧ w'.cell? ⟨na, 2, none⟩ = some u3) ∧ Hold w0 w v g bg w' :=
  h.find i hi _ (fun W' hk => ⟨kept_cell hk h1 hb, kept_cell hk h2 hn, kept_cell hk h3 hn⟩)
set_option maxHeartbeats 1000000 in
set_option maxRecDepth 100000 in
theorem forest_lit (v : Value) (g : List Int) (x : S36) (a b : Nat) (bg : Nat) (w0 w : World) (hB : Below w0.heap.size w0 w) (hgb : w.heap[bg]? = some (.cells #[v] 130 (0, 0)))
    (ho : Kd.R (Kd.int .i64) 3 w w0.heap.size (fun k => k ≠ bg) v g) (hw : WF g) (ha : x.f1 = (a : Int)) (hb : x.f2 = (b : Int)) (hal : a < g.length) (hbl : b < g.length) :
    Calls Try.prog 139 #[.agg #[.int .i64 x.f0, .int .i64 x.f1, .int .i64 x.f2, .int .i64 x.f3, .int .i64 x.f4, .int .i64 x.f5], .pointer (some ⟨bg, 0, none⟩)] w fun e w' =>
      e = .returned (.bool ((root g a : Int) != (root g b : Int))) ∧ Hold w0 w v g bg w' := by
  have hu36 := Try.underlying36
  rw [ha, hb]
  have hlt := blk_lt hgb
  have hvb : ∀ k, v.ownBlock = some k → k ≠ bg ∧ k < w.heap.size := fun k hk => ⟨ho.1 k hk, Kd.R_lt ho k hk⟩
  have HH : ∀ o, Hold w0 w v g bg (w.alloc o) := fun o => ⟨g, Kd.R_alloc ho o, hB.alloc hB.size o, (Kept.refl w _).alloc o, hw, rfl, fun _ _ => rfl⟩
  have HA := Aside0.mk HH
  have HG := Aside0.mk hgb
  have hob : some bg ≠ v.ownBlock := fun e => (hvb bg e.symm).1 rfl
  have hon : some w.heap.size ≠ v.ownBlock := fun e => absurd (hvb _ e.symm).2 (Nat.lt_irrefl _)
  have HOB := Aside0.mk hob
  have HON := Aside0.mk hon
  clear hob hon
  clear hB hgb ho hw HH hvb
  have hc0 : ∀ o, (w.alloc o).cell? ⟨bg, 0, none⟩ = some v := fun o => (blk_cell (blk_alloc HG.out o) 0).trans rfl
  have hc1 : ∀ o, (w.alloc o).drew.cell? ⟨bg, 0, none⟩ = some v := hc0
  go_enter Try.func139, Try.ntmps139
  go_wp2_with fail
  go_region_held3 (fun W => W.cell? ⟨bg, 0, none⟩ = some v ∧ W.cell? ⟨w.heap.size, 1, none⟩ = some (.int .i64 a) ∧ W.cell? ⟨w.heap.size, 2, none⟩ = some (.int .i64 b) ∧ Hold w0 w v g bg W)
    (first | (refine ⟨hc0 _, ?_, ?_, (HA.out _).drew⟩ <;> (go_simp; done)) | exact ⟨k1, k2, k3, H1⟩ | exact ⟨k1, k2, k3, H1.drew⟩ | go_keep)
    ((go_at_call 132; first | ((with_reducible refine (Hold.find3 (na := w.heap.size) (u1 := v) (u2 := .int .i64 (a : Int)) (u3 := .int .i64 (b : Int)) (HA.out _).drew a hal (hc1 _) ?h2 ?h3 HOB.out HON.out).mono ?_); (case h2 => go_simp; done); (case h3 => go_simp; done); rintro e w1 ⟨rfl, ⟨k1, k2, k3⟩, H1⟩) | ((with_reducible refine (Hold.find3 H1 b hbl k1 k2 k3 HOB.out HON.out).mono ?_); rintro e w1 ⟨rfl, ⟨k1, k2, k3⟩, H1⟩)))
  go_wp2
  go_ret
  exact ⟨rfl, H1⟩
def labels (n : Nat) (g : List Int) : List Nat := (List.range n).map (root g)
def uni (L : List Nat) (a b : Nat) : List Nat := L.map fun x => if x = max (L.getD a 0) (L.getD b 0) then min (L.getD a 0) (L.getD b 0) else x
def forestGo (acts : List S36) : List Int → Int → List Nat → Option (List Nat)
  | [], _, L => some L
  | i :: t, last, L =>
    if i ≤ last ∨ (acts.length : Int) ≤ i then none
    else if L.getD (acts.getD i.toNat z36).f1.toNat 0 = L.getD (acts.getD i.toNat z36).f2.toNat 0 then none
    else forestGo acts t i (uni L (acts.getD i.toNat z36).f1.toNat (acts.getD i.toNat z36).f2.toNat)
def forestB (per : Int) (n : Nat) (acts : List S36) (tree : List Int) : Bool :=
  netOk per n acts && match forestGo acts tree (-1) (List.range n) with
    | none => false
    | some L => acts.all fun a => L.getD a.f1.toNat 0 == L.getD a.f2.toNat 0
def cycles_Forest.f (a0_0 : Int) (l0_1 : List (S97)) (l0_2 : List (S36)) (l1 : List Int) : Option (Bool) := some (forestB a0_0 l0_1.length l0_2 l1)
theorem labels_getD {n : Nat} {g : List Int} {i : Nat} (h : i < n) : (labels n g).getD i 0 = root g i := by
  unfold labels
  simp [List.getD_eq_getElem?_getD, h]
theorem labels_idn (n : Nat) : labels n (idn n) = List.range n := by
  unfold labels
  refine List.ext_getElem (by simp) fun j h1 h2 => ?_
  simp at h1
  simp [idn_root n j h1]
theorem labels_join {n : Nat} {g g' : List Int} {a b : Nat} (ha : a < n) (hb : b < n) (h : ∀ j, j < n → root g' j = if root g j = max (root g a) (root g b) then min (root g a) (root g b) else root g j) : labels n g' = uni (labels n g) a b := by
  unfold uni
  rw [labels_getD ha, labels_getD hb]
  unfold labels
  rw [List.map_map]
  refine List.map_congr_left fun j hj => ?_
  rw [h j (by simpa using hj)]
  rfl
theorem netOk_ends {per : Int} {n : Nat} {acts : List S36} (h : netOk per n acts = true) {x : S36} (hx : x ∈ acts) : (0 ≤ x.f1 ∧ x.f1.toNat < n) ∧ (0 ≤ x.f2 ∧ x.f2.toNat < n) := by
  simp only [netOk, Bool.and_eq_true, Bool.not_eq_true', List.any_eq_false] at h
  have := h.2 x hx
  simp [badAct] at this
  omega
theorem merge_call (v : Value) (g : List Int) (i k : Nat) (w0 w : World) (ok : Nat → Prop) (hB : Below w0.heap.size w0 w) (ho : Kd.R (Kd.int .i64) 3 w w0.heap.size ok v g) (hw : WF g) (hi : i < g.length) (hk : k < g.length) :
    Calls Try.prog 131 #[v, .int .i64 (i : Int), .int .i64 (k : Int)] w fun e w' => ∃ g', e = .returned (.bool ((root g i : Int) != (root g k : Int))) ∧ Kd.R (Kd.int .i64) 3 w' w0.heap.size ok v g' ∧ Below w0.heap.size w0 w' ∧ Kept w w' (fun k => some k = v.ownBlock) ∧ WF g' ∧ g'.length = g.length ∧
      ∀ j, j < g.length → root g' j = if root g j = max (root g i) (root g k) then min (root g i) (root g k) else root g j := by
  obtain ⟨g', hev, h1, h2, h3⟩ := merge_ev g hw i k hi hk
  obtain ⟨m, hm⟩ := hev.rounds
  refine (cycles_groups_merge.calls m (fun k => some k = v.ownBlock) v g (i : Int) (k : Int) _ g' w0 w hB (Kd.R_tight rfl ho) hm).mono ?_
  rintro e w' ⟨rfl, a, b, c⟩
  exact ⟨g', rfl, Kd.R_reok rfl a ho.1, b, c, h1, h2, h3⟩
structure FI (w0 : World) (cs : Array Value) (v : Value) (bn bg n : Nat) (W : World) (g : List Int) : Prop where
  nb : W.heap[bn]? = some (.cells cs 26 (0, 0))
  gb : W.heap[bg]? = some (.cells #[v] 130 (0, 0))
  row : Kd.R (Kd.int .i64) 3 W w0.heap.size (fun k => k ≠ bn ∧ k ≠ bg) v g
  bel : Below w0.heap.size w0 W
  wf : WF g
  len : g.length = n
namespace FI
variable {w0 : World} {cs : Array Value} {v : Value} {bn bg n : Nat} {W : World} {g : List Int}
theorem drewN (h : FI w0 cs v bn bg n W g) (m : Nat) : FI w0 cs v bn bg n (W.drewN m) g := ⟨h.nb, h.gb, Kd.R_drewN h.row m, pw_below_drewN h.bel m, h.wf, h.len⟩
theorem drew (h : FI w0 cs v bn bg n W g) : FI w0 cs v bn bg n W.drew g := h.drewN 1
theorem own_ne (h : FI w0 cs v bn bg n W g) : some bn ≠ v.ownBlock ∧ some bg ≠ v.ownBlock := ⟨fun e => (h.row.1 bn e.symm).1 rfl, fun e => (h.row.1 bg e.symm).2 rfl⟩
theorem kept {W' : World} {g' : List Int} (h : FI w0 cs v bn bg n W g) (hk : Kept W W' (fun k => some k = v.ownBlock)) (hr : Kd.R (Kd.int .i64) 3 W' w0.heap.size (fun k => k ≠ bn ∧ k ≠ bg) v g') (hb : Below w0.heap.size w0 W') (hw : WF g') (hl : g'.length = g.length) : FI w0 cs v bn bg n W' g' :=
  ⟨blk_kept h.nb hk h.own_ne.1, blk_kept h.gb hk h.own_ne.2, hr, hb, hw, hl.trans h.len⟩
theorem merge (h : FI w0 cs v bn bg n W g) (a b : Nat) (ha : a < n) (hb : b < n) (S : World → Prop) (hS : ∀ W', Kept W W' (fun k => some k = v.ownBlock) → S W') :
    Calls Try.prog 131 #[v, .int .i64 (a : Int), .int .i64 (b : Int)] W fun e w' => ∃ g', e = .returned (.bool ((root g a : Int) != (root g b : Int))) ∧ S w' ∧ FI w0 cs v bn bg n w' g' ∧ labels n g' = uni (labels n g) a b := by
  refine (merge_call v g a b w0 W _ h.bel h.row h.wf (by rw [h.len]; exact ha) (by rw [h.len]; exact hb)).mono ?_
  rintro e w' ⟨g', rfl, hr, hbl, hk, hw, hl, hj⟩
  exact ⟨g', rfl, hS _ hk, h.kept hk hr hbl hw hl, labels_join ha hb (fun j hjn => hj j (by rw [h.len]; exact hjn))⟩
theorem lit (h : FI w0 cs v bn bg n W g) (x : S36) (a b : Nat) (ha : x.f1 = (a : Int)) (hb : x.f2 = (b : Int)) (hal : a < n) (hbl : b < n) :
    Calls Try.prog 139 #[.agg #[.int .i64 x.f0, .int .i64 x.f1, .int .i64 x.f2, .int .i64 x.f3, .int .i64 x.f4, .int .i64 x.f5], .pointer (some ⟨bg, 0, none⟩)] W fun e w' =>
      e = .returned (.bool ((root g a : Int) != (root g b : Int))) ∧ ∃ g', FI w0 cs v bn bg n w' g' ∧ ∀ j, j < n → root g' j = root g j := by
  refine (forest_lit v g x a b bg w0 W h.bel h.gb (Kd.R_mono h.row (fun k hk => hk.2)) h.wf ha hb (by rw [h.len]; exact hal) (by rw [h.len]; exact hbl)).mono ?_
  rintro e w' ⟨rfl, g', hr, hB, hk, hw, hl, hj⟩
  exact ⟨rfl, g', h.kept hk (Kd.R_reok rfl hr (fun k e => h.row.1 k e)) hB hw hl, fun j hjn => hj j (by rw [h.len]; exact hjn)⟩
end FI
end Go.Proofs.Ytbkjplomoegbdaa.PB
end
section
namespace Go.Proofs.Ytbkjplomoegbdaa.PB
open Go.RowKit Go.Proofs.Ytbkjplomoegbdaa.UF Go.Proofs.YtbkjplomoegbdaaW.PrintWords Go.Proofs.YtbkjplomoegbdaaW.PrintLast Go.Proofs.YtbkjplomoegbdaaW.PrintMore
set_option linter.unusedVariables false
set_option linter.unusedSimpArgs false
set_option maxHeartbeats 2000000 in
set_option maxRecDepth 100000 in
theorem cycles_Forest.calls (a0_0 : Int) (A0_1 : Option Addr) (c0_1 : Nat) (l0_1 : List (S97)) (A0_2 : Option Addr) (c0_2 : Nat) (l0_2 : List (S36)) (A1 : Option Addr) (c1 : Nat) (l1 : List Int) (r : Bool) (w : World) (hr0_1 : Kd.C k97 w A0_1 l0_1.length l0_1) (hc0_1 : l0_1.length ≤ c0_1) (hr0_2 : Kd.C k36 w A0_2 l0_2.length l0_2) (hc0_2 : l0_2.length ≤ c0_2) (hr1 : Kd.C (Kd.int .i64) w A1 l1.length l1) (hc1 : l1.length ≤ c1) (h : cycles_Forest.f a0_0 l0_1 l0_2 l1 = some r) :
    Calls Try.prog 88 #[.agg #[.int .i64 a0_0, .slice A0_1 l0_1.length c0_1, .slice A0_2 l0_2.length c0_2], .slice A1 l1.length c1] w fun e w' => e = .returned (.bool r) ∧ Below w.heap.size w w' := by
  obtain rfl := Option.some.inj h
  clear h
  have hu26 := Try.underlying26
  have hu36 := Try.underlying36
  have HR01 := Aside0.mk hr0_1
  have HR02 := Aside0.mk hr0_2
  have HR1 := Aside0.mk hr1
  have HC01 := Aside0.mk hc0_1
  have HC02 := Aside0.mk hc0_2
  have m1 := Kd.C_max hr0_1
  have m2 := Kd.C_max hr0_2
  have m3 := Kd.C_max hr1
  clear hr0_1 hr0_2 hc0_1 hc0_2 hr1 hc1
  have EG := Aside0.mk (enters_of Try.func139 (by kernel_rfl) rfl)
  cases hok : netOk a0_0 l0_1.length l0_2 with
  | false =>
    have hres : forestB a0_0 l0_1.length l0_2 l1 = false := by simp [forestB, hok]
    have HRES := Aside0.mk hres
    have HOK := Aside0.mk hok
    clear hres hok
    go_enter Try.func88, Try.ntmps88
    go_wp2_with (go_at_call 92; refine (network_Check.calls a0_0 A0_1 c0_1 l0_1 A0_2 c0_2 l0_2 false _ ?h1 HC01.out ?h2 HC02.out (by simp [network_Check.f, HOK.out])).mono ?_; (case h1 => exact Kd.C_alloc HR01.out _); (case h2 => exact Kd.C_alloc HR02.out _); rintro e w' ⟨rfl, hb⟩)
    go_ret
    rw [HRES.out]
    exact ⟨rfl, below_step (below_alloc (Below.refl _ _) _) hb⟩
  | true =>
    have HOK := Aside0.mk hok
    have hn : l0_1.length ≤ 48 := by simp [netOk] at hok; omega
    clear hok
    obtain ⟨ka, hka⟩ := (alone_ev l0_1.length (by omega)).rounds
    have HKA := Aside0.mk hka
    clear hka
    go_enter Try.func88, Try.ntmps88
    go_wp2_with (first | (go_at_call 92; refine (network_Check.calls a0_0 A0_1 c0_1 l0_1 A0_2 c0_2 l0_2 true _ ?h1 HC01.out ?h2 HC02.out (by simp [network_Check.f, HOK.out])).mono ?_; (case h1 => exact Kd.C_alloc HR01.out _); (case h2 => exact Kd.C_alloc HR02.out _); rintro e w1 ⟨rfl, hb⟩; have hnb := blk_below (blk_new w (.cells #[.int .i64 a0_0, .slice A0_1 l0_1.length c0_1, .slice A0_2 l0_2.length c0_2] 26)) hb; have q0 := (blk_cell hnb 0).trans rfl; have q1 := (blk_cell hnb 1).trans rfl; have q2 := (blk_cell hnb 2).trans rfl; have HNB := Aside0.mk hnb; have HB1 := Aside0.mk (below_step (below_alloc (Below.refl _ _) _) hb); clear hb hnb) | (go_at_call 130; refine (cycles_alone.calls ka (l0_1.length : Int) (idn l0_1.length) _ HKA.out).mono ?_; rintro e w2 ⟨v, rfl, hrow, hb⟩; obtain ⟨Av, cv, ev⟩ := Kd.R_slice hrow; rw [idn_length] at ev; subst ev; have hnb := blk_below HNB.out hb; have HR := Aside0.mk hrow; have HS1 := Aside0.mk (blk_lt HNB.out); clear q0 q1 q2 HNB hrow; have q0 := (blk_cell hnb 0).trans rfl; have q1 := (blk_cell hnb 1).trans rfl; have q2 := (blk_cell hnb 2).trans rfl; have HNB := Aside0.mk hnb; have HB2 := Aside0.mk (below_step HB1.out hb); have HS2 := Aside0.mk hb.size; clear hb hnb HB1))
    have hFI : FI w #[.int .i64 a0_0, .slice A0_1 l0_1.length c0_1, .slice A0_2 l0_2.length c0_2] (.slice Av l0_1.length cv) w.heap.size w2.heap.size l0_1.length (w2.alloc (.cells #[.slice Av l0_1.length cv] 130)) (idn l0_1.length) :=
      ⟨blk_alloc HNB.out _, blk_new _ _, Kd.R_alloc (Kd.R_mono (Kd.R_lower (Kd.R_bound HR.out) (Nat.le_of_lt HS1.out)) (fun k hk => ⟨by have := HS1.out; omega, by omega⟩)) _, below_alloc HB2.out _, idn_WF _, idn_length _⟩
    clear q0 q1 q2
    generalize w2.heap.size = bg at hFI ⊢
    generalize w2.alloc (.cells #[.slice Av l0_1.length cv] 130) = W0 at hFI ⊢
    have HF0 := Aside0.mk hFI
    clear hFI HR HNB HB2 HS1 HS2 HKA
    go_loopw [6, 18] (fun v6 v18 W => ∃ (i : Nat) (last : Int) (g : List Int), i ≤ l1.length ∧ v18 = .int .i64 i ∧ v6 = .int .i64 last ∧ -1 ≤ last ∧ Aside0 (FI w #[.int .i64 a0_0, .slice A0_1 l0_1.length c0_1, .slice A0_2 l0_2.length c0_2] (.slice Av l0_1.length cv) w.heap.size bg l0_1.length W g) ∧ Aside0 (forestGo l0_2 l1 (-1) (List.range l0_1.length) = forestGo l0_2 (l1.drop i) last (labels l0_1.length g))) (fun _ v18 _ => l1.length - (intOf v18).toNat)
    case atStart => exact ⟨0, -1, idn l0_1.length, Nat.zero_le _, rfl, rfl, Int.le_refl _, HF0, ⟨by rw [labels_idn]; rfl⟩⟩
    case round =>
      obtain ⟨i, last, g, hi, rfl, rfl, hlast, HF, HE⟩ := hrel
      clear HF0
      by_cases hlt : i < l1.length
      · have hdrop : l1.drop i = rd l1 i :: l1.drop (i + 1) := by
          rw [List.drop_eq_getElem_cons hlt]; simp [rd, List.getD_eq_getElem?_getD, hlt]
        obtain ⟨ad1, e1, hx1⟩ := Kd.at_int (Kd.C_below HR1.out HF.out.bel) (i : Int) (by omega) (by omega)
        cases e1
        rw [Int.toNat_natCast] at hx1
        have q0 : wr.cell? ⟨w.heap.size, 0, none⟩ = some (.int .i64 a0_0) := (blk_cell HF.out.nb 0).trans rfl
        have q1 : wr.cell? ⟨w.heap.size, 1, none⟩ = some (.slice A0_1 l0_1.length c0_1) := (blk_cell HF.out.nb 1).trans rfl
        have q2 : wr.cell? ⟨w.heap.size, 2, none⟩ = some (.slice A0_2 l0_2.length c0_2) := (blk_cell HF.out.nb 2).trans rfl
        have q3 : wr.cell? ⟨bg, 0, none⟩ = some (.slice Av l0_1.length cv) := (blk_cell HF.out.gb 0).trans rfl
        have HD := Aside0.mk hdrop
        clear hdrop
        generalize hx : rd l1 i = x at hx1 HD
        clear hx
        by_cases h1 : x ≤ last
        · have h1b : decide (x ≤ last) = true := decide_eq_true h1
          have hres : forestB a0_0 l0_1.length l0_2 l1 = false := by
            unfold forestB
            rw [HE.out, HD.out]
            simp only [forestGo]
            rw [if_pos (.inl h1)]
            simp
          have HRES := Aside0.mk hres
          clear hres
          go_wp2_with fail
          go_quiet (fail)
          go_wp2
          go_ret
          rw [HRES.out]
          exact ⟨rfl, pw_below_drewN HF.out.bel _⟩
        · have h1b : decide (x ≤ last) = false := decide_eq_false h1
          have hx0 : 0 ≤ x := by omega
          by_cases h2 : (l0_2.length : Int) ≤ x
          · have h2b : decide ((l0_2.length : Int) ≤ x) = true := decide_eq_true h2
            have hres : forestB a0_0 l0_1.length l0_2 l1 = false := by
              unfold forestB
              rw [HE.out, HD.out]
              simp only [forestGo]
              rw [if_pos (.inr h2)]
              simp
            have HRES := Aside0.mk hres
            clear hres
            go_wp2_with fail
            go_quiet (fail)
            go_wp2
            go_ret
            rw [HRES.out]
            exact ⟨rfl, pw_below_drewN HF.out.bel _⟩
          · have h2b : decide ((l0_2.length : Int) ≤ x) = false := decide_eq_false h2
            have hmem : l0_2.getD x.toNat z36 ∈ l0_2 := getD_mem (by omega)
            obtain ⟨⟨n1, n2⟩, n3, n4⟩ := netOk_ends HOK.out hmem
            obtain ⟨ad, e, g0, g1, g2, g3, g4, g5⟩ := at_T36 (Kd.C_below HR02.out HF.out.bel) x hx0 (by omega)
            cases e
            have hadl : ad.block < w.heap.size := Kd.C_lt HR02.out (by omega) (by decide)
            have ea : (rd_T36 l0_2 x).f1 = (((l0_2.getD x.toNat z36).f1.toNat : Nat) : Int) := by unfold rd_T36; omega
            have eb : (rd_T36 l0_2 x).f2 = (((l0_2.getD x.toNat z36).f2.toNat : Nat) : Int) := by unfold rd_T36; omega
            rw [ea] at g1
            rw [eb] at g2
            clear ea eb g0 g3 g4 g5
            generalize hA : (l0_2.getD x.toNat z36).f1.toNat = na at g1 n2
            generalize hB : (l0_2.getD x.toNat z36).f2.toNat = nb at g2 n4
            have HAA := Aside0.mk hA
            have HBB := Aside0.mk hB
            clear hA hB
            have hob : ∀ k, some k = (Value.slice Av l0_1.length cv).ownBlock → w.heap.size ≤ k := fun k hk => Kd.R_base HF.out.row k hk.symm
            have hoa : ¬ some (ad.add (x.toNat * 6)).block = (Value.slice Av l0_1.length cv).ownBlock := fun h => by have := hob _ h; rw [add_block] at this; omega
            have hoc := HF.out.own_ne
            have HOA := Aside0.mk hoa
            have HOC := Aside0.mk hoc
            clear hob hoa hoc
            have hcs : ∀ W, Kept wr.drew W (fun k => some k = (Value.slice Av l0_1.length cv).ownBlock) → W.cell? ⟨bg, 0, none⟩ = some (.slice Av l0_1.length cv) ∧ W.cell? ⟨w.heap.size, 2, none⟩ = some (.slice (some ad) l0_2.length c0_2) ∧ W.cell? ⟨(ad.add (x.toNat * 6)).block, (ad.add (x.toNat * 6)).off + 1, none⟩ = some (.int .i64 (na : Int)) ∧ W.cell? ⟨(ad.add (x.toNat * 6)).block, (ad.add (x.toNat * 6)).off + 2, none⟩ = some (.int .i64 (nb : Int)) := fun W hk => ⟨kept_cell hk q3 HOC.out.2, kept_cell hk q2 HOC.out.1, kept_cell hk g1 HOA.out, kept_cell hk g2 HOA.out⟩
            have HCS := Aside0.mk hcs
            have HME := Aside0.mk (FI.merge HF.out.drew na nb n2 n4 (fun W => W.cell? ⟨bg, 0, none⟩ = some (.slice Av l0_1.length cv) ∧ W.cell? ⟨w.heap.size, 2, none⟩ = some (.slice (some ad) l0_2.length c0_2) ∧ W.cell? ⟨(ad.add (x.toNat * 6)).block, (ad.add (x.toNat * 6)).off + 1, none⟩ = some (.int .i64 (na : Int)) ∧ W.cell? ⟨(ad.add (x.toNat * 6)).block, (ad.add (x.toNat * 6)).off + 2, none⟩ = some (.int .i64 (nb : Int))) HCS.out)
            clear hcs
            go_wp2_with fail
            go_region_held3 (fun W => W.cell? ⟨bg, 0, none⟩ = some (.slice Av l0_1.length cv) ∧ W.cell? ⟨w.heap.size, 2, none⟩ = some (.slice (some ad) l0_2.length c0_2) ∧ W.cell? ⟨(ad.add (x.toNat * 6)).block, (ad.add (x.toNat * 6)).off + 1, none⟩ = some (.int .i64 (na : Int)) ∧ W.cell? ⟨(ad.add (x.toNat * 6)).block, (ad.add (x.toNat * 6)).off + 2, none⟩ = some (.int .i64 (nb : Int)))
              (first | exact ⟨q3, q2, g1, g2⟩ | exact k0 | go_keep)
              ((go_at_call 131; (with_reducible refine HME.out.mono ?_); rintro e w1 ⟨g', rfl, k0, H1, HL⟩))
            have hgo : forestGo l0_2 (x :: l1.drop (i + 1)) last (labels l0_1.length g) = if root g na = root g nb then none else forestGo l0_2 (l1.drop (i + 1)) x (uni (labels l0_1.length g) na nb) := by
              simp only [forestGo]
              rw [if_neg (by omega), HAA.out, HBB.out, labels_getD n2, labels_getD n4]
            have HGO := Aside0.mk hgo
            clear hgo HCS HME HOA HOC HAA HBB
            cases hbv : ((root g na : Int) != (root g nb : Int)) with
            | false =>
              have hres : forestB a0_0 l0_1.length l0_2 l1 = false := by
                have he : root g na = root g nb := by have := hbv; simp at this; omega
                unfold forestB
                rw [HE.out, HD.out, HGO.out, if_pos he]
                simp
              have HRES := Aside0.mk hres
              clear hres
              go_wp2
              go_ret
              rw [HRES.out]
              exact ⟨rfl, H1.bel⟩
            | true =>
              have he : ¬ root g na = root g nb := by have := hbv; simp at this; omega
              have HNE := Aside0.mk he
              clear he
              go_wp2
              go_roundw
              case rel => exact ⟨i + 1, x, g', by omega, by go_num, rfl, by omega, ⟨H1⟩, ⟨by rw [HE.out, HD.out, HGO.out, if_neg HNE.out, HL]⟩⟩
              case measure => simp [intOf]; omega
      · have hend : l1.drop i = [] := List.drop_eq_nil_of_le (by omega)
        have hres : forestB a0_0 l0_1.length l0_2 l1 = !(l0_2.any fun x => (root g x.f1.toNat : Int) != (root g x.f2.toNat : Int)) := by
          unfold forestB
          rw [HE.out, hend, HOK.out]
          simp only [forestGo, Bool.true_and]
          rw [List.not_any_eq_all_not]
          have hall : ∀ a ∈ l0_2, ((labels l0_1.length g).getD a.f1.toNat 0 == (labels l0_1.length g).getD a.f2.toNat 0) = !((root g a.f1.toNat : Int) != (root g a.f2.toNat : Int)) := by
            intro a ha
            obtain ⟨⟨_, n2⟩, _, n4⟩ := netOk_ends HOK.out ha
            rw [labels_getD n2, labels_getD n4, Bool.eq_iff_iff]
            simp
            omega
          rw [Bool.eq_iff_iff, List.all_eq_true, List.all_eq_true]
          exact ⟨fun h a ha => by rw [← hall a ha]; exact h a ha, fun h a ha => by rw [hall a ha]; exact h a ha⟩
        have HRES := Aside0.mk hres
        clear hres
        have q0 : wr.cell? ⟨w.heap.size, 0, none⟩ = some (.int .i64 a0_0) := (blk_cell HF.out.nb 0).trans rfl
        have q1 : wr.cell? ⟨w.heap.size, 1, none⟩ = some (.slice A0_1 l0_1.length c0_1) := (blk_cell HF.out.nb 1).trans rfl
        have q2 : wr.cell? ⟨w.heap.size, 2, none⟩ = some (.slice A0_2 l0_2.length c0_2) := (blk_cell HF.out.nb 2).trans rfl
        have HANY := Aside0.mk (has36 (fun W => ∃ g', FI w #[.int .i64 a0_0, .slice A0_1 l0_1.length c0_1, .slice A0_2 l0_2.length c0_2] (.slice Av l0_1.length cv) w.heap.size bg l0_1.length W g' ∧ ∀ j, j < l0_1.length → root g' j = root g j) (fun x => (root g x.f1.toNat : Int) != (root g x.f2.toNat : Int)) 139 #[.pointer (some ⟨bg, 0, none⟩)] A0_2 c0_2 l0_2 wr ⟨g, HF.out, fun _ _ => rfl⟩ EG.out
          (fun W x hx ⟨g', hf, hj⟩ => by
            obtain ⟨⟨n1, n2⟩, n3, n4⟩ := netOk_ends HOK.out hx
            refine (hf.lit x x.f1.toNat x.f2.toNat (by omega) (by omega) n2 n4).mono ?_
            rintro e w' ⟨rfl, g2, hf2, hj2⟩
            exact ⟨by rw [hj _ n2, hj _ n4], g2, hf2, fun j hjn => by rw [hj2 j hjn, hj j hjn]⟩) (fun W ⟨g', hf, _⟩ => Kd.C_below HR02.out hf.bel))
        rw [idxOf_any] at HANY
        clear HE HF EG
        go_wp2_with (go_at_call 138; (with_reducible refine HANY.out.mono ?_); rintro e w3 ⟨rfl, g3, HF3, _⟩)
        go_ret
        rw [HRES.out]
        exact ⟨rfl, HF3.bel⟩
end Go.Proofs.Ytbkjplomoegbdaa.PB
end
