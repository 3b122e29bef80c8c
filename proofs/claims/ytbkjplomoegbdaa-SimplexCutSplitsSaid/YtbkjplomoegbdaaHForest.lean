/- The contract of cycles.Forest: the Go code returns 'forestB', for every network and list. -/
import Derived.Test.YtbkjplomoegbdaaHNetCheck
import Derived.Test.YtbkjplomoegbdaaUF
import Derived.Deep.RegionHeld3
import Derived.StillTailTactics
namespace Go.Proofs.Ytbkjplomoegbdaa.PB
open Go.RowKit Go.Proofs.Ytbkjplomoegbdaa.UF Go.Proofs.YtbkjplomoegbdaaW.PrintWords Go.Proofs.YtbkjplomoegbdaaW.PrintLast Go.Proofs.YtbkjplomoegbdaaW.PrintMore
set_option linter.unusedVariables false
set_option linter.unusedSimpArgs false

/-- A call of find, behind the row's own facts. -/
theorem find_call (v : Value) (g : List Int) (i : Nat) (w0 w : World) (ok : Nat → Prop) (hB : Below w0.heap.size w0 w) (ho : Kd.R (Kd.int .i64) 3 w w0.heap.size ok v g) (hw : WF g) (hi : i < g.length) :
    Calls Try.prog 132 #[v, .int .i64 (i : Int)] w fun e w' => ∃ g', e = .returned (.int .i64 (root g i : Nat)) ∧ Kd.R (Kd.int .i64) 3 w' w0.heap.size ok v g' ∧ Below w0.heap.size w0 w' ∧ Kept w w' (fun k => some k = v.ownBlock) ∧ WF g' ∧ g'.length = g.length ∧ ∀ j, j < g.length → root g' j = root g j := by
  obtain ⟨g', hev, h1, h2, h3⟩ := find_ev i g hw hi
  obtain ⟨k, hk⟩ := hev.rounds
  refine (cycles_groups_find.calls k (fun k => some k = v.ownBlock) v g (i : Int) _ g' w0 w hB (Kd.R_tight rfl ho) hk).mono ?_
  rintro e w' ⟨rfl, a, b, c⟩
  exact ⟨g', rfl, Kd.R_reok rfl a ho.1, b, c, h1, h2, h3⟩

/-- What stays while the groups are asked. -/
def Hold (w0 w : World) (v : Value) (g : List Int) (bg : Nat) (W : World) : Prop :=
  ∃ g', Kd.R (Kd.int .i64) 3 W w0.heap.size (fun k => k ≠ bg) v g' ∧ Below w0.heap.size w0 W ∧ Kept w W (fun k => some k = v.ownBlock) ∧ WF g' ∧ g'.length = g.length ∧ ∀ j, j < g.length → root g' j = root g j
theorem Hold.drewN {w0 w : World} {v : Value} {g : List Int} {bg : Nat} {W : World} (h : Hold w0 w v g bg W) (n : Nat) : Hold w0 w v g bg (W.drewN n) := by
  obtain ⟨g', a, b, c, d⟩ := h
  exact ⟨g', Kd.R_drewN a n, pw_below_drewN b n, c.drewN n, d⟩
theorem Hold.drew {w0 w : World} {v : Value} {g : List Int} {bg : Nat} {W : World} (h : Hold w0 w v g bg W) : Hold w0 w v g bg W.drew := h.drewN 1
theorem Hold.find {w0 w : World} {v : Value} {g : List Int} {bg : Nat} {W : World} (h : Hold w0 w v g bg W) (i : Nat) (hi : i < g.length) (S : World → Prop) (hS : ∀ W', Kept W W' (fun k => some k = v.ownBlock) → S W') :
    Calls Try.prog 132 #[v, .int .i64 (i : Int)] W fun e w' => e = .returned (.int .i64 (root g i : Nat)) ∧ S w' ∧ Hold w0 w v g bg w' := by
  obtain ⟨g', a, b, c, d, l, r⟩ := h
  refine (find_call v g' i w0 W _ b a d (by omega)).mono ?_
  rintro e w' ⟨g2, rfl, a2, b2, c2, d2, l2, r2⟩
  rw [r i hi]
  exact ⟨rfl, hS _ c2, g2, a2, b2, c.then_ c2 (fun k hk => .inl hk), d2, by omega, fun j hj => by rw [r2 j (by omega), r j hj]⟩

theorem kept_cell {W W' : World} {S : Nat → Prop} (h : Kept W W' S) {p : Addr} {u : Value} (hc : W.cell? p = some u) (hb : ¬ S p.block) : W'.cell? p = some u := by
  have := h.2 p.block (World.block_lt_of_cell? W p hc) hb
  simpa [World.cell?, this] using hc
/-- The cells that the literal reads. -/
theorem Hold.find3 {w0 w : World} {v : Value} {g : List Int} {bg na : Nat} {W : World} {u1 u2 u3 : Value} (h : Hold w0 w v g bg W) (i : Nat) (hi : i < g.length)
    (h1 : W.cell? ⟨bg, 0, none⟩ = some u1) (h2 : W.cell? ⟨na, 1, none⟩ = some u2) (h3 : W.cell? ⟨na, 2, none⟩ = some u3) (hb : some bg ≠ v.ownBlock) (hn : some na ≠ v.ownBlock) :
    Calls Try.prog 132 #[v, .int .i64 (i : Int)] W fun e w' => e = .returned (.int .i64 (root g i : Nat)) ∧ (w'.cell? ⟨bg, 0, none⟩ = some u1 ∧ w'.cell? ⟨na, 1, none⟩ = some u2 ∧ w'.cell? ⟨na, 2, none⟩ = some u3) ∧ Hold w0 w v g bg w' :=
  h.find i hi _ (fun W' hk => ⟨kept_cell hk h1 hb, kept_cell hk h2 hn, kept_cell hk h3 hn⟩)

set_option maxHeartbeats 1000000 in
set_option maxRecDepth 100000 in
theorem forest_lit (v : Value) (g : List Int) (x : S36) (a b : Nat) (bg : Nat) (w0 w : World) (hB : Below w0.heap.size w0 w) (hgb : w.heap[bg]? = some (.cells #[v] 130 (0, 0)))
    (ho : Kd.R (Kd.int .i64) 3 w w0.heap.size (fun k => k ≠ bg) v g) (hw : WF g) (ha : x.f1 = (a : Int)) (hb : x.f2 = (b : Int)) (hal : a < g.length) (hbl : b < g.length) :
    Calls Try.prog 139 #[.agg #[.int .i64 x.f0, .int .i64 x.f1, .int .i64 x.f2, .int .i64 x.f3, .int .i64 x.f4, .int .i64 x.f5], .pointer (some ⟨bg, 0, none⟩)] w fun e w' =>
      e = .returned (.bool ((root g a : Int) != (root g b : Int))) ∧ Hold w0 w v g bg w' := by
  have hu36 := Try.underlying36
  rw [ha, hb]
  have hlt := blk_lt hgb
  have hvb : ∀ k, v.ownBlock = some k → k ≠ bg ∧ k < w.heap.size := fun k hk => ⟨ho.1 k hk, Kd.R_lt ho k hk⟩
  have HH : ∀ o, Hold w0 w v g bg (w.alloc o) := fun o => ⟨g, Kd.R_alloc ho o, hB.alloc hB.size o, (Kept.refl w _).alloc o, hw, rfl, fun _ _ => rfl⟩
  have HA := Aside0.mk HH
  have HG := Aside0.mk hgb
  have hob : some bg ≠ v.ownBlock := fun e => (hvb bg e.symm).1 rfl
  have hon : some w.heap.size ≠ v.ownBlock := fun e => absurd (hvb _ e.symm).2 (Nat.lt_irrefl _)
  have HOB := Aside0.mk hob
  have HON := Aside0.mk hon
  clear hob hon
  clear hB hgb ho hw HH hvb
  have hc0 : ∀ o, (w.alloc o).cell? ⟨bg, 0, none⟩ = some v := fun o => (blk_cell (blk_alloc HG.out o) 0).trans rfl
  have hc1 : ∀ o, (w.alloc o).drew.cell? ⟨bg, 0, none⟩ = some v := hc0
  go_enter Try.func139, Try.ntmps139
  go_wp2_with fail
  go_region_held3 (fun W => W.cell? ⟨bg, 0, none⟩ = some v ∧ W.cell? ⟨w.heap.size, 1, none⟩ = some (.int .i64 a) ∧ W.cell? ⟨w.heap.size, 2, none⟩ = some (.int .i64 b) ∧ Hold w0 w v g bg W)
    (first | (refine ⟨hc0 _, ?_, ?_, (HA.out _).drew⟩ <;> (go_simp; done)) | exact ⟨k1, k2, k3, H1⟩ | exact ⟨k1, k2, k3, H1.drew⟩ | go_keep)
    ((go_at_call 132; first | ((with_reducible refine (Hold.find3 (na := w.heap.size) (u1 := v) (u2 := .int .i64 (a : Int)) (u3 := .int .i64 (b : Int)) (HA.out _).drew a hal (hc1 _) ?h2 ?h3 HOB.out HON.out).mono ?_); (case h2 => go_simp; done); (case h3 => go_simp; done); rintro e w1 ⟨rfl, ⟨k1, k2, k3⟩, H1⟩) | ((with_reducible refine (Hold.find3 H1 b hbl k1 k2 k3 HOB.out HON.out).mono ?_); rintro e w1 ⟨rfl, ⟨k1, k2, k3⟩, H1⟩)))
  go_wp2
  go_ret
  exact ⟨rfl, H1⟩

/-- The least element of each event's group. -/
def labels (n : Nat) (g : List Int) : List Nat := (List.range n).map (root g)
/-- Two groups become one. -/
def uni (L : List Nat) (a b : Nat) : List Nat := L.map fun x => if x = max (L.getD a 0) (L.getD b 0) then min (L.getD a 0) (L.getD b 0) else x
def forestGo (acts : List S36) : List Int → Int → List Nat → Option (List Nat)
  | [], _, L => some L
  | i :: t, last, L =>
    if i ≤ last ∨ (acts.length : Int) ≤ i then none
    else if L.getD (acts.getD i.toNat z36).f1.toNat 0 = L.getD (acts.getD i.toNat z36).f2.toNat 0 then none
    else forestGo acts t i (uni L (acts.getD i.toNat z36).f1.toNat (acts.getD i.toNat z36).f2.toNat)
/-- Is the list a spanning forest? -/
def forestB (per : Int) (n : Nat) (acts : List S36) (tree : List Int) : Bool :=
  netOk per n acts && match forestGo acts tree (-1) (List.range n) with
    | none => false
    | some L => acts.all fun a => L.getD a.f1.toNat 0 == L.getD a.f2.toNat 0
def cycles_Forest.f (a0_0 : Int) (l0_1 : List (S97)) (l0_2 : List (S36)) (l1 : List Int) : Option (Bool) := some (forestB a0_0 l0_1.length l0_2 l1)

theorem labels_getD {n : Nat} {g : List Int} {i : Nat} (h : i < n) : (labels n g).getD i 0 = root g i := by
  unfold labels
  simp [List.getD_eq_getElem?_getD, h]
theorem labels_length (n : Nat) (g : List Int) : (labels n g).length = n := by simp [labels]
theorem labels_idn (n : Nat) : labels n (idn n) = List.range n := by
  unfold labels
  refine List.ext_getElem (by simp) fun j h1 h2 => ?_
  simp at h1
  simp [idn_root n j h1]
theorem labels_join {n : Nat} {g g' : List Int} {a b : Nat} (ha : a < n) (hb : b < n) (h : ∀ j, j < n → root g' j = if root g j = max (root g a) (root g b) then min (root g a) (root g b) else root g j) : labels n g' = uni (labels n g) a b := by
  unfold uni
  rw [labels_getD ha, labels_getD hb]
  unfold labels
  rw [List.map_map]
  refine List.map_congr_left fun j hj => ?_
  rw [h j (by simpa using hj)]
  rfl
theorem labels_same {n : Nat} {g g' : List Int} (h : ∀ j, j < n → root g' j = root g j) : labels n g' = labels n g := by
  unfold labels
  exact List.map_congr_left fun j hj => h j (by simpa using hj)
theorem netOk_ends {per : Int} {n : Nat} {acts : List S36} (h : netOk per n acts = true) {x : S36} (hx : x ∈ acts) : (0 ≤ x.f1 ∧ x.f1.toNat < n) ∧ (0 ≤ x.f2 ∧ x.f2.toNat < n) := by
  simp only [netOk, Bool.and_eq_true, Bool.not_eq_true', List.any_eq_false] at h
  have := h.2 x hx
  simp [badAct] at this
  omega

/-- A call of merge. -/
theorem merge_call (v : Value) (g : List Int) (i k : Nat) (w0 w : World) (ok : Nat → Prop) (hB : Below w0.heap.size w0 w) (ho : Kd.R (Kd.int .i64) 3 w w0.heap.size ok v g) (hw : WF g) (hi : i < g.length) (hk : k < g.length) :
    Calls Try.prog 131 #[v, .int .i64 (i : Int), .int .i64 (k : Int)] w fun e w' => ∃ g', e = .returned (.bool ((root g i : Int) != (root g k : Int))) ∧ Kd.R (Kd.int .i64) 3 w' w0.heap.size ok v g' ∧ Below w0.heap.size w0 w' ∧ Kept w w' (fun k => some k = v.ownBlock) ∧ WF g' ∧ g'.length = g.length ∧
      ∀ j, j < g.length → root g' j = if root g j = max (root g i) (root g k) then min (root g i) (root g k) else root g j := by
  obtain ⟨g', hev, h1, h2, h3⟩ := merge_ev g hw i k hi hk
  obtain ⟨m, hm⟩ := hev.rounds
  refine (cycles_groups_merge.calls m (fun k => some k = v.ownBlock) v g (i : Int) (k : Int) _ g' w0 w hB (Kd.R_tight rfl ho) hm).mono ?_
  rintro e w' ⟨rfl, a, b, c⟩
  exact ⟨g', rfl, Kd.R_reok rfl a ho.1, b, c, h1, h2, h3⟩

/-- What holds of the memory while the forest is asked. -/
structure FI (w0 : World) (cs : Array Value) (v : Value) (bn bg n : Nat) (W : World) (g : List Int) : Prop where
  nb : W.heap[bn]? = some (.cells cs 26 (0, 0))
  gb : W.heap[bg]? = some (.cells #[v] 130 (0, 0))
  row : Kd.R (Kd.int .i64) 3 W w0.heap.size (fun k => k ≠ bn ∧ k ≠ bg) v g
  bel : Below w0.heap.size w0 W
  wf : WF g
  len : g.length = n
namespace FI
variable {w0 : World} {cs : Array Value} {v : Value} {bn bg n : Nat} {W : World} {g : List Int}
theorem drewN (h : FI w0 cs v bn bg n W g) (m : Nat) : FI w0 cs v bn bg n (W.drewN m) g := ⟨h.nb, h.gb, Kd.R_drewN h.row m, pw_below_drewN h.bel m, h.wf, h.len⟩
theorem drew (h : FI w0 cs v bn bg n W g) : FI w0 cs v bn bg n W.drew g := h.drewN 1
theorem own_ne (h : FI w0 cs v bn bg n W g) : some bn ≠ v.ownBlock ∧ some bg ≠ v.ownBlock := ⟨fun e => (h.row.1 bn e.symm).1 rfl, fun e => (h.row.1 bg e.symm).2 rfl⟩
theorem kept {W' : World} {g' : List Int} (h : FI w0 cs v bn bg n W g) (hk : Kept W W' (fun k => some k = v.ownBlock)) (hr : Kd.R (Kd.int .i64) 3 W' w0.heap.size (fun k => k ≠ bn ∧ k ≠ bg) v g') (hb : Below w0.heap.size w0 W') (hw : WF g') (hl : g'.length = g.length) : FI w0 cs v bn bg n W' g' :=
  ⟨blk_kept h.nb hk h.own_ne.1, blk_kept h.gb hk h.own_ne.2, hr, hb, hw, hl.trans h.len⟩
theorem merge (h : FI w0 cs v bn bg n W g) (a b : Nat) (ha : a < n) (hb : b < n) (S : World → Prop) (hS : ∀ W', Kept W W' (fun k => some k = v.ownBlock) → S W') :
    Calls Try.prog 131 #[v, .int .i64 (a : Int), .int .i64 (b : Int)] W fun e w' => ∃ g', e = .returned (.bool ((root g a : Int) != (root g b : Int))) ∧ S w' ∧ FI w0 cs v bn bg n w' g' ∧ labels n g' = uni (labels n g) a b := by
  refine (merge_call v g a b w0 W _ h.bel h.row h.wf (by rw [h.len]; exact ha) (by rw [h.len]; exact hb)).mono ?_
  rintro e w' ⟨g', rfl, hr, hbl, hk, hw, hl, hj⟩
  exact ⟨g', rfl, hS _ hk, h.kept hk hr hbl hw hl, labels_join ha hb (fun j hjn => hj j (by rw [h.len]; exact hjn))⟩
theorem lit (h : FI w0 cs v bn bg n W g) (x : S36) (a b : Nat) (ha : x.f1 = (a : Int)) (hb : x.f2 = (b : Int)) (hal : a < n) (hbl : b < n) :
    Calls Try.prog 139 #[.agg #[.int .i64 x.f0, .int .i64 x.f1, .int .i64 x.f2, .int .i64 x.f3, .int .i64 x.f4, .int .i64 x.f5], .pointer (some ⟨bg, 0, none⟩)] W fun e w' =>
      e = .returned (.bool ((root g a : Int) != (root g b : Int))) ∧ ∃ g', FI w0 cs v bn bg n w' g' ∧ ∀ j, j < n → root g' j = root g j := by
  refine (forest_lit v g x a b bg w0 W h.bel h.gb (Kd.R_mono h.row (fun k hk => hk.2)) h.wf ha hb (by rw [h.len]; exact hal) (by rw [h.len]; exact hbl)).mono ?_
  rintro e w' ⟨rfl, g', hr, hB, hk, hw, hl, hj⟩
  exact ⟨rfl, g', h.kept hk (Kd.R_reok rfl hr (fun k e => h.row.1 k e)) hB hw hl, fun j hjn => hj j (by rw [h.len]; exact hjn)⟩
end FI
end Go.Proofs.Ytbkjplomoegbdaa.PB
