/- Parts of the proof of CyclesPeriodicity, gathered by a program of this claim out of texts that it or the kit's print wrote: lemmas alone, no condition of their own. -/
section
namespace Go.Proofs.Ytbkjplomoegbdaa.Graph
def Conn : List (Nat × Nat) → Nat → Nat → Prop
  | [], i, j => i = j
  | e :: es, i, j => Conn es i j ∨ (Conn es i e.1 ∧ Conn es e.2 j) ∨ (Conn es i e.2 ∧ Conn es e.1 j)
theorem Conn.refl : ∀ (es : List (Nat × Nat)) (i : Nat), Conn es i i
  | [], _ => rfl
  | _ :: es, i => .inl (Conn.refl es i)
theorem Conn.symm : ∀ {es : List (Nat × Nat)} {i j : Nat}, Conn es i j → Conn es j i
  | [], _, _, h => Eq.symm h
  | e :: es, i, j, h => by
    rcases h with h | ⟨h, k⟩ | ⟨h, k⟩
    · exact .inl h.symm
    · exact .inr (.inr ⟨k.symm, h.symm⟩)
    · exact .inr (.inl ⟨k.symm, h.symm⟩)
theorem Conn.trans : ∀ {es : List (Nat × Nat)} {i j k : Nat}, Conn es i j → Conn es j k → Conn es i k
  | [], _, _, _, h, k => Eq.trans h k
  | e :: es, i, j, k, h, h' => by
    rcases h with h | ⟨h, h1⟩ | ⟨h, h1⟩ <;> rcases h' with k' | ⟨k', k1⟩ | ⟨k', k1⟩
    · exact .inl (h.trans k')
    · exact .inr (.inl ⟨h.trans k', k1⟩)
    · exact .inr (.inr ⟨h.trans k', k1⟩)
    · exact .inr (.inl ⟨h, h1.trans k'⟩)
    · exact .inr (.inl ⟨h, k1⟩)
    · exact .inl (h.trans k1)
    · exact .inr (.inr ⟨h, h1.trans k'⟩)
    · exact .inl (h.trans k1)
    · exact .inr (.inr ⟨h, k1⟩)
theorem Conn.mem : ∀ {es : List (Nat × Nat)} {a b : Nat}, (a, b) ∈ es → Conn es a b
  | e :: es, a, b, h => by
    rcases List.mem_cons.1 h with h | h
    · subst h; exact .inr (.inl ⟨Conn.refl _ _, Conn.refl _ _⟩)
    · exact .inl (Conn.mem h)
theorem Conn.mono : ∀ {es es' : List (Nat × Nat)} {i j : Nat}, (∀ (a b : Nat), (a, b) ∈ es → Conn es' a b) → Conn es i j → Conn es' i j
  | [], _, _, _, _, h => by cases h; exact Conn.refl _ _
  | e :: es, es', i, j, hm, h => by
    have ih : ∀ {i j : Nat}, Conn es i j → Conn es' i j := Conn.mono (fun _ _ hab => hm _ _ (List.mem_cons_of_mem _ hab))
    have he := hm e.1 e.2 (by simp)
    rcases h with h | ⟨h, k⟩ | ⟨h, k⟩
    · exact ih h
    · exact (ih h).trans (he.trans (ih k))
    · exact (ih h).trans (he.symm.trans (ih k))
theorem Conn.sub {es es' : List (Nat × Nat)} {i j : Nat} (hm : ∀ x, x ∈ es → x ∈ es') (h : Conn es i j) : Conn es' i j := h.mono fun _ _ hab => Conn.mem (hm _ hab)
theorem Conn.cons_iff {es : List (Nat × Nat)} {e : Nat × Nat} (h : Conn es e.1 e.2) {i j : Nat} : Conn (e :: es) i j ↔ Conn es i j := by
  refine ⟨fun hc => hc.mono fun a b hab => ?_, fun hc => .inl hc⟩
  rcases List.mem_cons.1 hab with rfl | hab
  · exact h
  · exact Conn.mem hab
def Tells (n : Nat) (es : List (Nat × Nat)) (L : List Nat) : Prop := L.length = n ∧ ∀ i j, i < n → j < n → (L.getD i 0 = L.getD j 0 ↔ Conn es i j)
def Least (n : Nat) (L : List Nat) : Prop := ∀ i, i < n → L.getD i 0 ≤ i ∧ L.getD (L.getD i 0) 0 = L.getD i 0
def join (L : List Nat) (a b : Nat) : List Nat := L.map fun x => if x = max (L.getD a 0) (L.getD b 0) then min (L.getD a 0) (L.getD b 0) else x
theorem getD_map {α β : Type} (f : α → β) (L : List α) (i : Nat) (d : α) (e : β) (h : i < L.length) : (L.map f).getD i e = f (L.getD i d) := by simp [List.getD_eq_getElem?_getD, h]
theorem join_getD {L : List Nat} {a b i : Nat} (h : i < L.length) : (join L a b).getD i 0 = if L.getD i 0 = max (L.getD a 0) (L.getD b 0) then min (L.getD a 0) (L.getD b 0) else L.getD i 0 := getD_map _ L i 0 0 h
theorem join_arith (x y p q : Nat) : ((if x = max p q then min p q else x) = (if y = max p q then min p q else y)) ↔ (x = y ∨ (x = p ∧ q = y) ∨ (x = q ∧ p = y)) := by
  rcases Nat.le_total p q with c | c
  · rw [Nat.max_eq_right c, Nat.min_eq_left c]
    by_cases hx : x = q <;> by_cases hy : y = q
    · rw [if_pos hx, if_pos hy]; omega
    · rw [if_pos hx, if_neg hy]; omega
    · rw [if_neg hx, if_pos hy]; omega
    · rw [if_neg hx, if_neg hy]; omega
  · rw [Nat.max_eq_left c, Nat.min_eq_right c]
    by_cases hx : x = p <;> by_cases hy : y = p
    · rw [if_pos hx, if_pos hy]; omega
    · rw [if_pos hx, if_neg hy]; omega
    · rw [if_neg hx, if_pos hy]; omega
    · rw [if_neg hx, if_neg hy]; omega
theorem Tells.join {n : Nat} {es : List (Nat × Nat)} {L : List Nat} {a b : Nat} (h : Tells n es L) (ha : a < n) (hb : b < n) : Tells n ((a, b) :: es) (join L a b) := by
  refine ⟨by simp [Graph.join, h.1], fun i j hi hj => ?_⟩
  have hl := h.1
  rw [join_getD (by omega), join_getD (by omega)]
  have hij := h.2 i j hi hj
  have hia := h.2 i a hi ha
  have hib := h.2 i b hi hb
  have haj := h.2 a j ha hj
  have hbj := h.2 b j hb hj
  show _ ↔ Conn es i j ∨ (Conn es i a ∧ Conn es b j) ∨ (Conn es i b ∧ Conn es a j)
  rw [← hij, ← hia, ← hib, ← haj, ← hbj]
  exact join_arith _ _ _ _
theorem Tells.skip {n : Nat} {es : List (Nat × Nat)} {L : List Nat} {a b : Nat} (h : Tells n es L) (ha : a < n) (hb : b < n) (e : L.getD a 0 = L.getD b 0) : Tells n ((a, b) :: es) L :=
  ⟨h.1, fun i j hi hj => (h.2 i j hi hj).trans (Conn.cons_iff ((h.2 a b ha hb).1 e)).symm⟩
theorem Least.join {n : Nat} {L : List Nat} {a b : Nat} (hl : L.length = n) (h : Least n L) (ha : a < n) (hb : b < n) : Least n (Graph.join L a b) := by
  intro i hi
  have h1 := h i hi
  have h2 := h a ha
  have h3 := h b hb
  have hmn : min (L.getD a 0) (L.getD b 0) ≤ L.getD a 0 ∧ min (L.getD a 0) (L.getD b 0) ≤ max (L.getD a 0) (L.getD b 0) := ⟨Nat.min_le_left _ _, by omega⟩
  rw [join_getD (by omega)]
  by_cases e : L.getD i 0 = max (L.getD a 0) (L.getD b 0)
  · rw [if_pos e]
    refine ⟨by omega, ?_⟩
    rw [join_getD (by omega)]
    rcases Nat.le_total (L.getD a 0) (L.getD b 0) with c | c
    · rw [Nat.min_eq_left c, h2.2]; split <;> omega
    · rw [Nat.min_eq_right c, h3.2]; split <;> omega
  · rw [if_neg e]
    refine ⟨h1.1, ?_⟩
    rw [join_getD (by omega), h1.2, if_neg e]
def heads (n : Nat) (L : List Nat) : Nat := (List.range n).countP fun i => L.getD i 0 == i
theorem tells_range (n : Nat) : Tells n [] (List.range n) := ⟨by simp, fun i j hi hj => by simp [List.getD_eq_getElem?_getD, hi, hj, Conn]⟩
theorem least_range (n : Nat) : Least n (List.range n) := fun i hi => by simp [List.getD_eq_getElem?_getD, hi]
theorem heads_range (n : Nat) : heads n (List.range n) = n := by
  unfold heads
  rw [List.countP_eq_length.2]
  · simp
  · intro i hi
    simp at hi
    simp [List.getD_eq_getElem?_getD, hi]
theorem countP_one {α : Type} [BEq α] [LawfulBEq α] : ∀ (l : List α) (p q : α → Bool) (x : α), l.Nodup → x ∈ l → p x = true → q x = false → (∀ y, y ∈ l → y ≠ x → q y = p y) → l.countP q + 1 = l.countP p
  | y :: l, p, q, x, hn, hx, hp, hq, hy => by
    have hn' := List.nodup_cons.1 hn
    rcases List.mem_cons.1 hx with rfl | hx'
    · have : l.countP q = l.countP p := List.countP_congr fun z hz => by
        rw [hy z (List.mem_cons_of_mem _ hz) (fun e => hn'.1 (e ▸ hz))]
      simp [hp, hq, this]
    · have hne : y ≠ x := fun e => hn'.1 (e ▸ hx')
      have ih := countP_one l p q x hn'.2 hx' hp hq (fun z hz hzx => hy z (List.mem_cons_of_mem _ hz) hzx)
      have e := hy y (by simp) hne
      simp only [List.countP_cons, e]
      omega
theorem heads_join {n : Nat} {L : List Nat} {a b : Nat} (hl : L.length = n) (h : Least n L) (ha : a < n) (hb : b < n) (hne : L.getD a 0 ≠ L.getD b 0) : heads n (join L a b) + 1 = heads n L := by
  have h2 := h a ha
  have h3 := h b hb
  have hm : max (L.getD a 0) (L.getD b 0) < n := Nat.max_lt.2 ⟨by omega, by omega⟩
  have e : L.getD (max (L.getD a 0) (L.getD b 0)) 0 = max (L.getD a 0) (L.getD b 0) := by
    rcases Nat.le_total (L.getD a 0) (L.getD b 0) with c | c
    · rw [Nat.max_eq_right c]; exact h3.2
    · rw [Nat.max_eq_left c]; exact h2.2
  have hlt : min (L.getD a 0) (L.getD b 0) < max (L.getD a 0) (L.getD b 0) := by omega
  refine countP_one (List.range n) _ _ (max (L.getD a 0) (L.getD b 0)) (List.nodup_range) (List.mem_range.2 hm) (beq_iff_eq.2 e) ?_ ?_
  · rw [join_getD (by omega), if_pos e]
    exact beq_eq_false_iff_ne.2 (by omega)
  · intro y hy hyx
    have hy' := List.mem_range.1 hy
    have hy1 := h y hy'
    rw [join_getD (by omega)]
    by_cases c : L.getD y 0 = max (L.getD a 0) (L.getD b 0)
    · rw [if_pos c, c, beq_eq_false_iff_ne.2 (by omega), beq_eq_false_iff_ne.2 (fun h => hyx h.symm)]
    · rw [if_neg c]
theorem labels_eq {n : Nat} {es es' : List (Nat × Nat)} {L L' : List Nat} (h : Tells n es L) (h' : Tells n es' L') (hl : Least n L) (hl' : Least n L') (hc : ∀ i j, i < n → j < n → (Conn es i j ↔ Conn es' i j)) : L = L' := by
  refine List.ext_getElem (by rw [h.1, h'.1]) fun i h1 h2 => ?_
  have hi : i < n := by rw [← h.1]; exact h1
  have e1 : L[i] = L.getD i 0 := by simp [List.getD_eq_getElem?_getD, h1]
  have e2 : L'[i] = L'.getD i 0 := by simp [List.getD_eq_getElem?_getD, h2]
  rw [e1, e2]
  have a1 := hl i hi
  have a2 := hl' i hi
  have s : ∀ i j, i < n → j < n → (L.getD i 0 = L.getD j 0 ↔ L'.getD i 0 = L'.getD j 0) := fun i j hi hj => ((h.2 i j hi hj).trans (hc i j hi hj)).trans (h'.2 i j hi hj).symm
  have b1 := (s (L.getD i 0) i (by omega) hi).1 a1.2
  have b2 := (s (L'.getD i 0) i (by omega) hi).2 a2.2
  have c1 := hl' (L.getD i 0) (by omega)
  have c2 := hl (L'.getD i 0) (by omega)
  omega
def run : List (Nat × Nat) → List Nat → List Nat
  | [], L => L
  | e :: es, L => run es (join L e.1 e.2)
def wins : List (Nat × Nat) → List Nat → Nat
  | [], _ => 0
  | e :: es, L => (if L.getD e.1 0 = L.getD e.2 0 then 0 else 1) + wins es (join L e.1 e.2)
theorem run_facts {n : Nat} : ∀ (es : List (Nat × Nat)) (es0 : List (Nat × Nat)) (L : List Nat), Tells n es0 L → Least n L → (∀ e ∈ es, e.1 < n ∧ e.2 < n) →
    Tells n (es.reverse ++ es0) (run es L) ∧ Least n (run es L) ∧ heads n (run es L) + wins es L = heads n L
  | [], es0, L, h, hl, _ => ⟨h, hl, rfl⟩
  | e :: es, es0, L, h, hl, hb => by
    obtain ⟨ha, hb'⟩ := hb e (by simp)
    obtain ⟨h1, h2, h3⟩ := run_facts es (e :: es0) (join L e.1 e.2) (h.join ha hb') (Least.join h.1 hl ha hb') (fun x hx => hb x (by simp [hx]))
    refine ⟨by simpa [run] using h1, h2, ?_⟩
    simp only [run, wins]
    by_cases c : L.getD e.1 0 = L.getD e.2 0
    · rw [if_pos c]
      have : heads n (join L e.1 e.2) = heads n L := by
        have : join L e.1 e.2 = L := by
          unfold join
          rw [c, Nat.max_self, Nat.min_self]
          have : (fun x => if x = L.getD e.2 0 then L.getD e.2 0 else x) = id := by funext x; simp; intro h; exact h.symm
          rw [this, List.map_id]
        rw [this]
      omega
    · rw [if_neg c]
      have := heads_join h.1 hl ha hb' c
      omega
theorem wins_le : ∀ (es : List (Nat × Nat)) (L : List Nat), wins es L ≤ es.length
  | [], _ => Nat.le_refl _
  | e :: es, L => by
    have := wins_le es (join L e.1 e.2)
    simp only [wins, List.length_cons]
    split <;> omega
theorem wins_perm {n : Nat} {es es' : List (Nat × Nat)} (hb : ∀ e ∈ es, e.1 < n ∧ e.2 < n) (hb' : ∀ e ∈ es', e.1 < n ∧ e.2 < n) (hc : ∀ i j, i < n → j < n → (Conn es i j ↔ Conn es' i j)) : wins es (List.range n) = wins es' (List.range n) ∧ run es (List.range n) = run es' (List.range n) := by
  obtain ⟨h1, h2, h3⟩ := run_facts es [] _ (tells_range n) (least_range n) hb
  obtain ⟨k1, k2, k3⟩ := run_facts es' [] _ (tells_range n) (least_range n) hb'
  rw [List.append_nil] at h1 k1
  have cr : ∀ (l : List (Nat × Nat)) (i j : Nat), Conn l.reverse i j ↔ Conn l i j := fun l i j => ⟨Conn.sub (by simp), Conn.sub (by simp)⟩
  have he : run es (List.range n) = run es' (List.range n) := labels_eq h1 k1 h2 k2 (fun i j hi hj => (cr es i j).trans ((hc i j hi hj).trans (cr es' i j).symm))
  rw [he] at h3
  exact ⟨by omega, he⟩
theorem wins_append : ∀ (es fs : List (Nat × Nat)) (L : List Nat), wins (es ++ fs) L = wins es L + wins fs (run es L)
  | [], _, _ => by simp [wins, run]
  | e :: es, fs, L => by
    have := wins_append es fs (join L e.1 e.2)
    simp only [List.cons_append, wins, run, this]
    omega
theorem wins_snoc {n : Nat} {es : List (Nat × Nat)} {e : Nat × Nat} (hb : ∀ e ∈ es, e.1 < n ∧ e.2 < n) (he : e.1 < n ∧ e.2 < n) (hw : wins es (List.range n) = es.length) (hc : ¬ Conn es e.1 e.2) : wins (es ++ [e]) (List.range n) = (es ++ [e]).length := by
  obtain ⟨h1, _, _⟩ := run_facts es [] _ (tells_range n) (least_range n) hb
  rw [List.append_nil] at h1
  have hne : ¬ (run es (List.range n)).getD e.1 0 = (run es (List.range n)).getD e.2 0 := fun h => hc (Conn.sub (by simp) ((h1.2 e.1 e.2 he.1 he.2).1 h))
  rw [wins_append, hw, List.length_append]
  simp only [wins, if_neg hne, List.length_cons, List.length_nil]
theorem Conn.snoc_iff {es : List (Nat × Nat)} {e : Nat × Nat} {i j : Nat} : Conn (es ++ [e]) i j ↔ Conn (e :: es) i j :=
  ⟨Conn.sub fun x hx => by
    rcases List.mem_append.1 hx with h | h
    · exact List.mem_cons_of_mem _ h
    · rw [List.mem_singleton.1 h]; exact List.mem_cons_self,
   Conn.sub fun x hx => by
    rcases List.mem_cons.1 hx with h | h
    · rw [h]; exact List.mem_append_right _ (List.mem_singleton.2 rfl)
    · exact List.mem_append_left _ h⟩
theorem run_tells {n : Nat} {es : List (Nat × Nat)} (hb : ∀ e ∈ es, e.1 < n ∧ e.2 < n) {i j : Nat} (hi : i < n) (hj : j < n) : (run es (List.range n)).getD i 0 = (run es (List.range n)).getD j 0 ↔ Conn es i j := by
  obtain ⟨h1, _, _⟩ := run_facts es [] _ (tells_range n) (least_range n) hb
  rw [List.append_nil] at h1
  exact (h1.2 i j hi hj).trans ⟨Conn.sub (by simp), Conn.sub (by simp)⟩
end Go.Proofs.Ytbkjplomoegbdaa.Graph
end
section
namespace Go.Proofs.Ytbkjplomoegbdaa.Ways
open Go.Proofs.Ytbkjplomoegbdaa.Graph
def src (E : Nat → Nat × Nat) (p : Nat × Int) : Nat := if p.2 = 1 then (E p.1).1 else (E p.1).2
def dst (E : Nat → Nat × Nat) (p : Nat × Int) : Nat := if p.2 = 1 then (E p.1).2 else (E p.1).1
def Way (E : Nat → Nat × Nat) (T : List Nat) : Nat → Nat → List (Nat × Int) → Prop
  | x, y, [] => x = y
  | x, y, p :: l => p.1 ∈ T ∧ (p.2 = 1 ∨ p.2 = -1) ∧ x = src E p ∧ Way E T (dst E p) y l
def nodes (E : Nat → Nat × Nat) (x : Nat) (l : List (Nat × Int)) : List Nat := x :: l.map (dst E)
variable {E : Nat → Nat × Nat} {T : List Nat}
theorem nodes_cons (x : Nat) (p : Nat × Int) (l : List (Nat × Int)) : nodes E x (p :: l) = x :: nodes E (dst E p) l := rfl
theorem nodes_append (x : Nat) (l m : List (Nat × Int)) : nodes E x (l ++ m) = nodes E x l ++ m.map (dst E) := by simp [nodes]
theorem Way.append : ∀ {l m : List (Nat × Int)} {x y z : Nat}, Way E T x y l → Way E T y z m → Way E T x z (l ++ m)
  | [], _, _, _, _, h, k => by cases h; exact k
  | _ :: _, _, _, _, _, ⟨h1, h2, h3, h4⟩, k => ⟨h1, h2, h3, Way.append h4 k⟩
theorem Way.split : ∀ {l m : List (Nat × Int)} {x z : Nat}, Way E T x z (l ++ m) → ∃ y, Way E T x y l ∧ Way E T y z m
  | [], _, x, _, h => ⟨x, rfl, h⟩
  | _ :: l, _, _, _, ⟨h1, h2, h3, h4⟩ => by
    obtain ⟨y, a, b⟩ := Way.split (l := l) h4
    exact ⟨y, ⟨h1, h2, h3, a⟩, b⟩
theorem Way.one {p : Nat × Int} (h : p.1 ∈ T) (hs : p.2 = 1 ∨ p.2 = -1) : Way E T (src E p) (dst E p) [p] := ⟨h, hs, rfl, rfl⟩
theorem Way.mem : ∀ {l : List (Nat × Int)} {x y : Nat}, Way E T x y l → ∀ p ∈ l, p.1 ∈ T ∧ (p.2 = 1 ∨ p.2 = -1)
  | q :: l, _, _, ⟨h1, h2, _, h4⟩, p, hp => by
    rcases List.mem_cons.1 hp with rfl | hp
    · exact ⟨h1, h2⟩
    · exact Way.mem h4 p hp
theorem Way.mono {T' : List Nat} : ∀ {l : List (Nat × Int)} {x y : Nat}, (∀ p ∈ l, p.1 ∈ T') → Way E T x y l → Way E T' x y l
  | [], _, _, _, h => h
  | p :: l, _, _, hs, ⟨_, h2, h3, h4⟩ => ⟨hs p (by simp), h2, h3, Way.mono (fun q hq => hs q (by simp [hq])) h4⟩
theorem Way.ends : ∀ {l : List (Nat × Int)} {x y : Nat}, Way E T x y l → ∀ p ∈ l, src E p ∈ nodes E x l ∧ dst E p ∈ nodes E x l
  | q :: l, x, _, ⟨_, _, h3, h4⟩, p, hp => by
    rw [nodes_cons]
    rcases List.mem_cons.1 hp with rfl | hp
    · exact ⟨by rw [h3]; simp, by simp [nodes]⟩
    · have := Way.ends h4 p hp
      exact ⟨List.mem_cons_of_mem _ this.1, List.mem_cons_of_mem _ this.2⟩
theorem ends_of (p : Nat × Int) (hs : p.2 = 1 ∨ p.2 = -1) : ((E p.1).1 = src E p ∧ (E p.1).2 = dst E p) ∨ ((E p.1).2 = src E p ∧ (E p.1).1 = dst E p) := by
  unfold src dst
  rcases hs with h | h
  · rw [if_pos h, if_pos h]; exact .inl ⟨rfl, rfl⟩
  · rw [if_neg (by rw [h]; decide), if_neg (by rw [h]; decide)]; exact .inr ⟨rfl, rfl⟩
theorem Way.touch {l : List (Nat × Int)} {x y : Nat} (h : Way E T x y l) {p : Nat × Int} (hp : p ∈ l) : (E p.1).1 ∈ nodes E x l ∧ (E p.1).2 ∈ nodes E x l := by
  have a := h.ends p hp
  rcases ends_of (E := E) p (h.mem p hp).2 with ⟨h1, h2⟩ | ⟨h1, h2⟩
  · rw [h1, h2]; exact a
  · rw [h1, h2]; exact ⟨a.2, a.1⟩
def Acy (E : Nat → Nat × Nat) (T : List Nat) : Prop := ∀ P a Q, T = P ++ a :: Q → ¬ Conn ((P ++ Q).map E) (E a).1 (E a).2
theorem Acy.cut (hA : Acy E T) {a : Nat} (ha : a ∈ T) {l : List (Nat × Int)} (hl : ∀ p ∈ l, p.1 ∈ T ∧ p.1 ≠ a) : ¬ Conn (l.map fun p => E p.1) (E a).1 (E a).2 := by
  obtain ⟨P, Q, rfl⟩ := List.append_of_mem ha
  intro h
  refine hA P a Q rfl (h.sub ?_)
  intro e he
  obtain ⟨p, hp, rfl⟩ := List.mem_map.1 he
  obtain ⟨h1, h2⟩ := hl p hp
  refine List.mem_map.2 ⟨p.1, ?_, rfl⟩
  simp at h1 ⊢
  rcases h1 with h1 | h1 | h1
  · exact .inl h1
  · exact absurd h1 h2
  · exact .inr h1
theorem Way.not_again {l : List (Nat × Int)} {x x1 y : Nat} (h : Way E T x1 y l) (hx : x ∉ nodes E x1 l) {a : Nat} (ha : x = (E a).1 ∨ x = (E a).2) : ∀ p ∈ l, p.1 ≠ a := by
  intro p hp e
  have := h.touch hp
  rw [e] at this
  rcases ha with h1 | h1
  · exact hx (h1 ▸ this.1)
  · exact hx (h1 ▸ this.2)
theorem src_end {p : Nat × Int} (hs : p.2 = 1 ∨ p.2 = -1) : src E p = (E p.1).1 ∨ src E p = (E p.1).2 := by
  rcases ends_of (E := E) p hs with ⟨a, _⟩ | ⟨a, _⟩
  · exact .inl a.symm
  · exact .inr a.symm
theorem Way.arcs_nodup : ∀ {l : List (Nat × Int)} {x y : Nat}, Way E T x y l → (nodes E x l).Nodup → (l.map (·.1)).Nodup
  | [], _, _, _, _ => List.nodup_nil
  | p :: l, x, y, ⟨h1, h2, h3, h4⟩, hn => by
    rw [nodes_cons] at hn
    have hn' := List.nodup_cons.1 hn
    rw [List.map_cons]
    refine List.nodup_cons.2 ⟨?_, Way.arcs_nodup h4 hn'.2⟩
    intro h
    obtain ⟨q, hq, e⟩ := List.mem_map.1 h
    exact h4.not_again hn'.1 (by rw [h3]; exact src_end h2) q hq e
def val (v : Nat → Int) : List (Nat × Int) → Int
  | [] => 0
  | p :: l => p.2 * v p.1 + val v l
theorem Way.tele {per : Int} {v t : Nat → Int} : ∀ {l : List (Nat × Int)} {x y : Nat}, Way E T x y l → (∀ p ∈ l, per ∣ (t (E p.1).2 - t (E p.1).1 - v p.1)) → per ∣ (t y - t x - val v l)
  | [], x, y, h, _ => by cases h; simp [val]
  | p :: l, x, y, ⟨_, h2, h3, h4⟩, ht => by
    have ih := Way.tele h4 (fun q hq => ht q (by simp [hq]))
    have h0 := ht p (by simp)
    have e : t y - t x - val v (p :: l) = (t y - t (dst E p) - val v l) + p.2 * (t (E p.1).2 - t (E p.1).1 - v p.1) := by
      simp only [val]
      rcases h2 with a | a
      · have d1 : dst E p = (E p.1).2 := by unfold dst; rw [if_pos a]
        have d2 : x = (E p.1).1 := by rw [h3]; unfold src; rw [if_pos a]
        rw [a, d1, d2]; omega
      · have d1 : dst E p = (E p.1).1 := by unfold dst; rw [if_neg (by rw [a]; decide)]
        have d2 : x = (E p.1).2 := by rw [h3]; unfold src; rw [if_neg (by rw [a]; decide)]
        rw [a, d1, d2]; omega
    rw [e]
    exact Int.dvd_add ih (Int.dvd_mul_of_dvd_right h0)
end Go.Proofs.Ytbkjplomoegbdaa.Ways
end
