/- Connectivity by edges, on natural numbers: plain mathematics, no program is named here. -/
namespace Go.Proofs.Ytbkjplomoegbdaa.Graph

/-- Connected by the edges. -/
def Conn : List (Nat × Nat) → Nat → Nat → Prop
  | [], i, j => i = j
  | e :: es, i, j => Conn es i j ∨ (Conn es i e.1 ∧ Conn es e.2 j) ∨ (Conn es i e.2 ∧ Conn es e.1 j)
theorem Conn.refl : ∀ (es : List (Nat × Nat)) (i : Nat), Conn es i i
  | [], _ => rfl
  | _ :: es, i => .inl (Conn.refl es i)
theorem Conn.symm : ∀ {es : List (Nat × Nat)} {i j : Nat}, Conn es i j → Conn es j i
  | [], _, _, h => Eq.symm h
  | e :: es, i, j, h => by
    rcases h with h | ⟨h, k⟩ | ⟨h, k⟩
    · exact .inl h.symm
    · exact .inr (.inr ⟨k.symm, h.symm⟩)
    · exact .inr (.inl ⟨k.symm, h.symm⟩)
theorem Conn.trans : ∀ {es : List (Nat × Nat)} {i j k : Nat}, Conn es i j → Conn es j k → Conn es i k
  | [], _, _, _, h, k => Eq.trans h k
  | e :: es, i, j, k, h, h' => by
    rcases h with h | ⟨h, h1⟩ | ⟨h, h1⟩ <;> rcases h' with k' | ⟨k', k1⟩ | ⟨k', k1⟩
    · exact .inl (h.trans k')
    · exact .inr (.inl ⟨h.trans k', k1⟩)
    · exact .inr (.inr ⟨h.trans k', k1⟩)
    · exact .inr (.inl ⟨h, h1.trans k'⟩)
    · exact .inr (.inl ⟨h, k1⟩)
    · exact .inl (h.trans k1)
    · exact .inr (.inr ⟨h, h1.trans k'⟩)
    · exact .inl (h.trans k1)
    · exact .inr (.inr ⟨h, k1⟩)
theorem Conn.weaken {es : List (Nat × Nat)} {i j : Nat} (e : Nat × Nat) (h : Conn es i j) : Conn (e :: es) i j := .inl h
theorem Conn.mem : ∀ {es : List (Nat × Nat)} {a b : Nat}, (a, b) ∈ es → Conn es a b
  | e :: es, a, b, h => by
    rcases List.mem_cons.1 h with h | h
    · subst h; exact .inr (.inl ⟨Conn.refl _ _, Conn.refl _ _⟩)
    · exact .inl (Conn.mem h)
/-- If each edge of the one lies connected in the other, so does all that it connects. -/
theorem Conn.mono : ∀ {es es' : List (Nat × Nat)} {i j : Nat}, (∀ (a b : Nat), (a, b) ∈ es → Conn es' a b) → Conn es i j → Conn es' i j
  | [], _, _, _, _, h => by cases h; exact Conn.refl _ _
  | e :: es, es', i, j, hm, h => by
    have ih : ∀ {i j : Nat}, Conn es i j → Conn es' i j := Conn.mono (fun _ _ hab => hm _ _ (List.mem_cons_of_mem _ hab))
    have he := hm e.1 e.2 (by simp)
    rcases h with h | ⟨h, k⟩ | ⟨h, k⟩
    · exact ih h
    · exact (ih h).trans (he.trans (ih k))
    · exact (ih h).trans (he.symm.trans (ih k))
theorem Conn.sub {es es' : List (Nat × Nat)} {i j : Nat} (hm : ∀ x, x ∈ es → x ∈ es') (h : Conn es i j) : Conn es' i j := h.mono fun _ _ hab => Conn.mem (hm _ hab)
theorem Conn.cons_iff {es : List (Nat × Nat)} {e : Nat × Nat} (h : Conn es e.1 e.2) {i j : Nat} : Conn (e :: es) i j ↔ Conn es i j := by
  refine ⟨fun hc => hc.mono fun a b hab => ?_, fun hc => .inl hc⟩
  rcases List.mem_cons.1 hab with rfl | hab
  · exact h
  · exact Conn.mem hab

/-- Labels tell connectivity. -/
def Tells (n : Nat) (es : List (Nat × Nat)) (L : List Nat) : Prop := L.length = n ∧ ∀ i j, i < n → j < n → (L.getD i 0 = L.getD j 0 ↔ Conn es i j)
/-- A label is the least of its like. -/
def Least (n : Nat) (L : List Nat) : Prop := ∀ i, i < n → L.getD i 0 ≤ i ∧ L.getD (L.getD i 0) 0 = L.getD i 0
def join (L : List Nat) (a b : Nat) : List Nat := L.map fun x => if x = max (L.getD a 0) (L.getD b 0) then min (L.getD a 0) (L.getD b 0) else x
theorem getD_map {α β : Type} (f : α → β) (L : List α) (i : Nat) (d : α) (e : β) (h : i < L.length) : (L.map f).getD i e = f (L.getD i d) := by simp [List.getD_eq_getElem?_getD, h]
theorem join_getD {L : List Nat} {a b i : Nat} (h : i < L.length) : (join L a b).getD i 0 = if L.getD i 0 = max (L.getD a 0) (L.getD b 0) then min (L.getD a 0) (L.getD b 0) else L.getD i 0 := getD_map _ L i 0 0 h
theorem join_arith (x y p q : Nat) : ((if x = max p q then min p q else x) = (if y = max p q then min p q else y)) ↔ (x = y ∨ (x = p ∧ q = y) ∨ (x = q ∧ p = y)) := by
  rcases Nat.le_total p q with c | c
  · rw [Nat.max_eq_right c, Nat.min_eq_left c]
    by_cases hx : x = q <;> by_cases hy : y = q
    · rw [if_pos hx, if_pos hy]; omega
    · rw [if_pos hx, if_neg hy]; omega
    · rw [if_neg hx, if_pos hy]; omega
    · rw [if_neg hx, if_neg hy]; omega
  · rw [Nat.max_eq_left c, Nat.min_eq_right c]
    by_cases hx : x = p <;> by_cases hy : y = p
    · rw [if_pos hx, if_pos hy]; omega
    · rw [if_pos hx, if_neg hy]; omega
    · rw [if_neg hx, if_pos hy]; omega
    · rw [if_neg hx, if_neg hy]; omega
theorem Tells.join {n : Nat} {es : List (Nat × Nat)} {L : List Nat} {a b : Nat} (h : Tells n es L) (ha : a < n) (hb : b < n) : Tells n ((a, b) :: es) (join L a b) := by
  refine ⟨by simp [Graph.join, h.1], fun i j hi hj => ?_⟩
  have hl := h.1
  rw [join_getD (by omega), join_getD (by omega)]
  have hij := h.2 i j hi hj
  have hia := h.2 i a hi ha
  have hib := h.2 i b hi hb
  have haj := h.2 a j ha hj
  have hbj := h.2 b j hb hj
  show _ ↔ Conn es i j ∨ (Conn es i a ∧ Conn es b j) ∨ (Conn es i b ∧ Conn es a j)
  rw [← hij, ← hia, ← hib, ← haj, ← hbj]
  exact join_arith _ _ _ _
theorem Tells.skip {n : Nat} {es : List (Nat × Nat)} {L : List Nat} {a b : Nat} (h : Tells n es L) (ha : a < n) (hb : b < n) (e : L.getD a 0 = L.getD b 0) : Tells n ((a, b) :: es) L :=
  ⟨h.1, fun i j hi hj => (h.2 i j hi hj).trans (Conn.cons_iff ((h.2 a b ha hb).1 e)).symm⟩
theorem Least.join {n : Nat} {L : List Nat} {a b : Nat} (hl : L.length = n) (h : Least n L) (ha : a < n) (hb : b < n) : Least n (Graph.join L a b) := by
  intro i hi
  have h1 := h i hi
  have h2 := h a ha
  have h3 := h b hb
  have hmn : min (L.getD a 0) (L.getD b 0) ≤ L.getD a 0 ∧ min (L.getD a 0) (L.getD b 0) ≤ max (L.getD a 0) (L.getD b 0) := ⟨Nat.min_le_left _ _, by omega⟩
  rw [join_getD (by omega)]
  by_cases e : L.getD i 0 = max (L.getD a 0) (L.getD b 0)
  · rw [if_pos e]
    refine ⟨by omega, ?_⟩
    rw [join_getD (by omega)]
    rcases Nat.le_total (L.getD a 0) (L.getD b 0) with c | c
    · rw [Nat.min_eq_left c, h2.2]; split <;> omega
    · rw [Nat.min_eq_right c, h3.2]; split <;> omega
  · rw [if_neg e]
    refine ⟨h1.1, ?_⟩
    rw [join_getD (by omega), h1.2, if_neg e]
/-- How many stand for themselves. -/
def heads (n : Nat) (L : List Nat) : Nat := (List.range n).countP fun i => L.getD i 0 == i
theorem tells_range (n : Nat) : Tells n [] (List.range n) := ⟨by simp, fun i j hi hj => by simp [List.getD_eq_getElem?_getD, hi, hj, Conn]⟩
theorem least_range (n : Nat) : Least n (List.range n) := fun i hi => by simp [List.getD_eq_getElem?_getD, hi]
theorem heads_range (n : Nat) : heads n (List.range n) = n := by
  unfold heads
  rw [List.countP_eq_length.2]
  · simp
  · intro i hi
    simp at hi
    simp [List.getD_eq_getElem?_getD, hi]
theorem countP_one {α : Type} [BEq α] [LawfulBEq α] : ∀ (l : List α) (p q : α → Bool) (x : α), l.Nodup → x ∈ l → p x = true → q x = false → (∀ y, y ∈ l → y ≠ x → q y = p y) → l.countP q + 1 = l.countP p
  | y :: l, p, q, x, hn, hx, hp, hq, hy => by
    have hn' := List.nodup_cons.1 hn
    rcases List.mem_cons.1 hx with rfl | hx'
    · have : l.countP q = l.countP p := List.countP_congr fun z hz => by
        rw [hy z (List.mem_cons_of_mem _ hz) (fun e => hn'.1 (e ▸ hz))]
      simp [hp, hq, this]
    · have hne : y ≠ x := fun e => hn'.1 (e ▸ hx')
      have ih := countP_one l p q x hn'.2 hx' hp hq (fun z hz hzx => hy z (List.mem_cons_of_mem _ hz) hzx)
      have e := hy y (by simp) hne
      simp only [List.countP_cons, e]
      omega
/-- A join of two different groups takes one head away. -/
theorem heads_join {n : Nat} {L : List Nat} {a b : Nat} (hl : L.length = n) (h : Least n L) (ha : a < n) (hb : b < n) (hne : L.getD a 0 ≠ L.getD b 0) : heads n (join L a b) + 1 = heads n L := by
  have h2 := h a ha
  have h3 := h b hb
  have hm : max (L.getD a 0) (L.getD b 0) < n := Nat.max_lt.2 ⟨by omega, by omega⟩
  have e : L.getD (max (L.getD a 0) (L.getD b 0)) 0 = max (L.getD a 0) (L.getD b 0) := by
    rcases Nat.le_total (L.getD a 0) (L.getD b 0) with c | c
    · rw [Nat.max_eq_right c]; exact h3.2
    · rw [Nat.max_eq_left c]; exact h2.2
  have hlt : min (L.getD a 0) (L.getD b 0) < max (L.getD a 0) (L.getD b 0) := by omega
  refine countP_one (List.range n) _ _ (max (L.getD a 0) (L.getD b 0)) (List.nodup_range) (List.mem_range.2 hm) (beq_iff_eq.2 e) ?_ ?_
  · rw [join_getD (by omega), if_pos e]
    exact beq_eq_false_iff_ne.2 (by omega)
  · intro y hy hyx
    have hy' := List.mem_range.1 hy
    have hy1 := h y hy'
    rw [join_getD (by omega)]
    by_cases c : L.getD y 0 = max (L.getD a 0) (L.getD b 0)
    · rw [if_pos c, c, beq_eq_false_iff_ne.2 (by omega), beq_eq_false_iff_ne.2 (fun h => hyx h.symm)]
    · rw [if_neg c]
/-- Labels that tell the same, each the least of its like, are the same. -/
theorem labels_eq {n : Nat} {es es' : List (Nat × Nat)} {L L' : List Nat} (h : Tells n es L) (h' : Tells n es' L') (hl : Least n L) (hl' : Least n L') (hc : ∀ i j, i < n → j < n → (Conn es i j ↔ Conn es' i j)) : L = L' := by
  refine List.ext_getElem (by rw [h.1, h'.1]) fun i h1 h2 => ?_
  have hi : i < n := by rw [← h.1]; exact h1
  have e1 : L[i] = L.getD i 0 := by simp [List.getD_eq_getElem?_getD, h1]
  have e2 : L'[i] = L'.getD i 0 := by simp [List.getD_eq_getElem?_getD, h2]
  rw [e1, e2]
  have a1 := hl i hi
  have a2 := hl' i hi
  have s : ∀ i j, i < n → j < n → (L.getD i 0 = L.getD j 0 ↔ L'.getD i 0 = L'.getD j 0) := fun i j hi hj => ((h.2 i j hi hj).trans (hc i j hi hj)).trans (h'.2 i j hi hj).symm
  have b1 := (s (L.getD i 0) i (by omega) hi).1 a1.2
  have b2 := (s (L'.getD i 0) i (by omega) hi).2 a2.2
  have c1 := hl' (L.getD i 0) (by omega)
  have c2 := hl (L'.getD i 0) (by omega)
  omega

/-- The labels behind a list of edges, each joined if its ends differ; and how many did. -/
def run : List (Nat × Nat) → List Nat → List Nat
  | [], L => L
  | e :: es, L => run es (join L e.1 e.2)
def wins : List (Nat × Nat) → List Nat → Nat
  | [], _ => 0
  | e :: es, L => (if L.getD e.1 0 = L.getD e.2 0 then 0 else 1) + wins es (join L e.1 e.2)
theorem run_facts {n : Nat} : ∀ (es : List (Nat × Nat)) (es0 : List (Nat × Nat)) (L : List Nat), Tells n es0 L → Least n L → (∀ e ∈ es, e.1 < n ∧ e.2 < n) →
    Tells n (es.reverse ++ es0) (run es L) ∧ Least n (run es L) ∧ heads n (run es L) + wins es L = heads n L
  | [], es0, L, h, hl, _ => ⟨h, hl, rfl⟩
  | e :: es, es0, L, h, hl, hb => by
    obtain ⟨ha, hb'⟩ := hb e (by simp)
    obtain ⟨h1, h2, h3⟩ := run_facts es (e :: es0) (join L e.1 e.2) (h.join ha hb') (Least.join h.1 hl ha hb') (fun x hx => hb x (by simp [hx]))
    refine ⟨by simpa [run] using h1, h2, ?_⟩
    simp only [run, wins]
    by_cases c : L.getD e.1 0 = L.getD e.2 0
    · rw [if_pos c]
      have : heads n (join L e.1 e.2) = heads n L := by
        have : join L e.1 e.2 = L := by
          unfold join
          rw [c, Nat.max_self, Nat.min_self]
          have : (fun x => if x = L.getD e.2 0 then L.getD e.2 0 else x) = id := by funext x; simp; intro h; exact h.symm
          rw [this, List.map_id]
        rw [this]
      omega
    · rw [if_neg c]
      have := heads_join h.1 hl ha hb' c
      omega
theorem wins_le : ∀ (es : List (Nat × Nat)) (L : List Nat), wins es L ≤ es.length
  | [], _ => Nat.le_refl _
  | e :: es, L => by
    have := wins_le es (join L e.1 e.2)
    simp only [wins, List.length_cons]
    split <;> omega
/-- How many joins succeed doesn't hang on the order. -/
theorem wins_perm {n : Nat} {es es' : List (Nat × Nat)} (hb : ∀ e ∈ es, e.1 < n ∧ e.2 < n) (hb' : ∀ e ∈ es', e.1 < n ∧ e.2 < n) (hc : ∀ i j, i < n → j < n → (Conn es i j ↔ Conn es' i j)) : wins es (List.range n) = wins es' (List.range n) ∧ run es (List.range n) = run es' (List.range n) := by
  obtain ⟨h1, h2, h3⟩ := run_facts es [] _ (tells_range n) (least_range n) hb
  obtain ⟨k1, k2, k3⟩ := run_facts es' [] _ (tells_range n) (least_range n) hb'
  rw [List.append_nil] at h1 k1
  have cr : ∀ (l : List (Nat × Nat)) (i j : Nat), Conn l.reverse i j ↔ Conn l i j := fun l i j => ⟨Conn.sub (by simp), Conn.sub (by simp)⟩
  have he : run es (List.range n) = run es' (List.range n) := labels_eq h1 k1 h2 k2 (fun i j hi hj => (cr es i j).trans ((hc i j hi hj).trans (cr es' i j).symm))
  rw [he] at h3
  exact ⟨by omega, he⟩
theorem run_append : ∀ (es fs : List (Nat × Nat)) (L : List Nat), run (es ++ fs) L = run fs (run es L)
  | [], _, _ => rfl
  | e :: es, fs, L => run_append es fs (join L e.1 e.2)
theorem wins_append : ∀ (es fs : List (Nat × Nat)) (L : List Nat), wins (es ++ fs) L = wins es L + wins fs (run es L)
  | [], _, _ => by simp [wins, run]
  | e :: es, fs, L => by
    have := wins_append es fs (join L e.1 e.2)
    simp only [List.cons_append, wins, run, this]
    omega
/-- A further edge whose ends aren't connected joins two groups. -/
theorem wins_snoc {n : Nat} {es : List (Nat × Nat)} {e : Nat × Nat} (hb : ∀ e ∈ es, e.1 < n ∧ e.2 < n) (he : e.1 < n ∧ e.2 < n) (hw : wins es (List.range n) = es.length) (hc : ¬ Conn es e.1 e.2) : wins (es ++ [e]) (List.range n) = (es ++ [e]).length := by
  obtain ⟨h1, _, _⟩ := run_facts es [] _ (tells_range n) (least_range n) hb
  rw [List.append_nil] at h1
  have hne : ¬ (run es (List.range n)).getD e.1 0 = (run es (List.range n)).getD e.2 0 := fun h => hc (Conn.sub (by simp) ((h1.2 e.1 e.2 he.1 he.2).1 h))
  rw [wins_append, hw, List.length_append]
  simp only [wins, if_neg hne, List.length_cons, List.length_nil]
theorem Conn.snoc_iff {es : List (Nat × Nat)} {e : Nat × Nat} {i j : Nat} : Conn (es ++ [e]) i j ↔ Conn (e :: es) i j :=
  ⟨Conn.sub fun x hx => by
    rcases List.mem_append.1 hx with h | h
    · exact List.mem_cons_of_mem _ h
    · rw [List.mem_singleton.1 h]; exact List.mem_cons_self,
   Conn.sub fun x hx => by
    rcases List.mem_cons.1 hx with h | h
    · rw [h]; exact List.mem_append_right _ (List.mem_singleton.2 rfl)
    · exact List.mem_append_left _ h⟩
/-- What the labels tell in the end. -/
theorem run_tells {n : Nat} {es : List (Nat × Nat)} (hb : ∀ e ∈ es, e.1 < n ∧ e.2 < n) {i j : Nat} (hi : i < n) (hj : j < n) : (run es (List.range n)).getD i 0 = (run es (List.range n)).getD j 0 ↔ Conn es i j := by
  obtain ⟨h1, _, _⟩ := run_facts es [] _ (tells_range n) (least_range n) hb
  rw [List.append_nil] at h1
  exact (h1.2 i j hi hj).trans ⟨Conn.sub (by simp), Conn.sub (by simp)⟩
/-- If all joins of a list succeed, no edge's ends are connected by the others. -/
theorem acyclic {n : Nat} {es : List (Nat × Nat)} (hb : ∀ e ∈ es, e.1 < n ∧ e.2 < n) (hw : wins es (List.range n) = es.length) {p q : List (Nat × Nat)} {e : Nat × Nat} (he : es = p ++ e :: q) : ¬ Conn (p ++ q) e.1 e.2 := by
  intro hc
  subst he
  have h1 : wins (p ++ e :: q) (List.range n) = wins (p ++ q) (List.range n) := (wins_perm hb (fun x hx => hb x (by simp at hx ⊢; rcases hx with h | h <;> simp [h])) (fun i j _ _ => ⟨fun h => h.mono fun a b hab => by
    simp at hab
    rcases hab with h | h | h
    · exact Conn.mem (by simp [h])
    · rw [← h] at hc; exact hc
    · exact Conn.mem (by simp [h]), Conn.sub (by intro x hx; simp at hx ⊢; rcases hx with h | h <;> simp [h])⟩)).1
  have := wins_le (p ++ q) (List.range n)
  simp at hw this
  omega
end Go.Proofs.Ytbkjplomoegbdaa.Graph
