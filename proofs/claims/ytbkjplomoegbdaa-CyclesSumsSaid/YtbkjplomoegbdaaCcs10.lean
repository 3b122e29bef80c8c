/- Parts of the proof of CyclesSums, gathered by a program of this claim out of texts that it or the kit's print wrote: lemmas alone, no condition of their own. -/
section
namespace Go.Proofs.Ytbkjplomoegbdaa.nM
def fF:List (Nat × Nat)→Nat→Nat→Prop
  |[],i,j=>i=j
  |e :: es,i,j=>fF es i j∨(fF es i e.1∧fF es e.2 j)∨(fF es i e.2∧fF es e.1 j)
theorem fF.refl:∀ (es:List (Nat × Nat)) (i:Nat),fF es i i
  |[],_=>rfl
  |_ :: es,i=> .inl (fF.refl es i)
theorem fF.symm:∀ {es:List (Nat × Nat)} {i j:Nat},fF es i j→fF es j i
  |[],_,_,h=>Eq.symm h
  |e :: es,i,j,h=>by
    rcases h with h|⟨h,k⟩|⟨h,k⟩
    · exact .inl h.symm
    · exact .inr (.inr ⟨k.symm,h.symm⟩)
    · exact .inr (.inl ⟨k.symm,h.symm⟩)
theorem fF.trans:∀ {es:List (Nat × Nat)} {i j k:Nat},fF es i j→fF es j k→fF es i k
  |[],_,_,_,h,k=>Eq.trans h k
  |e :: es,i,j,k,h,h'=>by
    rcases h with h|⟨h,h1⟩|⟨h,h1⟩<;>rcases h' with k'|⟨k',k1⟩|⟨k',k1⟩
    · exact .inl (h.trans k')
    · exact .inr (.inl ⟨h.trans k',k1⟩)
    · exact .inr (.inr ⟨h.trans k',k1⟩)
    · exact .inr (.inl ⟨h,h1.trans k'⟩)
    · exact .inr (.inl ⟨h,k1⟩)
    · exact .inl (h.trans k1)
    · exact .inr (.inr ⟨h,h1.trans k'⟩)
    · exact .inl (h.trans k1)
    · exact .inr (.inr ⟨h,k1⟩)
theorem fF.mem:∀ {es:List (Nat × Nat)} {a b:Nat},(a,b) ∈ es→fF es a b
  |e :: es,a,b,h=>by
    rcases List.mem_cons.1 h with h|h
    · subst h;exact .inr (.inl ⟨fF.refl _ _,fF.refl _ _⟩)
    · exact .inl (fF.mem h)
theorem fF.mono:∀ {es es':List (Nat × Nat)} {i j:Nat},(∀ (a b:Nat),(a,b) ∈ es→fF es' a b)→fF es i j→fF es' i j
  |[],_,_,_,_,h=>by cases h;exact fF.refl _ _
  |e :: es,es',i,j,hm,h=>by
    have ih:∀ {i j:Nat},fF es i j→fF es' i j:=fF.mono (fun _ _ hab=>hm _ _ (List.mem_cons_of_mem _ hab))
    have he:=hm e.1 e.2 (by simp)
    rcases h with h|⟨h,k⟩|⟨h,k⟩
    · exact ih h
    · exact (ih h).trans (he.trans (ih k))
    · exact (ih h).trans (he.symm.trans (ih k))
theorem fF.sub {es es':List (Nat × Nat)} {i j:Nat} (hm:∀ x,x ∈ es→x ∈ es') (h:fF es i j):fF es' i j:=h.mono fun _ _ hab=>fF.mem (hm _ hab)
theorem fF.HN {es:List (Nat × Nat)} {e:Nat × Nat} (h:fF es e.1 e.2) {i j:Nat}:fF (e :: es) i j↔fF es i j:=by
  refine ⟨fun hc=>hc.mono fun a b hab=> ?_,fun hc=> .inl hc⟩
  rcases List.mem_cons.1 hab with rfl|hab
  · exact h
  · exact fF.mem hab
def qY (n:Nat) (es:List (Nat × Nat)) (L:List Nat):Prop:=L.length=n∧∀ i j,i<n→j<n→(L.getD i 0=L.getD j 0↔fF es i j)
def sF (n:Nat) (L:List Nat):Prop:=∀ i,i<n→L.getD i 0≤i∧L.getD (L.getD i 0) 0=L.getD i 0
def join (L:List Nat) (a b:Nat):List Nat:=L.map fun x=>if x=max (L.getD a 0) (L.getD b 0) then min (L.getD a 0) (L.getD b 0) else x
theorem oL {α β:Type} (f:α→β) (L:List α) (i:Nat) (d:α) (e:β) (h:i<L.length):(L.map f).getD i e=f (L.getD i d):=by simp [List.getD_eq_getElem?_getD,h]
theorem mW {L:List Nat} {a b i:Nat} (h:i<L.length):(join L a b).getD i 0=if L.getD i 0=max (L.getD a 0) (L.getD b 0) then min (L.getD a 0) (L.getD b 0) else L.getD i 0:=oL _ L i 0 0 h
theorem wZ (x y p q:Nat):((if x=max p q then min p q else x)=(if y=max p q then min p q else y))↔(x=y∨(x=p∧q=y)∨(x=q∧p=y)):=by
  rcases Nat.le_total p q with c|c
  · rw [Nat.max_eq_right c,Nat.min_eq_left c]
    by_cases hx:x=q<;>by_cases hy:y=q
    · rw [if_pos hx,if_pos hy];omega
    · rw [if_pos hx,if_neg hy];omega
    · rw [if_neg hx,if_pos hy];omega
    · rw [if_neg hx,if_neg hy];omega
  · rw [Nat.max_eq_left c,Nat.min_eq_right c]
    by_cases hx:x=p<;>by_cases hy:y=p
    · rw [if_pos hx,if_pos hy];omega
    · rw [if_pos hx,if_neg hy];omega
    · rw [if_neg hx,if_pos hy];omega
    · rw [if_neg hx,if_neg hy];omega
theorem qY.join {n:Nat} {es:List (Nat × Nat)} {L:List Nat} {a b:Nat} (h:qY n es L) (ha:a<n) (hb:b<n):qY n ((a,b) :: es) (join L a b):=by
  refine ⟨by simp [nM.join,h.1],fun i j hi hj=> ?_⟩
  have hl:=h.1
  rw [mW (by omega),mW (by omega)]
  have hij:=h.2 i j hi hj
  have hia:=h.2 i a hi ha
  have hib:=h.2 i b hi hb
  have haj:=h.2 a j ha hj
  have hbj:=h.2 b j hb hj
  show _↔fF es i j∨(fF es i a∧fF es b j)∨(fF es i b∧fF es a j)
  rw [← hij,← hia,← hib,← haj,← hbj]
  exact wZ _ _ _ _
theorem qY.skip {n:Nat} {es:List (Nat × Nat)} {L:List Nat} {a b:Nat} (h:qY n es L) (ha:a<n) (hb:b<n) (e:L.getD a 0=L.getD b 0):qY n ((a,b) :: es) L:=
  ⟨h.1,fun i j hi hj=>(h.2 i j hi hj).trans (fF.HN ((h.2 a b ha hb).1 e)).symm⟩
theorem sF.join {n:Nat} {L:List Nat} {a b:Nat} (hl:L.length=n) (h:sF n L) (ha:a<n) (hb:b<n):sF n (nM.join L a b):=by
  intro i hi
  have h1:=h i hi
  have h2:=h a ha
  have h3:=h b hb
  have hmn:min (L.getD a 0) (L.getD b 0)≤L.getD a 0∧min (L.getD a 0) (L.getD b 0)≤max (L.getD a 0) (L.getD b 0):=⟨Nat.min_le_left _ _,by omega⟩
  rw [mW (by omega)]
  by_cases e:L.getD i 0=max (L.getD a 0) (L.getD b 0)
  · rw [if_pos e]
    refine ⟨by omega, ?_⟩
    rw [mW (by omega)]
    rcases Nat.le_total (L.getD a 0) (L.getD b 0) with c|c
    · rw [Nat.min_eq_left c,h2.2];split<;>omega
    · rw [Nat.min_eq_right c,h3.2];split<;>omega
  · rw [if_neg e]
    refine ⟨h1.1, ?_⟩
    rw [mW (by omega),h1.2,if_neg e]
def heads (n:Nat) (L:List Nat):Nat:=(List.range n).countP fun i=>L.getD i 0==i
theorem nA (n:Nat):qY n [] (List.range n):=⟨by simp,fun i j hi hj=>by simp [List.getD_eq_getElem?_getD,hi,hj,fF]⟩
theorem nB (n:Nat):sF n (List.range n):=fun i hi=>by simp [List.getD_eq_getElem?_getD,hi]
theorem Bv (n:Nat):heads n (List.range n)=n:=by
  unfold heads
  rw [List.countP_eq_length.2]
  · simp
  · intro i hi
    simp at hi
    simp [List.getD_eq_getElem?_getD,hi]
theorem xa {α:Type} [BEq α] [LawfulBEq α]:∀ (l:List α) (p q:α→Bool) (x:α),l.Nodup→x ∈ l→p x=true→q x=false→(∀ y,y ∈ l→y≠x→q y=p y)→l.countP q+1=l.countP p
  |y :: l,p,q,x,hn,hx,hp,hq,hy=>by
    have hn':=List.nodup_cons.1 hn
    rcases List.mem_cons.1 hx with rfl|hx'
    · have:l.countP q=l.countP p:=List.countP_congr fun z hz=>by
        rw [hy z (List.mem_cons_of_mem _ hz) (fun e=>hn'.1 (e ▸ hz))]
      simp [hp,hq,this]
    · have hne:y≠x:=fun e=>hn'.1 (e ▸ hx')
      have ih:=xa l p q x hn'.2 hx' hp hq (fun z hz hzx=>hy z (List.mem_cons_of_mem _ hz) hzx)
      have e:=hy y (by simp) hne
      simp only [List.countP_cons,e]
      omega
theorem C3 {n:Nat} {L:List Nat} {a b:Nat} (hl:L.length=n) (h:sF n L) (ha:a<n) (hb:b<n) (hne:L.getD a 0≠L.getD b 0):heads n (join L a b)+1=heads n L:=by
  have h2:=h a ha
  have h3:=h b hb
  have hm:max (L.getD a 0) (L.getD b 0)<n:=Nat.max_lt.2 ⟨by omega,by omega⟩
  have e:L.getD (max (L.getD a 0) (L.getD b 0)) 0=max (L.getD a 0) (L.getD b 0):=by
    rcases Nat.le_total (L.getD a 0) (L.getD b 0) with c|c
    · rw [Nat.max_eq_right c];exact h3.2
    · rw [Nat.max_eq_left c];exact h2.2
  have hlt:min (L.getD a 0) (L.getD b 0)<max (L.getD a 0) (L.getD b 0):=by omega
  refine xa (List.range n) _ _ (max (L.getD a 0) (L.getD b 0)) (List.nodup_range) (List.mem_range.2 hm) (beq_iff_eq.2 e) ?_ ?_
  · rw [mW (by omega),if_pos e]
    exact beq_eq_false_iff_ne.2 (by omega)
  · intro y hy hyx
    have hy':=List.mem_range.1 hy
    have hy1:=h y hy'
    rw [mW (by omega)]
    by_cases c:L.getD y 0=max (L.getD a 0) (L.getD b 0)
    · rw [if_pos c,c,beq_eq_false_iff_ne.2 (by omega),beq_eq_false_iff_ne.2 (fun h=>hyx h.symm)]
    · rw [if_neg c]
theorem FQ {n:Nat} {es es':List (Nat × Nat)} {L L':List Nat} (h:qY n es L) (h':qY n es' L') (hl:sF n L) (hl':sF n L') (hc:∀ i j,i<n→j<n→(fF es i j↔fF es' i j)):L=L':=by
  refine List.ext_getElem (by rw [h.1,h'.1]) fun i h1 h2=> ?_
  have hi:i<n:=by rw [← h.1];exact h1
  have e1:L[i]=L.getD i 0:=by simp [List.getD_eq_getElem?_getD,h1]
  have e2:L'[i]=L'.getD i 0:=by simp [List.getD_eq_getElem?_getD,h2]
  rw [e1,e2]
  have a1:=hl i hi
  have a2:=hl' i hi
  have s:∀ i j,i<n→j<n→(L.getD i 0=L.getD j 0↔L'.getD i 0=L'.getD j 0):=fun i j hi hj=>((h.2 i j hi hj).trans (hc i j hi hj)).trans (h'.2 i j hi hj).symm
  have b1:=(s (L.getD i 0) i (by omega) hi).1 a1.2
  have b2:=(s (L'.getD i 0) i (by omega) hi).2 a2.2
  have c1:=hl' (L.getD i 0) (by omega)
  have c2:=hl (L'.getD i 0) (by omega)
  omega
def run:List (Nat × Nat)→List Nat→List Nat
  |[],L=>L
  |e :: es,L=>run es (join L e.1 e.2)
def wins:List (Nat × Nat)→List Nat→Nat
  |[],_=>0
  |e :: es,L=>(if L.getD e.1 0=L.getD e.2 0 then 0 else 1)+wins es (join L e.1 e.2)
theorem oo {n:Nat}:∀ (es:List (Nat × Nat)) (Qw:List (Nat × Nat)) (L:List Nat),qY n Qw L→sF n L→(∀ e ∈ es,e.1<n∧e.2<n)→
    qY n (es.reverse++Qw) (run es L)∧sF n (run es L)∧heads n (run es L)+wins es L=heads n L
  |[],Qw,L,h,hl,_=>⟨h,hl,rfl⟩
  |e :: es,Qw,L,h,hl,hb=>by
    obtain ⟨ha,hb'⟩:=hb e (by simp)
    obtain ⟨h1,h2,h3⟩:=oo es (e :: Qw) (join L e.1 e.2) (h.join ha hb') (sF.join h.1 hl ha hb') (fun x hx=>hb x (by simp [hx]))
    refine ⟨by simpa [run] using h1,h2, ?_⟩
    simp only [run,wins]
    by_cases c:L.getD e.1 0=L.getD e.2 0
    · rw [if_pos c]
      have:heads n (join L e.1 e.2)=heads n L:=by
        have:join L e.1 e.2=L:=by
          unfold join
          rw [c,Nat.max_self,Nat.min_self]
          have:(fun x=>if x=L.getD e.2 0 then L.getD e.2 0 else x)=id:=by funext x;simp;intro h;exact h.symm
          rw [this,List.map_id]
        rw [this]
      omega
    · rw [if_neg c]
      have:=C3 h.1 hl ha hb' c
      omega
theorem DR:∀ (es:List (Nat × Nat)) (L:List Nat),wins es L≤es.length
  |[],_=>Nat.le_refl _
  |e :: es,L=>by
    have:=DR es (join L e.1 e.2)
    simp only [wins,List.length_cons]
    split<;>omega
theorem FR {n:Nat} {es es':List (Nat × Nat)} (hb:∀ e ∈ es,e.1<n∧e.2<n) (hb':∀ e ∈ es',e.1<n∧e.2<n) (hc:∀ i j,i<n→j<n→(fF es i j↔fF es' i j)):wins es (List.range n)=wins es' (List.range n)∧run es (List.range n)=run es' (List.range n):=by
  obtain ⟨h1,h2,h3⟩:=oo es [] _ (nA n) (nB n) hb
  obtain ⟨k1,k2,k3⟩:=oo es' [] _ (nA n) (nB n) hb'
  rw [List.append_nil] at h1 k1
  have cr:∀ (l:List (Nat × Nat)) (i j:Nat),fF l.reverse i j↔fF l i j:=fun l i j=>⟨fF.sub (by simp),fF.sub (by simp)⟩
  have he:run es (List.range n)=run es' (List.range n):=FQ h1 k1 h2 k2 (fun i j hi hj=>(cr es i j).trans ((hc i j hi hj).trans (cr es' i j).symm))
  rw [he] at h3
  exact ⟨by omega,he⟩
theorem uR:∀ (es fs:List (Nat × Nat)) (L:List Nat),wins (es++fs) L=wins es L+wins fs (run es L)
  |[],_,_=>by simp [wins,run]
  |e :: es,fs,L=>by
    have:=uR es fs (join L e.1 e.2)
    simp only [List.cons_append,wins,run,this]
    omega
theorem FT {n:Nat} {es:List (Nat × Nat)} {e:Nat × Nat} (hb:∀ e ∈ es,e.1<n∧e.2<n) (he:e.1<n∧e.2<n) (hw:wins es (List.range n)=es.length) (hc:¬fF es e.1 e.2):wins (es++[e]) (List.range n)=(es++[e]).length:=by
  obtain ⟨h1,_,_⟩:=oo es [] _ (nA n) (nB n) hb
  rw [List.append_nil] at h1
  have hne:¬(run es (List.range n)).getD e.1 0=(run es (List.range n)).getD e.2 0:=fun h=>hc (fF.sub (by simp) ((h1.2 e.1 e.2 he.1 he.2).1 h))
  rw [uR,hw,List.length_append]
  simp only [wins,if_neg hne,List.length_cons,List.length_nil]
theorem fF.HQ {es:List (Nat × Nat)} {e:Nat × Nat} {i j:Nat}:fF (es++[e]) i j↔fF (e :: es) i j:=
  ⟨fF.sub fun x hx=>by
    rcases List.mem_append.1 hx with h|h
    · exact List.mem_cons_of_mem _ h
    · rw [List.mem_singleton.1 h];exact List.mem_cons_self,
   fF.sub fun x hx=>by
    rcases List.mem_cons.1 hx with h|h
    · rw [h];exact List.mem_append_right _ (List.mem_singleton.2 rfl)
    · exact List.mem_append_left _ h⟩
theorem FU {n:Nat} {es:List (Nat × Nat)} (hb:∀ e ∈ es,e.1<n∧e.2<n) {i j:Nat} (hi:i<n) (hj:j<n):(run es (List.range n)).getD i 0=(run es (List.range n)).getD j 0↔fF es i j:=by
  obtain ⟨h1,_,_⟩:=oo es [] _ (nA n) (nB n) hb
  rw [List.append_nil] at h1
  exact (h1.2 i j hi hj).trans ⟨fF.sub (by simp),fF.sub (by simp)⟩
end Go.Proofs.Ytbkjplomoegbdaa.nM
end
section
namespace Go.Proofs.Ytbkjplomoegbdaa.pF
open Go.Proofs.Ytbkjplomoegbdaa.nM
def src (E:Nat→Nat × Nat) (p:Nat × Int):Nat:=if p.2=1 then (E p.1).1 else (E p.1).2
def dst (E:Nat→Nat × Nat) (p:Nat × Int):Nat:=if p.2=1 then (E p.1).2 else (E p.1).1
def Way (E:Nat→Nat × Nat) (T:List Nat):Nat→Nat→List (Nat × Int)→Prop
  |x,y,[]=>x=y
  |x,y,p :: l=>p.1 ∈ T∧(p.2=1∨p.2= -1)∧x=src E p∧Way E T (dst E p) y l
def nodes (E:Nat→Nat × Nat) (x:Nat) (l:List (Nat × Int)):List Nat:=x :: l.map (dst E)
variable {E:Nat→Nat × Nat} {T:List Nat}
theorem sO (x:Nat) (p:Nat × Int) (l:List (Nat × Int)):nodes E x (p :: l)=x :: nodes E (dst E p) l:=rfl
theorem qm (x:Nat) (l m:List (Nat × Int)):nodes E x (l++m)=nodes E x l++m.map (dst E):=by simp [nodes]
theorem Way.append:∀ {l m:List (Nat × Int)} {x y z:Nat},Way E T x y l→Way E T y z m→Way E T x z (l++m)
  |[],_,_,_,_,h,k=>by cases h;exact k
  |_ :: _,_,_,_,_,⟨h1,h2,h3,h4⟩,k=>⟨h1,h2,h3,Way.append h4 k⟩
theorem Way.split:∀ {l m:List (Nat × Int)} {x z:Nat},Way E T x z (l++m)→∃ y,Way E T x y l∧Way E T y z m
  |[],_,x,_,h=>⟨x,rfl,h⟩
  |_ :: l,_,_,_,⟨h1,h2,h3,h4⟩=>by
    obtain ⟨y,a,b⟩:=Way.split (l:=l) h4
    exact ⟨y,⟨h1,h2,h3,a⟩,b⟩
theorem Way.one {p:Nat × Int} (h:p.1 ∈ T) (hs:p.2=1∨p.2= -1):Way E T (src E p) (dst E p) [p]:=⟨h,hs,rfl,rfl⟩
theorem Way.mem:∀ {l:List (Nat × Int)} {x y:Nat},Way E T x y l→∀ p ∈ l,p.1 ∈ T∧(p.2=1∨p.2= -1)
  |q :: l,_,_,⟨h1,h2,_,h4⟩,p,hp=>by
    rcases List.mem_cons.1 hp with rfl|hp
    · exact ⟨h1,h2⟩
    · exact Way.mem h4 p hp
theorem Way.mono {T':List Nat}:∀ {l:List (Nat × Int)} {x y:Nat},(∀ p ∈ l,p.1 ∈ T')→Way E T x y l→Way E T' x y l
  |[],_,_,_,h=>h
  |p :: l,_,_,hs,⟨_,h2,h3,h4⟩=>⟨hs p (by simp),h2,h3,Way.mono (fun q hq=>hs q (by simp [hq])) h4⟩
theorem Way.ends:∀ {l:List (Nat × Int)} {x y:Nat},Way E T x y l→∀ p ∈ l,src E p ∈ nodes E x l∧dst E p ∈ nodes E x l
  |q :: l,x,_,⟨_,_,h3,h4⟩,p,hp=>by
    rw [sO]
    rcases List.mem_cons.1 hp with rfl|hp
    · exact ⟨by rw [h3];simp,by simp [nodes]⟩
    · have:=Way.ends h4 p hp
      exact ⟨List.mem_cons_of_mem _ this.1,List.mem_cons_of_mem _ this.2⟩
theorem DS (p:Nat × Int) (hs:p.2=1∨p.2= -1):((E p.1).1=src E p∧(E p.1).2=dst E p)∨((E p.1).2=src E p∧(E p.1).1=dst E p):=by
  unfold src dst
  rcases hs with h|h
  · rw [if_pos h,if_pos h];exact .inl ⟨rfl,rfl⟩
  · rw [if_neg (by rw [h];decide),if_neg (by rw [h];decide)];exact .inr ⟨rfl,rfl⟩
theorem Way.touch {l:List (Nat × Int)} {x y:Nat} (h:Way E T x y l) {p:Nat × Int} (hp:p ∈ l):(E p.1).1 ∈ nodes E x l∧(E p.1).2 ∈ nodes E x l:=by
  have a:=h.ends p hp
  rcases DS (E:=E) p (h.mem p hp).2 with ⟨h1,h2⟩|⟨h1,h2⟩
  · rw [h1,h2];exact a
  · rw [h1,h2];exact ⟨a.2,a.1⟩
def Acy (E:Nat→Nat × Nat) (T:List Nat):Prop:=∀ P a Q,T=P++a :: Q→¬fF ((P++Q).map E) (E a).1 (E a).2
theorem Acy.cut (hA:Acy E T) {a:Nat} (ha:a ∈ T) {l:List (Nat × Int)} (hl:∀ p ∈ l,p.1 ∈ T∧p.1≠a):¬fF (l.map fun p=>E p.1) (E a).1 (E a).2:=by
  obtain ⟨P,Q,rfl⟩:=List.append_of_mem ha
  intro h
  refine hA P a Q rfl (h.sub ?_)
  intro e he
  obtain ⟨p,hp,rfl⟩:=List.mem_map.1 he
  obtain ⟨h1,h2⟩:=hl p hp
  refine List.mem_map.2 ⟨p.1, ?_,rfl⟩
  simp at h1 ⊢
  rcases h1 with h1|h1|h1
  · exact .inl h1
  · exact absurd h1 h2
  · exact .inr h1
theorem Way.FV {l:List (Nat × Int)} {x x1 y:Nat} (h:Way E T x1 y l) (hx:x ∉ nodes E x1 l) {a:Nat} (ha:x=(E a).1∨x=(E a).2):∀ p ∈ l,p.1≠a:=by
  intro p hp e
  have:=h.touch hp
  rw [e] at this
  rcases ha with h1|h1
  · exact hx (h1 ▸ this.1)
  · exact hx (h1 ▸ this.2)
theorem JR {p:Nat × Int} (hs:p.2=1∨p.2= -1):src E p=(E p.1).1∨src E p=(E p.1).2:=by
  rcases DS (E:=E) p hs with ⟨a,_⟩|⟨a,_⟩
  · exact .inl a.symm
  · exact .inr a.symm
theorem Way.xb:∀ {l:List (Nat × Int)} {x y:Nat},Way E T x y l→(nodes E x l).Nodup→(l.map (·.1)).Nodup
  |[],_,_,_,_=>List.nodup_nil
  |p :: l,x,y,⟨h1,h2,h3,h4⟩,hn=>by
    rw [sO] at hn
    have hn':=List.nodup_cons.1 hn
    rw [List.map_cons]
    refine List.nodup_cons.2 ⟨?_,Way.xb h4 hn'.2⟩
    intro h
    obtain ⟨q,hq,e⟩:=List.mem_map.1 h
    exact h4.FV hn'.1 (by rw [h3];exact JR h2) q hq e
end Go.Proofs.Ytbkjplomoegbdaa.pF
end
