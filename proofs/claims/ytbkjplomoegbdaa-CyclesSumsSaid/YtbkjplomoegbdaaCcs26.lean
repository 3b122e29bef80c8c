/- Parts of the proof of CyclesSums, gathered by a program of this claim out of texts that it or the kit's print wrote: lemmas alone, no condition of their own. -/
import Derived.Test.YtbkjplomoegbdaaCcs25
section
namespace Go.Proofs.Ytbkjplomoegbdaa.ud
open Go.RowKit Go.Proofs.Ytbkjplomoegbdaa.PB Go.Proofs.Ytbkjplomoegbdaa.nM Go.Proofs.Ytbkjplomoegbdaa.pF Go.Proofs.Ytbkjplomoegbdaa.kH Go.Proofs.Ytbkjplomoegbdaa.xA Go.Proofs.YtbkjplomoegbdaaW.bO Go.Proofs.YtbkjplomoegbdaaW.dA Go.Proofs.YtbkjplomoegbdaaW.dG
set_option linter.unusedVariables false
theorem yx (acts:List eu) (i:Nat):l9 acts (i:Int)=(edge acts i).1:=rfl
theorem Fa (acts:List eu) (i:Nat):uB acts (i:Int)=(edge acts i).2:=rfl
def Told (acts:List eu) (T:List Nat) (src n:Nat) (st:List Int × List Bool) (x:Nat):Prop:=
 ∃ l,pF.Way (edge acts) T src x l∧(nodes (edge acts) src l).Nodup∧(∀ y ∈ nodes (edge acts) src l,y<n∧st.2.getD y false=true)∧∀ p ∈ l,st.1.getD (dst (edge acts) p) 0=(p.1:Int)
structure I4 (acts:List eu) (T:List Nat) (src n:Nat) (st:List Int × List Bool):Prop where
 lv:st.1.length=n
 ls:st.2.length=n
 hs:st.2.getD src false=true
 told:∀ x,x<n→st.2.getD x false=true→Told acts T src n st x
theorem lP {α:Type} (l:List α) (i j:Nat) (x d:α) (hi:i<l.length):(l.set i x).getD j d=if j=i then x else l.getD j d:=by
 by_cases e:j=i
 ·subst e;simp [List.getD_eq_getElem?_getD,hi]
 rw [if_neg e];simp only [List.getD_eq_getElem?_getD,List.getElem?_set_ne (fun h=>e h.symm)]
theorem I4.grow {acts:List eu} {T:List Nat} {src n:Nat} {st:List Int × List Bool} (h:I4 acts T src n st) (p:Nat × Int) (hp:p.1 ∈ T) (hs:p.2=1∨p.2= -1) (h1:pF.src (edge acts) p<n) (h2:dst (edge acts) p<n)
  (h3:st.2.getD (pF.src (edge acts) p) false=true) (h4:st.2.getD (dst (edge acts) p) false=false):I4 acts T src n (st.1.set (dst (edge acts) p) (p.1:Int),st.2.set (dst (edge acts) p) true):=by
 have ZS:=h.lv
 have I0:=h.ls
 have keep:∀ x,x<n→Told acts T src n st x→Told acts T src n (st.1.set (dst (edge acts) p) (p.1:Int),st.2.set (dst (edge acts) p) true) x:=by
  rintro x hx ⟨l,a,b,c,d⟩
  refine ⟨l,a,b,fun y hy=>⟨(c y hy).1, ?_⟩,fun q hq=> ?_⟩
  ·show (st.2.set _ true).getD y false=true
   rw [lP _ _ _ _ _ (by omega)]
   split
   ·rfl
   exact (c y hy).2
  show (st.1.set _ _).getD _ 0=_
  rw [lP _ _ _ _ _ (by omega),if_neg,d q hq]
  intro e
  have:=(c _ (a.ends q hq).2).2
  rw [e,h4] at this
  cases this
 refine ⟨by simp [ZS],by simp [I0], ?_,fun x hx hxs=> ?_⟩
 ·show (st.2.set _ true).getD src false=true
  rw [lP _ _ _ _ _ (by omega)]
  split
  ·rfl
  exact h.hs
 have hxs':(st.2.set (dst (edge acts) p) true).getD x false=true:=hxs
 rw [lP _ _ _ _ _ (by omega)] at hxs'
 by_cases e:x=dst (edge acts) p
 ·subst e
  obtain ⟨l,a,b,c,d⟩:=h.told _ h1 h3
  have hnot:dst (edge acts) p ∉ nodes (edge acts) src l:=fun hm=>by
   have:=(c _ hm).2
   rw [h4] at this
   cases this
  refine ⟨l++[p],a.append (pF.Way.one hp hs), ?_,fun y hy=> ?_,fun q hq=> ?_⟩
  ·rw [qm]
   rw [List.nodup_append]
   refine ⟨b,by simp,fun y hy z hz=> ?_⟩
   simp only [List.map_cons,List.map_nil,List.mem_singleton] at hz
   subst hz
   intro e
   exact hnot (e ▸ hy)
  ·rw [qm] at hy
   show y<n∧(st.2.set _ true).getD y false=true
   rw [lP _ _ _ _ _ (by omega)]
   rcases List.mem_append.1 hy with hy|hy
   ·refine ⟨(c y hy).1, ?_⟩
    split
    ·rfl
    exact (c y hy).2
   simp only [List.map_cons,List.map_nil,List.mem_singleton] at hy
   subst hy
   exact ⟨h2,by rw [if_pos rfl]⟩
  show (st.1.set _ _).getD _ 0=_
  rw [lP _ _ _ _ _ (by omega)]
  rcases List.mem_append.1 hq with hq|hq
  ·rw [if_neg,d q hq]
   intro e
   exact hnot (e ▸ (a.ends q hq).2)
  rw [List.mem_singleton.1 hq,if_pos rfl]
 rw [if_neg e] at hxs'
 exact keep x hx (h.told x hx hxs')
theorem IP {per:Int} {acts:List eu} {T:List Nat} {src n:Nat} (hok:fD per n acts=true) (hT:∀ i ∈ T,i<acts.length) {st:List Int × List Bool} (h:I4 acts T src n st) {k:Nat} (hk:k ∈ T):
  I4 acts T src n (mG acts st (k:Int))∧iD (mG acts st (k:Int)).2≤iD st.2∧(iD (mG acts st (k:Int)).2=iD st.2→mG acts st (k:Int)=st∧st.2.getD (edge acts k).1 false=st.2.getD (edge acts k).2 false):=by
 obtain ⟨_,_,e1,e2,_⟩:=ll hok (hT k hk)
 have I0:=h.ls
 unfold mG
 rw [yx,Fa]
 by_cases c:st.2.getD (edge acts k).1 false=true∧st.2.getD (edge acts k).2 false=false
 ·rw [if_pos c]
  have h1:=sQ (m:=st.2) (i:=(edge acts k).2) (by omega)
  have h2:=sR (m:=st.2) (i:=(edge acts k).2) (by omega) c.2
  rw [if_pos c.2] at h1
  exact ⟨h.grow (k,1) hk (.inl rfl) e1 e2 c.1 c.2,by show iD (st.2.set _ true)≤_;omega,fun e=>by have e':iD (st.2.set (edge acts k).2 true)=iD st.2:=e;omega⟩
 rw [if_neg c]
 by_cases c2:st.2.getD (edge acts k).2 false=true∧st.2.getD (edge acts k).1 false=false
 ·rw [if_pos c2]
  have h1:=sQ (m:=st.2) (i:=(edge acts k).1) (by omega)
  have h2:=sR (m:=st.2) (i:=(edge acts k).1) (by omega) c2.2
  rw [if_pos c2.2] at h1
  exact ⟨h.grow (k,-1) hk (.inr rfl) e2 e1 c2.1 c2.2,by show iD (st.2.set _ true)≤_;omega,fun e=>by have e':iD (st.2.set (edge acts k).1 true)=iD st.2:=e;omega⟩
 rw [if_neg c2]
 refine ⟨h,Nat.le_refl _,fun _=>⟨rfl, ?_⟩⟩
 cases hx:st.2.getD (edge acts k).1 false<;>cases hy:st.2.getD (edge acts k).2 false
 ·rfl
 ·exact absurd ⟨hy,hx⟩ c2
 ·exact absurd ⟨hx,hy⟩ c
 rfl
theorem Cp {per:Int} {acts:List eu} {T:List Nat} {src n:Nat} (hok:fD per n acts=true) (hT:∀ i ∈ T,i<acts.length):∀ (K:List Nat) (st:List Int × List Bool),(∀ i ∈ K,i ∈ T)→I4 acts T src n st→
  I4 acts T src n (iE acts (ints K) st)∧iD (iE acts (ints K) st).2≤iD st.2∧(iD (iE acts (ints K) st).2=iD st.2→iE acts (ints K) st=st∧∀ k ∈ K,st.2.getD (edge acts k).1 false=st.2.getD (edge acts k).2 false)
 |[],st,_,h=>⟨h,Nat.le_refl _,fun _=>⟨rfl,fun k hk=>by simp at hk⟩⟩
 |k :: K,st,hK,h=>by
  obtain ⟨a1,a2,a3⟩:=IP hok hT h (hK k (by simp))
  obtain ⟨b1,b2,b3⟩:=Cp hok hT K _ (fun i hi=>hK i (by simp [hi])) a1
  have e:iE acts (ints (k :: K)) st=iE acts (ints K) (mG acts st (k:Int)):=rfl
  rw [e]
  refine ⟨b1,by omega,fun hf=> ?_⟩
  obtain ⟨c1,c2⟩:=a3 (by omega)
  obtain ⟨d1,d2⟩:=b3 (by omega)
  rw [c1] at d1 d2 ⊢
  refine ⟨d1,fun j hj=> ?_⟩
  rcases List.mem_cons.1 hj with rfl|hj
  ·exact c2
  exact d2 j hj
theorem xF {acts:List eu} {K:List Int} {st:List Int × List Bool} (h:iE acts K st=st):∀ r,iN acts K r st=st
 |0=>rfl
 |r+1=>by show iN acts K r (iE acts K st)=st;rw [h];exact xF h r
theorem xG {per:Int} {acts:List eu} {T:List Nat} {src n:Nat} (hok:fD per n acts=true) (hT:∀ i ∈ T,i<acts.length):∀ (r:Nat) (st:List Int × List Bool),I4 acts T src n st→iD st.2<r→
  I4 acts T src n (iN acts (ints T) r st)∧∀ k ∈ T,(iN acts (ints T) r st).2.getD (edge acts k).1 false=(iN acts (ints T) r st).2.getD (edge acts k).2 false
 |0,_,_,hr=>absurd hr (Nat.not_lt_zero _)
 |r+1,st,h,hr=>by
  obtain ⟨a1,a2,a3⟩:=Cp hok hT T st (fun _ hi=>hi) h
  by_cases e:iD (iE acts (ints T) st).2=iD st.2
  ·obtain ⟨b1,b2⟩:=a3 e
   rw [xF b1]
   exact ⟨h,b2⟩
  exact xG hok hT r _ a1 (by omega)
theorem vh {m:Nat→Bool}:∀ {es:List (Nat × Nat)} {i j:Nat},(∀ e ∈ es,m e.1=m e.2)→fF es i j→m i=m j
 |[],i,j,_,h=>by cases h;rfl
 |e :: es,i,j,hm,h=>by
  have he:=hm e (by simp)
  have ih:∀ {i j:Nat},fF es i j→m i=m j:=fun {i j} h=>vh (fun x hx=>hm x (by simp [hx])) h
  rcases h with h|⟨h,k⟩|⟨h,k⟩
  ·exact ih h
  ·rw [ih h,he,ih k]
  rw [ih h,← he,ih k]
theorem IQ {per:Int} {acts:List eu} {T:List Nat} {src n:Nat} (hok:fD per n acts=true) (hT:∀ i ∈ T,i<acts.length) (via:List Int):∀ (k:Nat) (l:List (Nat × Int)) (x:Nat) (ar sg:List Int),l.length<k→
  pF.Way (edge acts) T src x l→(nodes (edge acts) src l).Nodup→(∀ p ∈ l,via.getD (dst (edge acts) p) 0=(p.1:Int))→
   mH n acts via src k x ar sg=some (l.map (fun p=>(p.1:Int))++ar,l.map (·.2)++sg):=by
 intro k
 induction k with
 |zero=>intro l x ar sg h;exact absurd h (Nat.not_lt_zero _)
 |succ k ih=>
  intro l x ar sg hlt hw hn hv
  rcases List.eq_nil_or_concat l with rfl|⟨l',p,rfl⟩
  ·have:src=x:=hw
   subst this
   unfold mH
   rw [if_pos rfl]
   rfl
  rw [List.concat_eq_append] at*
  obtain ⟨y,w1,w2⟩:=hw.split
  obtain ⟨hpT,hps,hy,hx⟩:=w2
  have hx':dst (edge acts) p=x:=hx
  have hpl:=hT _ hpT
  obtain ⟨f1,f2,e1,e2,_,_,hne⟩:=ll hok hpl
  rw [qm] at hn
  have hn':=List.nodup_append.1 hn
  have hxs:¬x=src:=by
   intro e
   have:=hn'.2.2 src (by simp [nodes]) x (by rw [← hx'];simp)
   exact this e.symm
  have hvia:via.getD x 0=(p.1:Int):=by rw [← hx'];exact hv p (by simp)
  have hfit:zz n acts (p.1:Int)=true:=by
   unfold zz
   simp only [Int.toNat_natCast,Bool.and_eq_true,decide_eq_true_eq]
   omega
  unfold mH
  rw [if_neg hxs,hvia,yx,Fa]
  have hl':l'.length<k:=by rw [List.length_append] at hlt;simp at hlt;omega
  rcases hps with s|s
  ·have d:dst (edge acts) p=(edge acts p.1).2:=by unfold dst;rw [if_pos s]
   have c:pF.src (edge acts) p=(edge acts p.1).1:=by unfold pF.src;rw [if_pos s]
   have hnf:¬(edge acts p.1).1=x:=by rw [← hx',d];exact hne
   rw [if_pos ⟨hfit,.inr (by rw [← d];exact hx')⟩,if_neg hnf,if_neg hnf]
   rw [ih l' _ _ _ hl' (by rw [← c,← hy];exact w1) hn'.1 (fun q hq=>hv q (by simp [hq]))]
   simp [s]
  have s':¬p.2=1:=by rw [s];decide
  have d:dst (edge acts) p=(edge acts p.1).1:=by unfold dst;rw [if_neg s']
  have c:pF.src (edge acts) p=(edge acts p.1).2:=by unfold pF.src;rw [if_neg s']
  have hf:(edge acts p.1).1=x:=by rw [← d];exact hx'
  rw [if_pos ⟨hfit,.inl hf⟩,if_pos hf,if_pos hf]
  rw [ih l' _ _ _ hl' (by rw [← c,← hy];exact w1) hn'.1 (fun q hq=>hv q (by simp [hq]))]
  simp [s]
theorem IR {per:Int} {evs:List hO} {acts:List eu} (hok:fD per evs.length acts=true) {T:List Nat} (hT:∀ i ∈ T,i<acts.length) {a b:Nat} (ha:a<evs.length) (hb:b<evs.length) (hc:fF (jK acts T) a b):
  ∃ l,pF.Way (edge acts) T a b l∧(nodes (edge acts) a l).Nodup∧l.length<evs.length∧fk.f per evs acts (ints T) (a:Int) (b:Int)=some (l.map (fun p=>(p.1:Int)),l.map (·.2),true):=by
 have hn:evs.length≤48:=by simp [fD] at hok;omega
 have hl0:((List.replicate evs.length false).set a true).length=evs.length:=by simp
 have hs0:((List.replicate evs.length false).set a true).getD a false=true:=by rw [lP _ _ _ _ _ (by simpa using ha),if_pos rfl]
 have h0:I4 acts T a evs.length (List.replicate evs.length (-1),(List.replicate evs.length false).set a true):=by
  refine ⟨by simp,by simp,hs0,fun x hx hxs=> ?_⟩
  have hxs':((List.replicate evs.length false).set a true).getD x false=true:=hxs
  rw [lP _ _ _ _ _ (by simpa using ha)] at hxs'
  have e:x=a:=by
   by_cases e:x=a
   ·exact e
   rw [if_neg e] at hxs'
   simp [List.getD_eq_getElem?_getD,hx] at hxs'
  subst e
  refine ⟨[],rfl,by simp [nodes],fun y hy=> ?_,fun p hp=>by simp at hp⟩
  have:y=x:=by simpa [nodes] using hy
  subst this
  exact ⟨hx,hs0⟩
 have hf0:iD ((List.replicate evs.length false).set a true)<evs.length:=by
  have h1:=sQ (m:=List.replicate evs.length false) (i:=a) (by simpa using ha)
  have h2:(List.replicate evs.length false).getD a false=false:=by simp [List.getD_eq_getElem?_getD,ha]
  have h3:=sR (m:=List.replicate evs.length false) (i:=a) (by simpa using ha) h2
  have h4:iD (List.replicate evs.length false)≤evs.length:=by
   have:=List.countP_le_length (p:=fun b:Bool=> !b) (l:=List.replicate evs.length false)
   simpa [iD] using this
  rw [if_pos h2] at h1
  omega
 obtain ⟨hI,hcl⟩:=xG hok hT evs.length _ h0 hf0
 have hseen:(iN acts (ints T) evs.length (List.replicate evs.length (-1),(List.replicate evs.length false).set a true)).2.getD b false=true:=by
  have:=vh (m:=fun x=>(iN acts (ints T) evs.length (List.replicate evs.length (-1),(List.replicate evs.length false).set a true)).2.getD x false) (es:=jK acts T) (fun e he=>by
   obtain ⟨k,hk,rfl⟩:=List.mem_map.1 he
   exact hcl k hk) hc
  rw [← this]
  exact hI.hs
 obtain ⟨l,w1,w2,w3,w4⟩:=hI.told b hb hseen
 have hlen:l.length<evs.length:=by
  have:=wW evs.length _ w2 (fun y hy=>(w3 y hy).1)
  simp [nodes] at this
  omega
 refine ⟨l,w1,w2,hlen, ?_⟩
 unfold fk.f
 have hfits:(ints T).all (zz evs.length acts)=true:=by
  rw [List.all_eq_true]
  intro k hk
  obtain ⟨i,hi,rfl⟩:=List.mem_map.1 hk
  obtain ⟨f1,f2,e1,e2,_⟩:=ll hok (hT i hi)
  have:=hT i hi
  unfold zz
  simp only [Int.toNat_natCast,Bool.and_eq_true,decide_eq_true_eq]
  omega
 rw [hfits,decide_eq_true (show (0:Int)≤(a:Int) by omega),decide_eq_true (show (a:Int)<(evs.length:Int) by omega),decide_eq_true (show (0:Int)≤(b:Int) by omega),decide_eq_true (show (b:Int)<(evs.length:Int) by omega),decide_eq_true (show evs.length≤1048576 by omega)]
 simp only [Bool.and_self,if_true,Int.toNat_natCast,hseen]
 rw [if_neg (by simp),IQ hok hT _ (evs.length+1) l b [] [] (by omega) w1 w2 w4]
 simp
end Go.Proofs.Ytbkjplomoegbdaa.ud
end
section
namespace Go.Proofs.Ytbkjplomoegbdaa.z7
open Go.RowKit Go.Proofs.Ytbkjplomoegbdaa.PB Go.Proofs.Ytbkjplomoegbdaa.nM Go.Proofs.Ytbkjplomoegbdaa.pF Go.Proofs.Ytbkjplomoegbdaa.kH Go.Proofs.Ytbkjplomoegbdaa.xA Go.Proofs.Ytbkjplomoegbdaa.ud Go.Proofs.YtbkjplomoegbdaaW.bO Go.Proofs.YtbkjplomoegbdaaW.dA Go.Proofs.YtbkjplomoegbdaaW.dG
set_option linter.unusedVariables false
theorem Fb {E:Nat→Nat × Nat} {T:List Nat}:∀ {l:List (Nat × Int)} {x y:Nat},pF.Way E T x y l→(nodes E x l).getD l.length 0=y∧∀ i,(h:i<l.length)→pF.src E (l[i])=(nodes E x l).getD i 0∧dst E (l[i])=(nodes E x l).getD (i+1) 0
 |[],x,y,h=>⟨h,fun i hi=>absurd hi (Nat.not_lt_zero _)⟩
 |p :: l,x,y,⟨_,_,h3,h4⟩=>by
  obtain ⟨a,b⟩:=Fb h4
  rw [sO]
  refine ⟨by simpa using a,fun i hi=> ?_⟩
  cases i with
  |zero=>exact ⟨by simpa using h3.symm,by simp [nodes]⟩
  |succ i=>
   have:=b i (by simpa using hi)
   simpa using this
theorem yy {α:Type} {l:List α} (h:l.Nodup) {a b:Nat} (ha:a<l.length) (hb:b<l.length) (e:l[a]=l[b]):a=b:=by
 rcases Nat.lt_trichotomy a b with c|c|c
 ·exact absurd e (List.pairwise_iff_getElem.1 h a b ha hb c)
 ·exact c
 exact absurd e.symm (List.pairwise_iff_getElem.1 h b a hb ha c)
def iv (j:Nat) (l:List (Nat × Int)):oW:=⟨[(j:Int)]++l.map (fun p=>(p.1:Int)),[1]++l.map (·.2)⟩
theorem Cq (j:Nat) (l:List (Nat × Int)) (i:Nat) (h:i<l.length):(iv j l).f0.getD (i+1) 0=((l[i]).1:Int)∧(iv j l).f1.getD (i+1) 0=(l[i]).2:=by
 constructor<;>simp [iv,List.getD_eq_getElem?_getD,h]
theorem Lh {per:Int} {n:Nat} {acts:List eu} (hok:fD per n acts=true) {T:List Nat} (hT:∀ i ∈ T,i<acts.length) {j:Nat} (hj:j<acts.length) (hjT:j ∉ T) {l:List (Nat × Int)}
  (hw:pF.Way (edge acts) T (edge acts j).2 (edge acts j).1 l) (hn:(nodes (edge acts) (edge acts j).2 l).Nodup):jY per n acts (iv j l).f0 (iv j l).f1=true:=by
 obtain ⟨fj1,fj2,ej1,ej2,_,_,hne⟩:=ll hok hj
 have hl0:l≠[]:=by
  rintro rfl
  exact hne hw.symm
 have hlen:0<l.length:=List.length_pos_iff.2 hl0
 obtain ⟨hlast,hget⟩:=Fb hw
 have hNl:(nodes (edge acts) (edge acts j).2 l).length=l.length+1:=by simp [nodes]
 obtain ⟨N,hN⟩:∃ N,nodes (edge acts) (edge acts j).2 l=N:=⟨_,rfl⟩
 rw [hN] at hlast hn hNl
 simp only [hN] at hget
 have h0:N.getD 0 0=(edge acts j).2:=by rw [← hN];simp [nodes]
 have hal:(iv j l).f0.length=l.length+1:=by simp [iv]
 have hsl:(iv j l).f1.length=l.length+1:=by simp [iv]
 have hnd:∀ a b,a<l.length+1→b<l.length+1→N.getD a 0=N.getD b 0→a=b:=by
  intro a b ha hb e
  simp only [List.getD_eq_getElem?_getD,List.getElem?_eq_getElem (show a<N.length by omega),List.getElem?_eq_getElem (show b<N.length by omega),Option.getD_some] at e
  exact yy hn _ _ e
 have TD:oI acts ((iv j l).f0.getD 0 0) ((iv j l).f1.getD 0 0)=(N.getD l.length 0:Int)∧oJ acts ((iv j l).f0.getD 0 0) ((iv j l).f1.getD 0 0)=(N.getD 0 0:Int):=by
  rw [hlast,h0]
  have e1:(iv j l).f0.getD 0 0=(j:Int):=by simp [iv]
  have e2:(iv j l).f1.getD 0 0=1:=by simp [iv]
  rw [e1,e2]
  unfold oI oJ
  rw [if_neg (by omega),if_neg (by omega),Int.toNat_natCast]
  exact ⟨fj1,fj2⟩
 have hsts:∀ i,i<l.length→oI acts ((iv j l).f0.getD (i+1) 0) ((iv j l).f1.getD (i+1) 0)=(N.getD i 0:Int)∧oJ acts ((iv j l).f0.getD (i+1) 0) ((iv j l).f1.getD (i+1) 0)=(N.getD (i+1) 0:Int):=by
  intro i hi
  obtain ⟨e1,e2⟩:=Cq j l i hi
  rw [e1,e2]
  obtain ⟨g1,g2⟩:=hget i hi
  obtain ⟨hpT,hps⟩:=hw.mem (l[i]) (List.getElem_mem hi)
  obtain ⟨f1,f2,_,_,_⟩:=ll hok (hT _ hpT)
  rw [← g1,← g2]
  unfold oI oJ pF.src dst
  rw [Int.toNat_natCast]
  have c1:¬((1:Int)<0):=by decide
  have c2:(-1:Int)<0:=by decide
  have c3:¬((-1:Int)=1):=by decide
  rcases hps with s|s
  ·rw [s,if_neg c1,if_neg c1,if_pos (rfl:(1:Int)=1),if_pos (rfl:(1:Int)=1)];exact ⟨f1,f2⟩
  rw [s,if_pos c2,if_pos c2,if_neg c3,if_neg c3];exact ⟨f2,f1⟩
 have gst:∀ i,i<l.length+1→(oT acts (iv j l).f0 (iv j l).f1 (l.length+1)).getD i 0=oI acts ((iv j l).f0.getD i 0) ((iv j l).f1.getD i 0):=fun i hi=>by
  simp [oT,List.getD_eq_getElem?_getD,hi]
 have gen:∀ i,i<l.length+1→(pQ acts (iv j l).f0 (iv j l).f1 (l.length+1)).getD i 0=oJ acts ((iv j l).f0.getD i 0) ((iv j l).f1.getD i 0):=fun i hi=>by
  simp [pQ,List.getD_eq_getElem?_getD,hi]
 have stv:∀ i,i<l.length+1→(oT acts (iv j l).f0 (iv j l).f1 (l.length+1)).getD i 0=(N.getD (if i=0 then l.length else i - 1) 0:Int):=by
  intro i hi
  rw [gst i hi]
  cases i with
  |zero=>exact TD.1
  |succ i=>rw [if_neg (by omega)];exact (hsts i (by omega)).1
 have env:∀ i,i<l.length+1→(pQ acts (iv j l).f0 (iv j l).f1 (l.length+1)).getD i 0=(N.getD i 0:Int):=by
  intro i hi
  rw [gen i hi]
  cases i with
  |zero=>exact TD.2
  |succ i=>exact (hsts i (by omega)).2
 refine uy hok (by omega) (by omega) (fun i hi=> ?_) (fun i hi=> ?_)
 ·have harc:(iv j l).f0.Nodup:=by
   show ([(j:Int)]++l.map (fun p=>(p.1:Int))).Nodup
   rw [List.singleton_append,List.nodup_cons]
   refine ⟨fun h=> ?_, ?_⟩
   ·obtain ⟨p,hp,e⟩:=List.mem_map.1 h
    have:p.1=j:=by omega
    exact hjT (this ▸ (hw.mem p hp).1)
   have:=hw.xb (hN ▸ hn)
   have e:l.map (fun p=>(p.1:Int))=(l.map (·.1)).map (fun i:Nat=>(i:Int)):=by rw [List.map_map];rfl
   rw [e]
   exact List.Pairwise.map _ (fun a b h1 h2=>h1 (by omega)) this
  have hc:((iv j l).f0.take i).contains ((iv j l).f0.getD i 0)=false:=by
   rw [List.contains_eq_mem,decide_eq_false_iff_not]
   intro hm
   obtain ⟨q,hq,e⟩:=List.getElem_of_mem hm
   have hq':q<i:=by rw [List.length_take] at hq;omega
   rw [List.getElem_take] at e
   have e2:(iv j l).f0.getD i 0=(iv j l).f0[i]:=by simp [List.getD_eq_getElem?_getD,hi]
   rw [e2] at e
   have:=yy harc _ _ e
   omega
  unfold jc
  rw [hc]
  cases i with
  |zero=>
   have e1:(iv j l).f0.getD 0 0=(j:Int):=by simp [iv]
   have e2:(iv j l).f1.getD 0 0=1:=by simp [iv]
   rw [e1,e2,decide_eq_true (show (0:Int)≤(j:Int) by omega),decide_eq_true (show (j:Int)<(acts.length:Int) by omega)]
   rfl
  |succ i=>
   obtain ⟨e1,e2⟩:=Cq j l i (by omega)
   obtain ⟨hpT,hps⟩:=hw.mem (l[i]'(by omega)) (List.getElem_mem _)
   have:=hT _ hpT
   rw [e1,e2,decide_eq_true (by omega),decide_eq_true (by omega)]
   rcases hps with s|s<;>rw [s]<;>rfl
 have hi':i<l.length+1:=by omega
 rw [hal]
 unfold qI
 rw [fj]
 have hc:((oT acts (iv j l).f0 (iv j l).f1 (l.length+1)).take i).contains ((oT acts (iv j l).f0 (iv j l).f1 (l.length+1)).getD i 0)=false:=by
  rw [List.contains_eq_mem,decide_eq_false_iff_not]
  intro hm
  obtain ⟨q,hq,e⟩:=List.getElem_of_mem hm
  have hq':q<i:=by rw [List.length_take,fj] at hq;omega
  rw [List.getElem_take] at e
  have e2:(oT acts (iv j l).f0 (iv j l).f1 (l.length+1)).getD q 0=(oT acts (iv j l).f0 (iv j l).f1 (l.length+1)).getD i 0:=by
   rw [← e]
   simp [List.getD_eq_getElem?_getD,fj,show q<l.length+1 by omega]
  rw [stv q (by omega),stv i hi'] at e2
  have:=hnd _ _ (by split<;>omega) (by split<;>omega) (by omega:N.getD (if q=0 then l.length else q - 1) 0=N.getD (if i=0 then l.length else i - 1) 0)
  rw [if_neg (show ¬i=0 by omega)] at this
  split at this<;>omega
 rw [hc,Bool.not_false,Bool.true_and,beq_iff_eq,env i hi']
 by_cases h1:i+1<l.length+1
 ·rw [Nat.mod_eq_of_lt h1,stv (i+1) h1,if_neg (by omega),Nat.add_sub_cancel]
 rw [show i+1=l.length+1 by omega,Nat.mod_self,stv 0 (by omega),if_pos rfl,show i=l.length by omega]
def rq (k:Nat) (x1:List Int) (x6:List (oW)) (x7:Int) (r8:Int) (r9:List (hO)) (n9:List (eu)) (aaQ:Bool):Option ((List (oW)) × Int):=
 if aaQ=true then (aV.l0 k x1 x6 (wrap64 (x7+1)) r8 r9 n9) else (if 0≤x7 then ((fk.f r8 r9 n9 x1 ((aC n9 x7).f2) ((aC n9 x7).f1)).bind fun Fc=>((some (([x7]:List Int):List Int)).bind fun TE=>(if TE.length+Fc.1.length<17592186044416 then ((some (([1]:List Int):List Int)).bind fun TF=>(if TF.length+Fc.2.1.length<17592186044416 then (if x6.length<2932031007402 then (aV.l0 k x1 (x6++[(⟨(TE++Fc.1),(TF++Fc.2.1)⟩:oW)]) (wrap64 (x7+1)) r8 r9 n9) else (none)) else (none))) else (none)))) else (none))
theorem yz (k:Nat) (x1:List Int) (x6:List (oW)) (x7:Int) (r8:Int) (r9:List (hO)) (n9:List (eu)):
  aV.l0 (k+1) x1 x6 x7 r8 r9 n9=if x7<(n9.length:Int) then (cP.f k x1 x7).bind (rq k x1 x6 x7 r8 r9 n9) else some (x6,0):=by
 simp only [aV.l0]
 rfl
def xH (per:Int) (n:Nat) (acts:List eu) (T:List Nat) (c:oW):Prop:=∃ j l,j<acts.length∧j ∉ T∧c=iv j l∧l.length<n∧pF.Way (edge acts) T (edge acts j).2 (edge acts j).1 l∧(nodes (edge acts) (edge acts j).2 l).Nodup
theorem Li {per:Int} {evs:List hO} {acts:List eu} (hok:fD per evs.length acts=true) {T:List Nat} (hT:∀ i ∈ T,i<acts.length) (hTl:T.length≤48) (hc:∀ j,j<acts.length→fF (jK acts T) (edge acts j).1 (edge acts j).2):
  ∀ (d i:Nat) (cs:List oW),i+d=acts.length→cs.length≤i→(∀ c ∈ cs,xH per evs.length acts T c)→
   ∃ r,Ev (fun k=>aV.l0 k (ints T) cs (i:Int) per evs acts) (r,0)∧(∀ c ∈ r,xH per evs.length acts T c)∧r.length≤acts.length∧(∀ c ∈ cs,c ∈ r)∧∀ j,i≤j→j<acts.length→j ∉ T→∃ l,iv j l ∈ r∧pF.Way (edge acts) T (edge acts j).2 (edge acts j).1 l:=by
 have hn:evs.length≤48:=by simp [fD] at hok;omega
 have ha:acts.length≤512:=by simp [fD] at hok;omega
 intro d
 induction d with
 |zero=>
  intro i cs hi hcs hcc
  refine ⟨cs,Ev.step (f:=fun _=>some (cs,0)) (fun k=> ?_) (Ev.now _),hcc,by omega,fun c hc=>hc,fun j h1 h2=>by omega⟩
  simp only [aV.l0]
  rw [if_neg (by omega)]
 |succ d ih=>
  intro i cs hi hcs hcc
  have hil:i<acts.length:=by omega
  have w1:wrap64 ((i:Int)+1)=((i+1:Nat):Int):=by unfold wrap64;omega
  have hh:=Hq (ints T) (i:Int) (by simp [ints];omega)
  by_cases hm:i ∈ T
  ·have hcn:(ints T).contains (i:Int)=true:=by
    rw [List.contains_eq_mem,decide_eq_true_eq]
    exact List.mem_map.2 ⟨i,hm,rfl⟩
   rw [hcn] at hh
   obtain ⟨r,e1,e2,e3,e5,e4⟩:=ih (i+1) cs (by omega) (by omega) hcc
   refine ⟨r,Ev.step (f:=fun k=>(cP.f k (ints T) (i:Int)).bind (rq k (ints T) cs (i:Int) per evs acts)) (fun k=> ?_) (Ev.bind hh ?_),e2,e3,e5,fun j h1 h2 h3=> ?_⟩
   ·rw [yz,if_pos (by omega)]
   ·refine Ev.congr (fun k=> ?_) e1
    unfold rq
    rw [if_pos rfl,w1]
   rcases Nat.eq_or_lt_of_le h1 with h|h
   ·exact absurd (h ▸ hm) h3
   exact e4 j h h2 h3
  have hcn:(ints T).contains (i:Int)=false:=by
   rw [List.contains_eq_mem,decide_eq_false_iff_not]
   intro h
   obtain ⟨q,hq,e⟩:=List.mem_map.1 h
   have:q=i:=by omega
   exact hm (this ▸ hq)
  rw [hcn] at hh
  obtain ⟨f1,f2,e1,e2,_⟩:=ll hok hil
  obtain ⟨l,w,wn,wl,hp⟩:=IR hok hT e2 e1 (hc i hil).symm
  obtain ⟨r,k1,k2,k3,k5,k4⟩:=ih (i+1) (cs++[iv i l]) (by omega) (by simp;omega) (by
   intro c hcm
   rcases List.mem_append.1 hcm with h|h
   ·exact hcc c h
   rw [List.mem_singleton.1 h]
   exact ⟨i,l,hil,hm,rfl,wl,w,wn⟩)
  refine ⟨r,Ev.step (f:=fun k=>(cP.f k (ints T) (i:Int)).bind (rq k (ints T) cs (i:Int) per evs acts)) (fun k=> ?_) (Ev.bind hh ?_),k2,k3,(fun c hc=>k5 c (by simp [hc])),fun j h1 h2 h3=> ?_⟩
  ·rw [yz,if_pos (by omega)]
  ·refine Ev.congr (fun k=> ?_) k1
   have hr:aC acts (i:Int)=acts.getD i jW:=by unfold aC;rw [Int.toNat_natCast]
   unfold rq
   rw [if_neg (by simp),if_pos (by omega),hr,f1,f2,hp,Option.bind_some,Option.bind_some]
   rw [if_pos (by simp;omega),Option.bind_some,if_pos (by simp;omega),if_pos (by omega),w1]
   rfl
  rcases Nat.eq_or_lt_of_le h1 with h|h
  ·subst h
   exact ⟨l,k5 _ (by simp),w⟩
  exact k4 j h h2 h3
theorem xI {per:Int} {evs:List hO} {acts:List eu} (hok:fD per evs.length acts=true) {T:List Nat} (hp:T.Pairwise (·<·)) (hT:∀ i ∈ T,i<acts.length) (hw:wins (jK acts T) (List.range evs.length)=T.length)
  (hc:∀ j,j<acts.length→fF (jK acts T) (edge acts j).1 (edge acts j).2):
  ∃ r,Ev (fun k=>aV.f k per evs acts (ints T)) (r,0)∧(∀ c ∈ r,xH per evs.length acts T c)∧r.length≤acts.length∧∀ j,j<acts.length→j ∉ T→∃ l,iv j l ∈ r∧pF.Way (edge acts) T (edge acts j).2 (edge acts j).1 l:=by
 have hTl:T.length≤48:=by
  have h1:=(oo (jK acts T) [] _ (nA evs.length) (nB evs.length) (rp hok hT)).2.2
  rw [Bv,hw] at h1
  have:evs.length≤48:=by simp [fD] at hok;omega
  omega
 obtain ⟨r,e1,e2,e3,_,e4⟩:=Li hok hT hTl hc acts.length 0 [] (by omega) (by simp) (by simp)
 refine ⟨r,Ev.congr (fun k=> ?_) e1,e2,e3,fun j h1 h2=>e4 j (Nat.zero_le _) h1 h2⟩
 unfold aV.f gp.f
 rw [Dk hok hp hT hw hc,Option.bind_some,if_pos rfl]
 rfl
theorem xH.ok {per:Int} {n:Nat} {acts:List eu} (hok:fD per n acts=true) {T:List Nat} (hT:∀ i ∈ T,i<acts.length) {c:oW} (h:xH per n acts T c):jY per n acts c.f0 c.f1=true:=by
 obtain ⟨j,l,h1,h2,rfl,h4,h5,h6⟩:=h
 exact Lh hok hT h1 h2 h5 h6
end Go.Proofs.Ytbkjplomoegbdaa.z7
end
section
namespace Go.Proofs.Ytbkjplomoegbdaa.Cr
open Go.RowKit Go.Proofs.Ytbkjplomoegbdaa.PB Go.Proofs.Ytbkjplomoegbdaa.nM Go.Proofs.Ytbkjplomoegbdaa.pF Go.Proofs.Ytbkjplomoegbdaa.kH Go.Proofs.Ytbkjplomoegbdaa.xA Go.Proofs.Ytbkjplomoegbdaa.ud Go.Proofs.Ytbkjplomoegbdaa.z7 Go.Proofs.Ytbkjplomoegbdaa.t9 Go.Proofs.Ytbkjplomoegbdaa.yY Go.Proofs.YtbkjplomoegbdaaW.bO Go.Proofs.YtbkjplomoegbdaaW.dA Go.Proofs.YtbkjplomoegbdaaW.dG
set_option linter.unusedVariables false
theorem IU {per:Int} (hper:2≤per∧per≤9) (evs:List hO) (acts:List eu) (src:List Int) (hl:src.length≤281474976710656) (n:Nat) (hn:n≤48):∀ (d i:Nat) (acc:List Int) (q:Int),i+d=n→acc.length=n→0≤q→q≤(src.length:Int)→(∀ j,j<n→0≤acc.getD j 0∧acc.getD j 0<per)→
  ∃ r,Ev (fun k=>cC.l0 k acc (n:Int) (i:Int) per evs acts src q) r∧r.length=n∧∀ j,j<n→0≤r.getD j 0∧r.getD j 0<per:=by
 intro d
 induction d with
 |zero=>
  intro i acc q hi ha h0 h1 hg
  refine ⟨acc,Ev.step (f:=fun _=>some acc) (fun k=> ?_) (Ev.now _),ha,hg⟩
  simp only [cC.l0]
  rw [if_neg (by omega)]
 |succ d ih=>
  intro i acc q hi ha h0 h1 hg
  obtain ⟨x,q',e,x0,x1,y0,y1⟩:=kG src q per hl h0 h1 (by omega) (by omega)
  obtain ⟨r,k1,k2,k3⟩:=ih (i+1) (acc.set i x) q' (by omega) (by simp [ha]) y0 y1 (fun j hj=>by
   rw [ud.lP _ _ _ _ _ (by omega)]
   split
   ·exact ⟨x0,x1⟩
   exact hg j hj)
  refine ⟨r,Ev.step (fun k=> ?_) k1,k2,k3⟩
  simp only [cC.l0]
  rw [if_pos (by omega),e,Option.bind_some,if_pos (by omega),if_pos (by omega),Int.toNat_natCast,lh (show i<n by omega) (by omega)]
theorem IV {per:Int} {evs:List hO} {acts:List eu} (h:wY per evs acts) (src:List Int) (hl:src.length≤281474976710656):
  ∃ r,Ev (fun k=>cC.f k per evs acts src) r∧r.length=evs.length∧∀ j,j<evs.length→0≤r.getD j 0∧r.getD j 0<per:=by
 have hev:=h.hevs
 obtain ⟨r,k1,k2,k3⟩:=IU h.hper evs acts src hl evs.length (by omega) evs.length 0 (List.replicate evs.length 0) 0 (by omega) (by simp) (by omega) (by omega) (fun j hj=>by
  have:=h.hper
  have e:(List.replicate evs.length (0:Int)).getD j 0=0:=by simp [List.getD_eq_getElem?_getD,hj]
  rw [e];omega)
 refine ⟨r,Ev.congr (fun k=> ?_) k1,k2,k3⟩
 unfold cC.f ef.f
 rw [Option.bind_some,if_pos (by omega),if_pos (by omega),Option.bind_some,Int.toNat_natCast,List.length_replicate]
 rfl
theorem Fe:dr.f=some true:=by kernel_rfl
end Go.Proofs.Ytbkjplomoegbdaa.Cr
end
section
namespace Go.Proofs.Ytbkjplomoegbdaa.Ff
open Go.RowKit Go.Proofs.Ytbkjplomoegbdaa.PB Go.Proofs.Ytbkjplomoegbdaa.kH Go.Proofs.Ytbkjplomoegbdaa.t9 Go.Proofs.Ytbkjplomoegbdaa.yY Go.Proofs.YtbkjplomoegbdaaW.bO Go.Proofs.YtbkjplomoegbdaaW.dA Go.Proofs.YtbkjplomoegbdaaW.dG
set_option linter.unusedVariables false
theorem Lj (src:List Int) (hl:src.length≤281474976710656) (n:Nat) (hn:n≤512):∀ (d i:Nat) (acc:List Int) (q:Int),i+d=n→acc.length=n→0≤q→q≤(src.length:Int)→(∀ j,-50≤acc.getD j 0∧acc.getD j 0≤50)→
  ∃ r,Ev (fun k=>cD.l0 k acc (n:Int) (i:Int) src q) r∧r.length=n∧∀ j,-50≤r.getD j 0∧r.getD j 0≤50:=by
 intro d
 induction d with
 |zero=>
  intro i acc q hi ha h0 h1 hg
  refine ⟨acc,Ev.step (f:=fun _=>some acc) (fun k=> ?_) (Ev.now _),ha,hg⟩
  simp only [cD.l0]
  rw [if_neg (by omega)]
 |succ d ih=>
  intro i acc q hi ha h0 h1 hg
  obtain ⟨x,q',e,x0,x1,y0,y1⟩:=kG src q 101 hl h0 h1 (by omega) (by omega)
  have w:wrap64 (x - 50)=x - 50:=by unfold wrap64;omega
  obtain ⟨r,k1,k2,k3⟩:=ih (i+1) (acc.set i (x - 50)) q' (by omega) (by simp [ha]) y0 y1 (fun j=>by
   rw [ud.lP _ _ _ _ _ (by omega)]
   split
   ·omega
   exact hg j)
  refine ⟨r,Ev.step (fun k=> ?_) k1,k2,k3⟩
  simp only [cD.l0]
  rw [if_pos (by omega),e,Option.bind_some,if_pos (by omega),if_pos (by omega),Int.toNat_natCast,lh (show i<n by omega) (by omega),w]
theorem Lk (src:List Int) (hl:src.length≤281474976710656) (n:Nat) (hn:n≤512):
  ∃ r,Ev (fun k=>cD.f k src (n:Int)) r∧r.length=n∧∀ j,-50≤r.getD j 0∧r.getD j 0≤50:=by
 obtain ⟨r,k1,k2,k3⟩:=Lj src hl n hn n 0 (List.replicate n 0) 0 (by omega) (by simp) (by omega) (by omega) (fun j=>by
  have e:(List.replicate n (0:Int)).getD j 0=0:=by
   simp only [List.getD_eq_getElem?_getD,List.getElem?_replicate]
   split<;>rfl
  rw [e];omega)
 refine ⟨r,Ev.congr (fun k=> ?_) k1,k2,k3⟩
 unfold cD.f ef.f
 rw [if_pos (by omega),if_pos (by omega),Option.bind_some,Int.toNat_natCast,List.length_replicate]
 rfl
end Go.Proofs.Ytbkjplomoegbdaa.Ff
end
section
namespace Go.Proofs.Ytbkjplomoegbdaa.Pure
open Go.RowKit Go.Proofs.Ytbkjplomoegbdaa.PB Go.Proofs.Ytbkjplomoegbdaa.nM Go.Proofs.Ytbkjplomoegbdaa.kH Go.Proofs.Ytbkjplomoegbdaa.xA Go.Proofs.Ytbkjplomoegbdaa.z7 Go.Proofs.Ytbkjplomoegbdaa.t9 Go.Proofs.Ytbkjplomoegbdaa.yY Go.Proofs.Ytbkjplomoegbdaa.Cr Go.Proofs.Ytbkjplomoegbdaa.Ff Go.Proofs.YtbkjplomoegbdaaW.bO Go.Proofs.YtbkjplomoegbdaaW.dA Go.Proofs.YtbkjplomoegbdaaW.dG
theorem IW {per:Int} {evs:List hO} {acts:List eu} (h:wY per evs acts) (a:Int):∃ c0 c1 b,Ev (fun k=>ew.f k per evs acts a) (c0,c1,b)∧(b=true→jY per evs.length acts c0 c1=true):=by
 obtain ⟨T,htree,hp,hT,hw,hc⟩:=K8 h.ok
 obtain ⟨r,hfund,hisf,hrl,_⟩:=xI h.ok hp hT hw hc
 have hacts:=h.hacts
 by_cases hr:r=[]
 ·refine ⟨[],[],false,Ev.bind htree (Ev.bind hfund ?_),fun h=>by cases h⟩
  simp only [if_pos hr]
  exact Ev.now _
 have hr0:0<r.length:=List.length_pos_iff.2 hr
 obtain ⟨x,hx,hx0,hx1⟩:=tD a (r.length:Int) (by omega) (by omega)
 have hmem:ja r x ∈ r:=by
  have oQ:x.toNat<r.length:=by omega
  unfold ja
  simp [List.getD_eq_getElem?_getD,oQ]
 refine ⟨(ja r x).f0,(ja r x).f1,true,Ev.bind htree (Ev.bind hfund ?_),fun _=>(hisf _ hmem).ok h.ok hT⟩
 simp only [if_neg hr,if_pos (show r.length≤512 by omega),hx,Option.bind_some,if_pos hx0,if_pos hx1]
 exact Ev.now _
theorem Fg {per:Int} {evs:List hO} {acts:List eu} {c0 c1:List Int} (hc:jY per evs.length acts c0 c1=true) (values times d0 d1:List Int) (hv:values.length≤35184372088832) (ht:times.length≤35184372088832):
  Ev (fun k=>ay.j0 k values times per evs acts c0 c1 d0 d1) true:=by
 refine Ev.step (f:=fun _=>some true) (fun k=> ?_) (Ev.now _)
 simp only [ay.j0,Fe,Option.bind_some,if_true,ei.f,hc,yu _ _ _ _ _ _ _ hv ht]
theorem yA (c:List Int) (h:c.length≤512):([]:List Int).length+c.length<17592186044416:=by
 rw [List.length_nil,Nat.zero_add]
 exact Nat.lt_of_le_of_lt h (by decide)
theorem Gb {per:Int} {evs:List hO} {acts:List eu} {c0 c1:List Int} (hc:jY per evs.length acts c0 c1=true) (ha:acts.length≤8) (values times:List Int) (hv:values.length≤35184372088832) (ht:times.length≤35184372088832) (a4 a5:Int):
  Ev (fun k=>if ([]:List Int).length+c0.length<17592186044416 then ((some (([]:List Int)++c0:List Int)).bind fun Ll=>(if ([]:List Int).length+c1.length<17592186044416 then ((some (([]:List Int)++c1:List Int)).bind fun O2=>((bw.f a4 (Ll.length:Int)).bind fun Gc=>(if (Int.tmod a5 2)=0 then ((bw.f (wrap64 (Int.tdiv a5 2)) (wrap64 ((acts.length:Int)+1))).bind fun oO=>(if 0≤Gc then (if Gc<(Ll.length:Int) then (ay.j0 k values times per evs acts c0 c1 (Ll.set (Gc:Int).toNat oO) O2) else (none)) else (none))) else ((bw.f (wrap64 (Int.tdiv a5 2)) 4).bind fun aaR=>(if 0≤Gc then (if Gc<(O2.length:Int) then (ay.j0 k values times per evs acts c0 c1 Ll (O2.set (Gc:Int).toNat (wrap64 (aaR - 2)))) else (none)) else (none)))))) else (none))) else (none)) true:=by
 obtain ⟨_,h2,h3,h4⟩:=yt hc
 have h5:=rS (Nat.le_refl _) h4
 clear h4
 obtain ⟨x,hx,x0,x1⟩:=tD a4 (c0.length:Int) (by omega) (by omega)
 have w1:wrap64 ((acts.length:Int)+1)=(acts.length:Int)+1:=by unfold wrap64;omega
 obtain ⟨p,hp,_,_⟩:=tD (wrap64 (Int.tdiv a5 2)) ((acts.length:Int)+1) (by omega) (by omega)
 obtain ⟨q,hq,_,_⟩:=tD (wrap64 (Int.tdiv a5 2)) 4 (by decide) (by decide)
 have x2:x<(c1.length:Int):=by omega
 have l1':=yA c0 (by omega)
 have l2':=yA c1 (by omega)
 refine Ev.congr (f:=fun k=>if (Int.tmod a5 2)=0 then ay.j0 k values times per evs acts c0 c1 (c0.set x.toNat p) c1 else ay.j0 k values times per evs acts c0 c1 c0 (c1.set x.toNat (wrap64 (q - 2)))) (fun k=> ?_) ?_
 ·rw [if_pos l1',Option.bind_some,if_pos l2',Option.bind_some,List.nil_append,List.nil_append,hx,Option.bind_some,w1,hp,hq,Option.bind_some,Option.bind_some,if_pos x0,if_pos x1,if_pos x0,if_pos x2]
 split
 ·exact Fg hc _ _ _ _ hv ht
 exact Fg hc _ _ _ _ hv ht
theorem CyclesSums:ay.Pure:=by
 intro l0 l1 l2 a3 a4 a5 m0 y0 _ m1 y1 _ m2 y2 _ _ _ _
 refine Ev.rounds ?_
 have z0:l0.length≤281474976710656:=by omega
 have z1:l1.length≤281474976710656:=by omega
 have z2:l2.length≤281474976710656:=by omega
 clear m0 y0 m1 y1 m2 y2
 obtain ⟨per,evs,acts,hnet,his⟩:=C2 l0 z0
 have hacts:=his.hacts
 have hevs:=his.hevs
 obtain ⟨vs,hlist,hvl,_⟩:=Lk l2 z2 acts.length (by omega)
 obtain ⟨tm,htm,htl,_⟩:=IV his l1 z1
 obtain ⟨c0,c1,b,hcy,hok⟩:=IW his a3
 have hv:vs.length≤35184372088832:=by rw [hvl];exact Nat.le_trans hacts (by decide)
 have ht:tm.length≤35184372088832:=by rw [htl];exact Nat.le_trans hevs.2 (by decide)
 unfold ay.f
 refine Ev.bind hnet (Ev.bind hlist (Ev.bind htm (Ev.bind hcy ?_)))
 cases b with
 |false=>
  simp only [Bool.false_eq_true,if_false,Fe,Option.bind_some,if_true,yu per evs acts l2 l1 vs tm hv ht]
  exact Ev.now _
 |true=>
  simp only [if_true]
  exact Gb (hok rfl) hacts vs tm hv ht a4 a5
end Go.Proofs.Ytbkjplomoegbdaa.Pure
end
