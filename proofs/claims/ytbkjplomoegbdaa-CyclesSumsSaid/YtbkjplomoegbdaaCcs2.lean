/- Parts of the proof of CyclesSums, gathered by a program of this claim out of texts that it or the kit's print wrote: lemmas alone, no condition of their own. -/
import Derived.Test.YtbkjplomoegbdaaCcs1
import Derived.Test.YtbkjplomoegbdaaCcs0
section
namespace Go.Proofs.YtbkjplomoegbdaaW.dA
open Go.Proofs.YtbkjplomoegbdaaW.bO (aa)
def rz (md:Region.Mode) (o:Oper):List Nat:=(o.after.toList.filter (fun e=>Region.binds md e)).map (fun e=>e.on)
def yF (md:Region.Mode) (ops:Array Oper) (i:Nat) (oi:Oper):List Nat:=(List.range ops.size).filter fun j=> !(j==i)&&match ops[j]? with
 |some oj=> !(oj.after.any (fun e=>Region.binds md e&&e.on==i)||oi.apart ops oj)
 |none=>false
def jX (md:Region.Mode) (ops:Array Oper):Bool × List (List Nat × List Nat):=(Region.noSelect ops,(List.range ops.size).map fun i=>match ops[i]? with
 |some o=>(rz md o,yF md ops i o)
 |none=>([],[]))
def oU (T:List (List Nat × List Nat)) (l:List Bool) (i:Nat):Bool:= !l.getD i true&&match T[i]? with
 |some r=>r.1.all (fun j=>l.getD j false)
 |none=>false
def uj (T:List (List Nat × List Nat)) (l:List Bool):List Nat:=(List.range T.length).filter (oU T l)
def Am (T:List (List Nat × List Nat)) (l:List Bool) (i:Nat):Bool:=match T[i]? with
 |some r=>r.2.all (fun j=>l.getD j true)
 |none=>false
def vw (T:List (List Nat × List Nat)) (l:List Bool):Bool:=(List.range T.length).all fun j=> !l.getD j false||match T[j]? with
 |some r=>r.1.all (fun k=>l.getD k false)
 |none=>true
def uk (T:List (List Nat × List Nat)) (i:Nat):Nat→Nat→Bool
 |0,_=>false
 |fuel+1,d=>match T[d]? with
  |some r=>r.1.any fun j=>j==i||uk T i fuel j
  |none=>false
def Dq (T:List (List Nat × List Nat)) (l:List Bool) (ds:List Nat) (i:Nat):Bool:=ds.all fun d=>l.getD d true||uk T i T.length d
section
variable {md:Region.Mode} {ops:Array Oper} {T:Bool × List (List Nat × List Nat)} {l l' li lj lk:Array Bool} {ds:List Nat} {i j k:Nat}
theorem gd (l:Array Bool) (j:Nat) (b:Bool):l.getD j b=l.toList.getD j b:=by simp [Array.getD_eq_getD_getElem?,List.getD_eq_getElem?_getD]
theorem xX (o:Oper) (p:Nat→Bool):o.after.all (fun e=> !Region.binds md e||p e.on)=(rz md o).all p:=by
 unfold rz
 rw [← Array.all_toList]
 induction o.after.toList with
 |nil=>rfl
 |cons e r ih=>
  rw [List.all_cons,ih,List.filter_cons]
  cases h:Region.binds md e<;>simp
theorem Fo (o:Oper) (p:Nat→Bool):o.after.any (fun e=>Region.binds md e&&p e.on)=(rz md o).any p:=by
 unfold rz
 rw [← Array.any_toList]
 induction o.after.toList with
 |nil=>rfl
 |cons e r ih=>
  rw [List.any_cons,ih,List.filter_cons]
  cases h:Region.binds md e<;>simp
theorem oV:(jX md ops).2.length=ops.size:=by simp [jX]
theorem rA {o:Oper} (h:ops[i]? =some o):(jX md ops).2[i]? =some (rz md o,yF md ops i o):=by
 have hi:=(Array.getElem?_eq_some_iff.1 h).1
 unfold jX
 rw [List.getElem?_map,List.getElem?_range hi,Option.map_some,h]
theorem rB (h:ops[i]? =none):(jX md ops).2[i]? =none:=by
 have hi:ops.size≤i:=Array.getElem?_eq_none_iff.1 h
 exact List.getElem?_eq_none (by rw [oV];exact hi)
theorem CA:oU (jX md ops).2 l.toList i=(!l.getD i true&&((ops[i]?).map (·.after.all fun e=> !Region.binds md e||l.getD e.on false)).getD false):=by
 unfold oU
 rw [gd]
 cases h:ops[i]? with
 |none=>rw [rB h];rfl
 |some o=>
  rw [rA h]
  simp only [Option.map_some,Option.getD_some]
  rw [← xX]
  simp only [gd]
theorem th:Region.ready md ops l=uj (jX md ops).2 l.toList:=by
 unfold Region.ready uj
 rw [oV]
 refine List.filter_congr (fun i _=> ?_)
 rw [CA]
theorem Dr:Region.free md ops l i=Am (jX md ops).2 l.toList i:=by
 unfold Region.free Am
 cases h:ops[i]? with
 |none=>rw [rB h]
 |some oi=>
  rw [rA h]
  simp only [yF]
  rw [List.all_filter]
  congr 1
  funext j
  rw [gd]
  cases hj:ops[j]? with
  |none=>cases (j==i)<;>cases (l.toList.getD j true)<;>simp
  |some oj=>
   cases (j==i)<;>cases (l.toList.getD j true)<;>cases (oj.after.any (fun e=>Region.binds md e&&e.on==i)||oi.apart ops oj)<;>simp_all
theorem Fp:Region.tf md ops l=vw (jX md ops).2 l.toList:=by
 unfold Region.tf vw
 rw [oV]
 congr 1
 funext j
 rw [gd]
 cases h:ops[j]? with
 |none=>rw [rB h]
 |some o=>
  rw [rA h]
  simp only
  rw [← xX]
  simp only [gd]
theorem Ao:∀ (fuel d:Nat),Region.nF md ops i fuel d=uk (jX md ops).2 i fuel d
 |0,_=>rfl
 |fuel+1,d=>by
  unfold Region.nF uk
  cases h:ops[d]? with
  |none=>rw [rB h]
  |some o=>
   rw [rA h]
   simp only
   rw [← Fo]
   congr 1
   funext e
   rw [Ao fuel]
theorem I8:Region.Do md ops l ds i=Dq (jX md ops).2 l.toList ds i:=by
 unfold Region.Do Dq
 rw [oV]
 congr 1
 funext d
 rw [gd,Ao]
theorem uI (h:oU T.2 l.toList i=true) (hT:jX md ops=T):(Region.ready md ops l).contains i=true:=by
 subst hT
 rw [th]
 unfold uj
 rw [List.contains_iff_mem,List.mem_filter,List.mem_range]
 refine ⟨?_,h⟩
 unfold oU at h
 rw [Bool.and_eq_true] at h
 cases hq:(jX md ops).2[i]? with
 |none=>rw [hq] at h;simp at h
 |some r=>exact (List.getElem?_eq_some_iff.1 hq).1
theorem ww (h:(l.toList.set i true==l'.toList)=true):(l.setIfInBounds i true==l')=true:=by
 rw [beq_iff_eq] at h ⊢
 apply Array.ext'
 rw [Array.toList_setIfInBounds]
 exact h
def Pq (T:Bool × List (List Nat × List Nat)) (l l':List Bool) (i:Nat):Bool:=T.1&&Am T.2 l i&&oU T.2 l i&&(l.set i true==l')
theorem bz (hT:jX md ops=T) (h:Pq T l.toList l'.toList i=true):I7 md ops l l' i=true:=by
 simp only [Pq,Bool.and_eq_true] at h
 obtain ⟨⟨⟨h1,h2⟩,h3⟩,h4⟩:=h
 have h5:=uI h3 hT
 have h6:=ww h4
 subst hT
 simp only [I7,Bool.and_eq_true]
 exact ⟨⟨⟨h1,by rw [Dr];exact h2⟩,h5⟩,h6⟩
def Gp (T:Bool × List (List Nat × List Nat)) (ds:List Nat) (l l':List Bool) (i:Nat):Bool:=T.1&&Am T.2 l i&&oU T.2 l i&&vw T.2 l&&Dq T.2 l ds i&&(l.set i true==l')
theorem I9 (hT:jX md ops=T) (h:Gp T ds l.toList l'.toList i=true):Al md ops ds l l' i=true:=by
 simp only [Gp,Bool.and_eq_true] at h
 obtain ⟨⟨⟨⟨⟨h1,h2⟩,h3⟩,h4⟩,h5⟩,h6⟩:=h
 have h7:=uI h3 hT
 have h8:=ww h6
 subst hT
 simp only [Al,Bool.and_eq_true]
 exact ⟨⟨⟨⟨⟨h1,by rw [Dr];exact h2⟩,h7⟩,by rw [Fp];exact h4⟩,by rw [I8];exact h5⟩,h8⟩
theorem dZ (hT:jX md ops=T) (h:(uj T.2 l.toList==[i]&&l.toList.set i true==l'.toList)=true):ui md ops l l' i=true:=by
 simp only [Bool.and_eq_true] at h
 obtain ⟨h1,h2⟩:=h
 subst hT
 simp only [ui,Bool.and_eq_true]
 exact ⟨by rw [th];exact h1,ww h2⟩
theorem ul (hT:jX md ops=T) (h:(uj T.2 l.toList==[i,j]&&l.toList.set i true==li.toList&&l.toList.set j true==lj.toList)=true):(Region.ready md ops l==[i,j]&&l.setIfInBounds i true==li&&l.setIfInBounds j true==lj)=true:=by
 simp only [Bool.and_eq_true] at h ⊢
 obtain ⟨⟨h1,h2⟩,h3⟩:=h
 subst hT
 exact ⟨⟨by rw [th];exact h1,ww h2⟩,ww h3⟩
theorem gD (hT:jX md ops=T) (h:(uj T.2 l.toList==[])=true):(Region.ready md ops l==[])=true:=by
 subst hT
 rw [th]
 exact h
def Mx (B:List Nat) (d:Nat):List Nat→Nat
 |[]=>0
 |n :: r=>(2 ^ n ||| (if n<d then B.getD n 0 else 0)) ||| Mx B d r
def gU (T:List (List Nat × List Nat)) (B:List Nat):Bool:=(List.range T.length).all fun d=>match T[d]? with
 |some r=>(B.getD d 0 ||| Mx B d r.1)==Mx B d r.1
 |none=>false
theorem Ds {B:List Nat} {d i:Nat}:∀ {ns:List Nat},(Mx B d ns).testBit i=true→∃ n ∈ ns,n=i∨(n<d∧(B.getD n 0).testBit i=true)
 |[],h=>by simp [Mx] at h
 |n :: r,h=>by
  unfold Mx at h
  rw [Nat.testBit_or,Nat.testBit_or,Bool.or_eq_true,Bool.or_eq_true] at h
  rcases h with (h|h)|h
  ·rw [Nat.testBit_two_pow] at h
   exact ⟨n,List.mem_cons_self,.inl (by simpa using h)⟩
  ·by_cases hn:n<d
   ·rw [if_pos hn] at h
    exact ⟨n,List.mem_cons_self,.inr ⟨hn,h⟩⟩
   rw [if_neg hn] at h
   simp at h
  obtain ⟨m,hm,h2⟩:=Ds h
  exact ⟨m,List.mem_cons_of_mem _ hm,h2⟩
theorem xY {T:List (List Nat × List Nat)} {B:List Nat} (hB:gU T B=true):∀ (fuel d:Nat),d<fuel→d<T.length→(B.getD d 0).testBit i=true→uk T i fuel d=true
 |0,d,h,_,_=>by omega
 |fuel+1,d,h,hd,hb=>by
  have h1:=List.all_eq_true.1 hB d (List.mem_range.2 hd)
  cases hr:T[d]? with
  |none=>rw [hr] at h1;simp at h1
  |some r=>
   rw [hr] at h1
   simp only [beq_iff_eq] at h1
   have h2:(Mx B d r.1).testBit i=true:=by rw [← h1,Nat.testBit_or,hb,Bool.true_or]
   obtain ⟨n,hn,h3⟩:=Ds h2
   unfold uk
   rw [hr]
   simp only
   rw [List.any_eq_true]
   refine ⟨n,hn, ?_⟩
   rcases h3 with rfl|⟨h4,h5⟩
   ·simp
   rw [xY hB fuel n (by omega) (by omega) h5,Bool.or_true]
def Lr (T:List (List Nat × List Nat)) (B:List Nat) (l:List Bool) (ds:List Nat) (i:Nat):Bool:=ds.all fun d=>l.getD d true||(decide (d<T.length)&&(B.getD d 0).testBit i)
def Ls (T:Bool × List (List Nat × List Nat)) (B:List Nat) (ds:List Nat) (l l':List Bool) (i:Nat):Bool:=T.1&&Am T.2 l i&&oU T.2 l i&&vw T.2 l&&Lr T.2 B l ds i&&(l.set i true==l')
theorem cO {B:List Nat} (hT:jX md ops=T) (hB:gU T.2 B=true) (h:Ls T B ds l.toList l'.toList i=true):Al md ops ds l l' i=true:=by
 refine I9 hT ?_
 simp only [Ls,Gp,Bool.and_eq_true] at h ⊢
 obtain ⟨⟨⟨⟨⟨h1,h2⟩,h3⟩,h4⟩,h5⟩,h6⟩:=h
 refine ⟨⟨⟨⟨⟨h1,h2⟩,h3⟩,h4⟩, ?_⟩,h6⟩
 unfold Lr at h5
 unfold Dq
 rw [List.all_eq_true] at h5 ⊢
 intro d hd
 have h7:=h5 d hd
 rw [Bool.or_eq_true,Bool.and_eq_true,decide_eq_true_eq] at h7
 rcases h7 with h7|⟨h8,h9⟩
 ·rw [h7,Bool.true_or]
 rw [xY hB _ d h8 h8 h9,Bool.or_true]
theorem fN {P:Program} {Q:Exit→Act→World→Prop} {S:World→Prop} {n:Nat} {a:Act} {w:World} {B:List Nat} (hT:jX md ops=T) (hB:gU T.2 B=true) (h:aa (jX md ops=T)→aa (gU T.2 B=true)→dO P md ops Q S ds n l a w):dO P md ops Q S ds n l a w:=h ⟨hT⟩ ⟨hB⟩
end
def sx:Code→Nat→Option (Array Oper)
 | .region id ops _,k=>if id==k then some ops else none
 | .seq a b,k=>match sx a k with
  |some o=>some o
  |none=>sx b k
 | .cond _ a b,k=>match sx a k with
  |some o=>some o
  |none=>sx b k
 | .block _ c,k=>sx c k
 | .loop c,k=>sx c k
 | .scope c,k=>sx c k
 | .rangeFunc _ _ a b,k=>match sx a k with
  |some o=>some o
  |none=>sx b k
 |_,_=>none
def opsOf (f:Func) (k:Nat):Array Oper:=((f.body.bind fun c=>sx c k)).getD #[]
end Go.Proofs.YtbkjplomoegbdaaW.dA
end
section
namespace Go.Proofs.YtbkjplomoegbdaaW.bO
open Go.RowKit
namespace Kd
def tag {α:Type} (f:Nat→Nat) (d:Kd α):Kd (α × Nat) where
 sz:=d.sz
 E:=d.E
 K:=fun w x cs=>d.K w x.1 cs
 M:=fun w base ok x cs=>d.M w base (fun k=>ok k∧f k=x.2) x.1 cs
 K_len:=fun h=>d.K_len h
 K_one:=fun h=>d.K_one h
 K_below:=fun hb h=>d.K_below hb h
 K_of_M:=fun h=>d.K_of_M h
 M_mono:=fun hok h=>d.M_mono (fun k hk=>⟨hok k hk.1,hk.2⟩) h
 M_bound:=fun h=>d.M_mono (fun _ hk=>⟨⟨hk.1.1,hk.2⟩,hk.1.2⟩) (d.M_bound h)
 M_move:=fun hm h=>d.M_move (fun k hk=>hm k hk.1) h
 M_lower:=fun hb h=>d.M_lower hb h
def raw (sz:Nat):Kd (List Value) where
 sz:=sz
 E:=[]
 K:=fun _ x cs=>cs=x∧cs.length=sz∧∀ u ∈ cs,u.oneCell'=true
 M:=fun _ _ _ x cs=>cs=x∧cs.length=sz∧∀ u ∈ cs,u.oneCell'=true
 K_len:=fun h=>h.2.1
 K_one:=fun h=>h.2.2
 K_below:=fun _ h=>h
 K_of_M:=fun h=>h
 M_mono:=fun _ h=>h
 M_bound:=fun h=>h
 M_move:=fun _ h=>h
 M_lower:=fun _ h=>h
def S {α:Type} (d:Kd α) (e:Nat) (w:World) (base:Nat) (ok:Nat→Prop) (v:Value) (xs:List α):Prop:=∃ f,(tag f d).R e w base ok v xs.zipIdx
section
variable {α β:Type} {d:Kd α} {d':Kd β} {e e':Nat} {w w1 W:World} {base b:Nat} {ok ok' okv oku:Nat→Prop} {u v:Value} {xs:List α} {ys:List β}
theorem My {xs:List α} {j:Nat} {p:α} (h:xs[j]? =some p):xs.zipIdx[j]? =some (p,j):=by rw [List.getElem?_zipIdx,h,Nat.zero_add];rfl
theorem Lt (h:S d e w base ok v xs):d.R e w base ok v xs:=by
 obtain ⟨f,h0,inner,ho,hr⟩:=h
 rw [List.length_zipIdx] at ho
 exact ⟨h0,inner,ho,by have:=hr.1;rw [List.length_zipIdx] at this;exact this,fun j p hj=>d.M_mono (fun _ hk=>hk.1) (hr.2 j (p,j) (My hj))⟩
theorem Gq {ad:Addr} {n cap:Nat} (h:d.R e w base ok (.slice (some ad) n cap) xs):∃ g,ad=⟨g,0,none⟩:=by
 obtain ⟨_,inner,ho,hr⟩:=h
 rcases ho.2 with ⟨hv,_⟩|⟨g,cap',cur,hv,_⟩
 ·cases hv
 injection hv with ha _ _
 injection ha with ha
 exact ⟨g,ha⟩
theorem Mz {ad:Addr} {n cap:Nat} (h:d.R e W base ok (.slice (some ad) n cap) xs) (z:α) (i:Int) (h0:0≤i) (h1:i<n):
  ∃ c,c.length=d.sz∧d.M W base (fun k=>ok k∧some k≠(Value.slice (some ad) n cap).ownBlock) (xs.getD i.toNat z) c∧∀ j u,c[j]? =some u→W.cell? (ad.add (i.toNat*d.sz+j))=some u:=by
 obtain ⟨g,rfl⟩:=Gq h
 obtain ⟨c,hcl,hM,hcc,_⟩:=Mw h z i h0 h1
 refine ⟨c,hcl,d.M_mono (fun k hk=>⟨hk.1,fun he=>hk.2 (by simpa [Value.ownBlock] using he)⟩) hM,fun j u hu=> ?_⟩
 rw [Gl,Nat.zero_add]
 exact hcc j u hu
theorem ng (hE:d.E=[]) (h:d.R e w base ok v xs):d.R e w base (fun k=>some k=v.ownBlock) v xs:=by
 obtain ⟨h0,inner,ho,hr⟩:=h
 refine ⟨fun k hk=>hk.symm,inner,ho,hr.qF (fun p c hp=>d.M_mono (fun k hk=> ?_) (d.M_bound hp))⟩
 obtain ⟨_,_,_,q,hq,_⟩:=hk
 rw [hE] at hq
 cases hq
theorem sy (d:Kd α) (e:Nat) (w:World) (base:Nat) (ok:Nat→Prop):S d e w base ok (.slice none 0 0) []:=⟨fun _=>0,jE _ _ _ _ _⟩
theorem qM (h:S d e w base ok v xs) (hok:∀ k,ok k→ok' k):S d e w base ok' v xs:=by
 obtain ⟨f,h⟩:=h
 exact ⟨f,bN h hok⟩
theorem Dt (h:S d e w base ok v xs):S d e w base (fun k=>ok k∧base≤k∧k<w.heap.size∧∃ q,q ∈ e :: d.E∧∃ cells,w.heap[k]? =some (.cells cells q (0,0))) v xs:=by
 obtain ⟨f,h⟩:=h
 exact ⟨f,gS h⟩
theorem MA (h:S d e w base ok v xs) (hm:∀ k,ok k→w1.heap[k]? =w.heap[k]?):S d e w1 base ok v xs:=by
 obtain ⟨f,h⟩:=h
 exact ⟨f,ug h hm⟩
theorem MB (h:S d e w base ok v xs) (hm:∀ k,ok k→k<w.heap.size→w1.heap[k]? =w.heap[k]?):S d e w1 base ok v xs:=
 qM (MA (Dt h) (fun k hk=>hm k hk.1 hk.2.2.1)) (fun _ hk=>hk.1)
theorem vz (h:S d e w base ok v xs) (hb:Below w.heap.size w w1):S d e w1 base ok v xs:=MB h (fun k _ hk=>hb.block k hk)
theorem lQ (h:S d e w base ok v xs) (o:Obj):S d e (w.alloc o) base ok v xs:=vz h (ae (Below.refl _ _) o)
theorem mQ (h:S d e w base ok v xs):S d e w.drew base ok v xs:=vz h (jl (Below.refl _ _))
theorem lR (h:S d e w base ok v xs) (m:Nat):S d e (w.drewN m) base ok v xs:=vz h (ab (Below.refl _ _) m)
theorem rC (h:S d e w base ok v xs):∀ k,v.ownBlock=some k→∃ cells,w.heap[k]? =some (.cells cells e (0,0)):=ry (Lt h)
theorem Ap (h:S d e W base ok u xs) (hbase:∀ k,v.ownBlock=some k→W.heap.size≤k) (hb:Below W.heap.size W w1):S d e w1 base (fun k=>ok k∧some k≠v.ownBlock) u xs:=by
 obtain ⟨f,h⟩:=h
 exact ⟨f,kx h hbase hb⟩
theorem Du {v1:Value} (h:S d e W base (fun k=>ok k∧some k≠v.ownBlock) u xs) (hg:W.grownBy w1 v.ownBlock) (hat:v1.ownBlock=v.ownBlock∨∃ b,v1.ownBlock=some b∧W.heap.size≤b):S d e w1 base (fun k=>ok k∧some k≠v1.ownBlock) u xs:=by
 obtain ⟨f,h⟩:=h
 exact ⟨f,il h hg hat⟩
theorem Pr (h:S d e W base ok u xs) (hb:Below W.heap.size W w1):S d e w1 base (fun k=>ok k∧k<W.heap.size) u xs:=
 qM (vz (Dt h) hb) (fun _ hk=>⟨hk.1,hk.2.2.1⟩)
theorem Ps {f f':Nat→Nat} {zs:List (α × Nat)} (h:(tag f d).R e w base ok v zs) (hf:∀ k,ok k→k<w.heap.size→f' k=f k):(tag f' d).R e w base ok v zs:=by
 obtain ⟨h0,inner,ho,hr⟩:=gS h
 exact ⟨fun k hk=>(h0 k hk).1,inner,ho,hr.1,fun j p hj=>d.M_mono (fun k hk=>⟨⟨hk.1.1.1,hk.1.2⟩,(hf k hk.1.1.1 hk.1.1.2.2.1).trans hk.2⟩) (hr.2 j p hj)⟩
end
section
variable {α β:Type} {d:Kd α} {d':Kd β} {e e' g:Nat} {w w1 W:World} {base b:Nat} {ok ok' okv oku:Nat→Prop} {u v:Value} {xs:List α} {ys:List β}
theorem Yi (h:S d e w base ok v xs) {t:Nat} {cells:Array Value} (hb:w.heap[g]? =some (.cells cells t (0,0))) (ht:e≠t):some g≠v.ownBlock:=mz (Lt h) hb ht
theorem Dv (h:S d e w base ok v xs):∃ A c,v= .slice A xs.length c:=cA (Lt h)
theorem Gr {A:Option Addr} {n c:Nat} (h:S d e w base ok (.slice A n c) xs):n=xs.length∧n≤c∧d.C w A xs.length xs:=bf (Lt h)
theorem Pt {ad:Addr} {n cap:Nat} (h:S d e W base ok (.slice (some ad) n cap) xs) (z:α) (i:Int) (h0:0≤i) (h1:i<n):
  ∃ c,c.length=d.sz∧d.M W base (fun k=>ok k∧some k≠(Value.slice (some ad) n cap).ownBlock) (xs.getD i.toNat z) c∧∀ j u,c[j]? =some u→W.cell? (ad.add (i.toNat*d.sz+j))=some u:=Mz (Lt h) z i h0 h1
theorem Gs {N:Nat} (h:S d e w1 base (fun k=>ok k∧k<N) u xs) (hbase:∀ k,v.ownBlock=some k→N≤k):S d e w1 base (fun k=>(ok k∧some k≠v.ownBlock)∧k<N) u xs:=
 qM h (fun k hk=>⟨⟨hk.1,fun e=>Nat.lt_irrefl _ (Nat.lt_of_lt_of_le hk.2 (hbase k e.symm))⟩,hk.2⟩)
theorem Gt (xs:List α) (p:α):(xs++[p]).zipIdx=xs.zipIdx++[(p,xs.length)]:=by rw [List.zipIdx_append];simp
end
section
open Classical in
theorem Pu {α:Type} {d:Kd α} {e base:Nat} {okv:Nat→Prop} {w:World} {v:Value} {xs:List α} (h:S d e w base okv v xs) (m:Nat) (okp:Nat→Prop) (hap:∀ k,okp k→¬okv k):∃ f,(∀ k,okp k→f k=m)∧(tag f d).R e w base okv v xs.zipIdx:=by
 obtain ⟨f,h⟩:=h
 exact ⟨fun k=>if okp k then m else f k,fun k hk=>if_pos hk,Ps h (fun k hk _=>if_neg (fun h2=>hap k h2 hk))⟩
variable {P:Program} {ops:Array Oper} {rest:List Oper} {o:Oper} {a:Act} {Q:Exit→Act→World→Prop} {Kc:Act→World→Prop} {α:Type}
theorem Gu (d:Kd α) {w0 W:World} (base:Nat) (hgd:o.guard=none) (s x:Operand) (t e:TypeId) (z:Value) (bytes:Nat)
  (ho:o.op= .call { callee:= .builtin .append,args:=#[s,x],argTypes:=#[t,t] })
  (ht:P.underlying t=some (.slice e)) (hinfo:(P.info? e).map (fun i=>(i.zero,i.size,i.bytes))=some (some z,d.sz,bytes)) (hz:z.cells.size=d.sz) (hs0:0<d.sz) (hb0:0<bytes)
  (v:Value) (xs:List α) (p:α) (cs:List Value) (ok okp:Nat→Prop) (hs:a.eval s=v) (hx:a.eval x= .slice (some ⟨W.heap.size,0,none⟩) 1 1) (hp:d.M W base okp p cs) (hokp:∀ k,okp k→ok k∧some k≠v.ownBlock) (hfresh:∀ k,W.heap.size≤k→ok k)
  (HO:S d e W base (fun k=>ok k∧¬okp k) v xs) (HB:Below base w0 W) (hbase:base≤W.heap.size) (hl:(xs.length+1)*bytes≤140737488355328)
  (h:∀ v1 w1,S d e w1 base ok v1 (xs++[p])→Below base w0 w1→W.grownBy w1 v.ownBlock→(v1.ownBlock=v.ownBlock∨∃ b,v1.ownBlock=some b∧W.heap.size≤b)→wpList P ops Q rest (a.put o.dst v1) w1):
  wpList P ops Q (o :: rest) a (W.alloc (.cells cs.toArray e)):=by
 obtain ⟨f,hf,hR⟩:=Pu HO xs.length okp (fun _ hk h2=>h2.2 hk)
 refine ox (tag f d) base hgd s x t e z bytes ho ht hinfo hz hs0 hb0 v xs.zipIdx (p,xs.length) cs ok okp hs hx (d.M_mono (fun k hk=>⟨hk,hf k hk⟩) hp) hokp hfresh (bN hR (fun _ hk=>hk.1)) HB hbase (by rw [List.length_zipIdx];exact hl) ?_
 intro v1 w1 hr
 rw [← Gt] at hr
 exact h v1 w1 ⟨f,hr⟩
end
def gap {α:Type} (f:Nat→Nat) (d:Kd α) (i:Nat) (c:List Value):Kd (α × Nat) where
 sz:=d.sz
 E:=d.E
 K:=fun w x cs=>(x.2=i→cs=c∧cs.length=d.sz∧∀ u ∈ cs,u.oneCell'=true)∧(x.2≠i→d.K w x.1 cs)
 M:=fun w base ok x cs=>(x.2=i→cs=c∧cs.length=d.sz∧∀ u ∈ cs,u.oneCell'=true)∧(x.2≠i→d.M w base (fun k=>ok k∧f k=x.2) x.1 cs)
 K_len:=fun {w x cs} h=>by
  by_cases hx:x.2=i
  ·exact (h.1 hx).2.1
  exact d.K_len (h.2 hx)
 K_one:=fun {w x cs} h=>by
  by_cases hx:x.2=i
  ·exact (h.1 hx).2.2
  exact d.K_one (h.2 hx)
 K_below:=fun hb h=>⟨h.1,fun hx=>d.K_below hb (h.2 hx)⟩
 K_of_M:=fun h=>⟨h.1,fun hx=>d.K_of_M (h.2 hx)⟩
 M_mono:=fun hok h=>⟨h.1,fun hx=>d.M_mono (fun k hk=>⟨hok k hk.1,hk.2⟩) (h.2 hx)⟩
 M_bound:=fun h=>⟨h.1,fun hx=>d.M_mono (fun _ hk=>⟨⟨hk.1.1,hk.2⟩,hk.1.2⟩) (d.M_bound (h.2 hx))⟩
 M_move:=fun hm h=>⟨h.1,fun hx=>d.M_move (fun k hk=>hm k hk.1) (h.2 hx)⟩
 M_lower:=fun hb h=>⟨h.1,fun hx=>d.M_lower hb (h.2 hx)⟩
def H {α:Type} (d:Kd α) (e:Nat) (w:World) (base:Nat) (ok:Nat→Prop) (v:Value) (xs:List α) (i:Int) (oki:Nat→Prop) (c:List Value):Prop:=
 (∀ k,oki k→ok k)∧∃ f,(gap f d i.toNat c).R e w base (fun k=>ok k∧¬oki k) v xs.zipIdx
end Kd
end Go.Proofs.YtbkjplomoegbdaaW.bO
end
section
namespace Go.Proofs.YtbkjplomoegbdaaW.bO
open Go.RowKit
namespace Kd
structure Heap {α:Type} (d:Kd α):Prop where
 K:∀ {w w1:World} {x:α} {cs:List Value},(∀ k,k<w.heap.size→w1.heap[k]? =w.heap[k]?)→d.K w x cs→d.K w1 x cs
theorem Fq {w w1:World} (hb:∀ k,k<w.heap.size→w1.heap[k]? =w.heap[k]?) {a:Addr} {v:Value} (h:w.cell? a=some v):w1.cell? a=some v:=by
 have:=hb a.block (World.block_lt_of_cell? w a h)
 simpa [World.cell?,this] using h
theorem Heap.C {α:Type} {d:Kd α} (hd:Heap d) {w w1:World} {A:Option Addr} {n:Nat} {xs:List α} (hb:∀ k,k<w.heap.size→w1.heap[k]? =w.heap[k]?) (h:d.C w A n xs):d.C w1 A n xs:=
 ⟨h.1,h.2.1,fun hn=>by
  obtain ⟨ad,e,hc⟩:=h.2.2 hn
  refine ⟨ad,e,fun j p hj=> ?_⟩
  obtain ⟨c,hs,hr,hcell⟩:=hc j p hj
  exact ⟨c,hs,hd.K hb hr,fun i u hu=>Fq hb (hcell i u hu)⟩⟩
end Kd
end Go.Proofs.YtbkjplomoegbdaaW.bO
end
section
namespace Go.Proofs.YtbkjplomoegbdaaW.bO
open Go.RowKit
def Kept (w W:World) (S:Nat→Prop):Prop:=w.heap.size≤W.heap.size∧∀ i,i<w.heap.size→¬S i→W.heap[i]? =w.heap[i]?
section
variable {w W W2:World} {S S2 S':Nat→Prop}
theorem Kept.refl (w:World) (S:Nat→Prop):Kept w w S:=⟨Nat.le_refl _,fun _ _ _=>rfl⟩
theorem Kept.Gv (h:Below w.heap.size w W) (S:Nat→Prop):Kept w W S:=⟨h.size,fun i hi _=>h.block i hi⟩
theorem Kept.mono (h:Kept w W S) (hs:∀ k,S k→S' k):Kept w W S':=⟨h.1,fun i hi hn=>h.2 i hi (fun hk=>hn (hs i hk))⟩
theorem Kept.xZ (h:Kept w W S) (k:Kept W W2 S2) (hs:∀ k,S2 k→S k∨w.heap.size≤k):Kept w W2 S:=
 ⟨Nat.le_trans h.1 k.1,fun i hi hn=>(k.2 i (Nat.lt_of_lt_of_le hi h.1) (fun h2=>(hs i h2).elim hn (fun h3=>by omega))).trans (h.2 i hi hn)⟩
theorem Kept.ow {row:Option Nat} (hg:W.grownBy W2 row) (h:Kept w W S) (hr:∀ k,row=some k→S k∨w.heap.size≤k):Kept w W2 S:=
 h.xZ (S2:=fun k=>row=some k) ⟨hg.size,fun i hi hn=>hg.block i hi (fun he=>hn he.symm)⟩ hr
theorem Kept.below (h:Kept w W S) (hb:Below W.heap.size W W2):Kept w W2 S:=h.xZ (Kept.Gv hb (fun _=>False)) (fun _ hk=>hk.elim)
theorem Kept.alloc (h:Kept w W S) (o:Obj):Kept w (W.alloc o) S:=h.below (ae (Below.refl _ _) o)
theorem Kept.drew (h:Kept w W S):Kept w W.drew S:=h
theorem Kept.drewN (h:Kept w W S) (m:Nat):Kept w (W.drewN m) S:=h
theorem Kept.setCell (h:Kept w W S) {p:Addr} (hp:S p.block∨w.heap.size≤p.block) (u:Value):Kept w (W.setCell p u) S:=
 h.xZ (S2:=fun k=>k=p.block) ⟨by simp [World.setCell],fun i _ hn=>Below.heap_setCell W p u i hn⟩ (fun k hk=>by rw [hk];exact hp)
theorem nr {g:Nat} {o:Obj} (hb:W.heap[g]? =some o) (hk:Kept W W2 S) (hne:¬S g):W2.heap[g]? =some o:=(hk.2 g (cn hb) hne).trans hb
end
namespace Kd
section
variable {α:Type} {d:Kd α} {e base n c:Nat} {ok oki S S2:Nat→Prop} {w w0 W W1 W2:World} {v:Value} {A:Option Addr} {xs:List α} {i:Int} {cs:List Value}
theorem Gw (h:d.R e W base ok v xs) (hk:Kept W W2 S) (hne:∀ k,ok k→¬S k):d.R e W2 base ok v xs:=uh h (fun k ho hlt=>hk.2 k hlt (hne k ho))
theorem CB (h:d.R e W base ok (.slice A n c) xs) (hok:∀ k,ok k→¬S k):∀ W',Kept W W' S→d.C W' A n xs:=fun W' hk=>by
 have h2:=bf (Gw h hk hok)
 rw [h2.1]
 exact h2.2.2
end
end Kd
end Go.Proofs.YtbkjplomoegbdaaW.bO
end
section
namespace Go.Proofs.YtbkjplomoegbdaaW.bO
open Go.RowKit
def si (P:World→Prop) (W:World) (ok:Nat→Prop):Prop:=∀ W':World,(∀ k,ok k→k<W.heap.size→W'.heap[k]? =W.heap[k]?)→P W'
theorem Ja {W W1:World} {k:Nat} (h:W1.heap[k]? =W.heap[k]?) (hlt:k<W.heap.size):k<W1.heap.size:=by
 rw [Array.getElem?_eq_getElem hlt] at h
 exact (Array.getElem?_eq_some_iff.1 h).1
namespace si
variable {P Q:World→Prop} {W W1:World} {ok ok':Nat→Prop}
theorem now (h:si P W ok):P W:=h W (fun _ _ _=>rfl)
theorem mono (h:si P W ok) (hok:∀ k,ok k→ok' k):si P W ok':=fun W' hW=>h W' (fun k hk hlt=>hW k (hok k hk) hlt)
theorem bound (h:si P W ok):si P W (fun k=>ok k∧k<W.heap.size):=fun W' hW=>h W' (fun k hk hlt=>hW k ⟨hk,hlt⟩ hlt)
theorem step (h:si P W ok) (hm:∀ k,ok k→k<W.heap.size→W1.heap[k]? =W.heap[k]?):si P W1 ok:=fun W' hW=>h W' (fun k hk hlt=>(hW k hk (Ja (hm k hk hlt) hlt)).trans (hm k hk hlt))
end si
namespace Kd
def F {α:Type} (d:Kd α) (W:World) (ok:Nat→Prop) (A:Option Addr) (n:Nat) (xs:List α):Prop:=si (fun W=>d.C W A n xs) W ok
def FK {α:Type} (d:Kd α) (W:World) (ok:Nat→Prop) (x:α) (c:List Value):Prop:=si (fun W=>d.K W x c) W ok
section
variable {α β:Type} {d:Kd α} {e base n n' cc g N:Nat} {ok ok' okp S:Nat→Prop} {w w0 w1 W W1:World} {A A':Option Addr} {u v v1:Value} {xs:List α} {xs':List β} {d':Kd β} {x:α} {c:List Value}
theorem Pv (h:F d W ok A n xs):d.C W A n xs:=si.now h
theorem um (h:F d W ok A n xs) (hok:∀ k,ok k→ok' k):F d W ok' A n xs:=si.mono h hok
theorem Dw (h:F d W ok A n xs):F d W (fun k=>ok k∧k<W.heap.size) A n xs:=si.bound h
theorem Gx (h:F d W ok A n xs) (hm:∀ k,ok k→k<W.heap.size→W1.heap[k]? =W.heap[k]?):F d W1 ok A n xs:=si.step h hm
theorem vA (h:F d W ok A n xs) (hb:Below W.heap.size W W1):F d W1 ok A n xs:=Gx h (fun k _ hlt=>hb.block k hlt)
theorem Jb (h:F d W ok A n xs) (o:Obj):F d (W.alloc o) ok A n xs:=vA h (ae (Below.refl _ _) o)
theorem MC (h:F d W ok A n xs):F d W.drew ok A n xs:=vA h (jl (Below.refl _ _))
theorem Jc (h:F d W ok A n xs) (m:Nat):F d (W.drewN m) ok A n xs:=vA h (ab (Below.refl _ _) m)
theorem Pw (h:F d W ok A n xs) {p:Addr} (hok:∀ k,ok k→k≠p.block) (u:Value):F d (W.setCell p u) ok A n xs:=Gx h (fun k hk _=>Below.heap_setCell W p u k (hok k hk))
theorem Px (d:Kd α) (W:World) (ok:Nat→Prop):F d W ok none ([]:List α).length []:=fun W' _=>Pn d W'
theorem Gy (h:F d W ok A n xs) (a:Nat) (ha:W.heap.size≤a):F d W (fun k=>ok k∧k≠a) A n xs:=um (Dw h) (fun k hk=>⟨hk.1,by have:=hk.2;omega⟩)
theorem Jd (h:F d W (fun k=>ok k∧some k≠v.ownBlock) A n xs) (hg:W.grownBy W1 v.ownBlock) (hat:v1.ownBlock=v.ownBlock∨∃ b,v1.ownBlock=some b∧W.heap.size≤b):F d W1 (fun k=>ok k∧some k≠v1.ownBlock) A n xs:=by
 refine um (si.step (Dw h) (fun k hk hlt=>hg.block k hlt hk.1.2)) (fun k hk=>⟨hk.1.1, ?_⟩)
 rcases hat with hat|⟨b,hb,hle⟩
 ·rw [hat];exact hk.1.2
 rw [hb]
 intro he
 injection he with he
 have:=hk.2
 omega
theorem Aq (h:F d W ok A n xs):F d W (fun k=>ok k∧some k≠(Value.slice none 0 0).ownBlock) A n xs:=um h (fun k hk=>⟨hk,by simp [Value.ownBlock]⟩)
theorem TH (h:d.R e W base ok (.slice A n cc) xs):F d W ok A n xs:=fun W' hW=>by
 have h2:=bf (uh h hW)
 rw [h2.1]
 exact h2.2.2
theorem Je (h:d.M W base ok x c):FK d W ok x c:=fun _ hW=>d.K_of_M (Gj h hW)
end
end Kd
end Go.Proofs.YtbkjplomoegbdaaW.bO
end
section
namespace Go.Proofs.YtbkjplomoegbdaaW.bO
open Go.RowKit
namespace Kd
def chunks (sz:Nat) (n:Nat) (inner:List Value):List (List Value):=(List.range n).map fun j=>(inner.drop (j*sz)).take sz
theorem lD (sz n:Nat) (inner:List Value):(chunks sz n inner).length=n:=by simp [chunks]
theorem Fs {sz n:Nat} {inner:List Value} {j:Nat} (hj:j<n):(chunks sz n inner)[j]? =some ((inner.drop (j*sz)).take sz):=by simp [chunks,hj]
theorem wx {sz n:Nat} {inner:List Value} {j:Nat} {c:List Value} (h:(chunks sz n inner)[j]? =some c):c=(inner.drop (j*sz)).take sz:=by
 have hj:j<n:=by have:=(List.getElem?_eq_some_iff.1 h).1;rwa [lD] at this
 rw [Fs hj] at h
 injection h with h
 exact h.symm
theorem Gz {α:Type} {Rr:α→List Value→Prop} {sz:Nat} {xs:List α} {inner:List Value} (h:gH Rr sz xs inner) (hR:∀ x c,Rr x c→c.length=sz∧∀ u ∈ c,u.oneCell'=true):gH (fun x cs=>cs=x∧cs.length=sz∧∀ u ∈ cs,u.oneCell'=true) sz (chunks sz xs.length inner) inner:=by
 refine ⟨by rw [lD];exact h.1,fun j p hj=> ?_⟩
 have hjl:j<xs.length:=by have:=(List.getElem?_eq_some_iff.1 hj).1;rwa [lD] at this
 have hp:=wx hj
 exact ⟨hp.symm,hR _ _ (h.2 j _ (List.getElem?_eq_getElem hjl))⟩
section
variable {α:Type} {d:Kd α} {e base n cc g:Nat} {ok ok' okp S:Nat→Prop} {w w1 W W1:World} {A:Option Addr} {u v v1:Value} {xs:List α} {x:α} {c:List Value}
def N {α:Type} (d:Kd α) (e:Nat) (w:World) (base:Nat) (ok:Nat→Prop) (v:Value) (xs:List α):Prop:=
 (∀ k,v.ownBlock=some k→ok k)∧∃ rows:List (List Value),rows.length=xs.length∧(raw d.sz).R e w base (fun k=>some k=v.ownBlock) v rows∧∀ (j:Nat) (x:α) (c:List Value),xs[j]? =some x→rows[j]? =some c→FK d w (fun k=>ok k∧some k≠v.ownBlock) x c
theorem R_N (h:d.R e w base ok v xs):N d e w base ok v xs:=by
 obtain ⟨h0,inner,ho,hr⟩:=h
 refine ⟨h0,chunks d.sz xs.length inner,lD _ _ _,⟨fun k hk=>hk.symm,inner,by rw [lD];exact ho,Gz hr (fun x c hp=>⟨d.K_len (d.K_of_M hp),d.K_one (d.K_of_M hp)⟩)⟩,fun j x c hx hc=> ?_⟩
 rw [wx hc]
 exact Je (hr.2 j x hx)
theorem sA (d:Kd α) (e:Nat) (w:World) (base:Nat) (ok:Nat→Prop):N d e w base ok (.slice none 0 0) []:=R_N (jE _ _ _ _ _)
end
end Kd
end Go.Proofs.YtbkjplomoegbdaaW.bO
end
section
namespace Go.Proofs.YtbkjplomoegbdaaW.bO
open Go.RowKit
namespace Kd
section
variable {α:Type} {d:Kd α} {W:World} {g n:Nat} {S ok:Nat→Prop} {A:Option Addr} {ad:Addr} {xs:List α}
theorem Ar (h:d.C W (some ad) n xs) (hn:0<n) (hs:0<d.sz):W.cell? ad≠none:=by
 obtain ⟨ad',he,hc⟩:=h.2.2 hn
 injection he with he
 subst he
 obtain ⟨c,hcl,_,hcell⟩:=hc 0 _ (List.getElem?_eq_getElem (by rw [h.1];exact hn))
 have h1:=hcell 0 _ (List.getElem?_eq_getElem (by omega))
 rw [Nat.zero_mul,Nat.zero_add,Addr.add_zero'] at h1
 rw [h1]
 exact Option.some_ne_none _
theorem Jf (h:d.C W (some ad) n xs) (hn:0<n) (hs:0<d.sz):ad.block<W.heap.size:=by
 cases hc:W.cell? ad with
 |none=>exact absurd hc (Ar h hn hs)
 |some v=>exact World.block_lt_of_cell? W ad hc
end
end Kd
end Go.Proofs.YtbkjplomoegbdaaW.bO
end
section
namespace Go.Proofs.YtbkjplomoegbdaaW.bO
open Go.RowKit
section
variable {w w' u:World} {m B g:Nat} {o:Obj} {row:Option Nat} {S:Nat→Prop} {a:Addr} {v:Value}
theorem wy (hq:w.drewN m=w') (h:Below B u w):Below B u w':=by subst hq;exact ab h m
theorem yG (hq:w.drewN m=w') (h:Kept u w S):Kept u w' S:=by subst hq;exact Kept.drewN h m
theorem CD (hq:w.drewN m=w') (h:w.heap[g]? =some o):w'.heap[g]? =some o:=by subst hq;exact h
end
namespace Kd
section
variable {α:Type} {d:Kd α} {e base n m:Nat} {ok:Nat→Prop} {w w':World} {v:Value} {A:Option Addr} {xs:List α}
theorem MD (hq:w.drewN m=w') (h:d.R e w base ok v xs):d.R e w' base ok v xs:=by subst hq;exact av h m
end
end Kd
end Go.Proofs.YtbkjplomoegbdaaW.bO
end
section
namespace Go.Proofs.YtbkjplomoegbdaaW.bO
theorem gH.one {α:Type} {R:α→List Value→Prop} {ps:List α} {cs:List Value} {p:α} {v:Value} (hp:R p [v]) (h:gH R 1 ps cs):gH R 1 (p :: ps) (v :: cs):=by
 refine ⟨by simp [h.1],fun j q hq=> ?_⟩
 cases j with
 |zero=>
  simp only [List.getElem?_cons_zero,Option.some.injEq] at hq
  subst hq
  simpa using hp
 |succ j=>
  simp only [List.getElem?_cons_succ] at hq
  have h1:=h.2 j q hq
  simpa [Nat.mul_one] using h1
theorem gH.front {α:Type} {R:α→List Value→Prop} {size:Nat} {ps:List α} {cs c all:List Value} {p:α} (hp:R p c) (hc:c.length=size) (h:gH R size ps cs) (ha:c++cs=all):gH R size (p :: ps) all:=by
 subst ha
 refine ⟨by rw [List.length_append,hc,h.1,List.length_cons,Nat.succ_mul,Nat.add_comm],fun j q hq=> ?_⟩
 cases j with
 |zero=>
  simp only [List.getElem?_cons_zero,Option.some.injEq] at hq
  subst hq
  rw [Nat.zero_mul,List.drop_zero,List.take_append_of_le_length (by omega),List.take_of_length_le (by omega)]
  exact hp
 |succ j=>
  simp only [List.getElem?_cons_succ] at hq
  have h1:=h.2 j q hq
  rw [Nat.succ_mul,List.drop_append,List.drop_of_length_le (by rw [hc];exact Nat.le_add_left _ _),List.nil_append,hc,Nat.add_sub_cancel]
  exact h1
theorem gH.c2 {α:Type} {R:α→List Value→Prop} {ps:List α} {cs:List Value} {p:α} {va vb:Value} (hp:R p [va,vb]) (h:gH R 2 ps cs):gH R 2 (p :: ps) (va :: vb :: cs):=gH.front hp rfl h rfl
theorem gH.c6 {α:Type} {R:α→List Value→Prop} {ps:List α} {cs:List Value} {p:α} {va vb vc vd ve vf:Value} (hp:R p [va,vb,vc,vd,ve,vf]) (h:gH R 6 ps cs):gH R 6 (p :: ps) (va :: vb :: vc :: vd :: ve :: vf :: cs):=gH.front hp rfl h rfl
end Go.Proofs.YtbkjplomoegbdaaW.bO
end
section
namespace Go.Proofs.YtbkjplomoegbdaaW.bO
open Go.RowKit
section
variable {P:Program} {ops:Array Oper} {rest:List Oper} {o:Oper} {a:Act} {Q:Exit→Act→World→Prop} {W:World}
theorem gB (hw:Region.wanted o (yielded ops a.tmps)=true) (h:wpList P ops Q ({ o with guard:=none } :: rest) a W):wpList P ops Q (o :: rest) a W:=by
 have h1:Region.wanted { o with guard:=none } (yielded ops a.tmps)=true:=rfl
 unfold wpList at h ⊢
 rw [if_pos h1] at h
 rw [if_pos hw]
 exact h
end
end Go.Proofs.YtbkjplomoegbdaaW.bO
end
section
namespace Go.Proofs.YtbkjplomoegbdaaW.dG
open Go.RowKit Go.Proofs.YtbkjplomoegbdaaW.bO
theorem iQ (k k':IntKind) (x y:Int):Builtin.max2 (.int k x) (.int k' y)=pure (.int k (if x<y then y else x)):=by simp only [Builtin.max2,gt_iff_lt]
theorem iR (k k':IntKind) (x y:Int):Builtin.min2 (.int k x) (.int k' y)=pure (.int k (if y<x then y else x)):=by simp only [Builtin.min2]
theorem jM (ats:Array TypeId) (ty:TypeId) (a b:Value):Builtin.max_ ats ty #[a,b]=(Builtin.max2 a b >>= fun s=>pure s):=by simp only [Builtin.max_,List.foldlM_cons,List.foldlM_nil]
theorem jN (ats:Array TypeId) (ty:TypeId) (a b:Value):Builtin.min_ ats ty #[a,b]=(Builtin.min2 a b >>= fun s=>pure s):=by simp only [Builtin.min_,List.foldlM_cons,List.foldlM_nil]
theorem gW (ats:Array TypeId) (ty:TypeId) (a b c:Value):Builtin.max_ ats ty #[a,b,c]=(Builtin.max2 a b >>= fun s=>Builtin.max2 s c >>= fun s=>pure s):=by simp only [Builtin.max_,List.foldlM_cons,List.foldlM_nil]
theorem gX (ats:Array TypeId) (ty:TypeId) (a b c:Value):Builtin.min_ ats ty #[a,b,c]=(Builtin.min2 a b >>= fun s=>Builtin.min2 s c >>= fun s=>pure s):=by simp only [Builtin.min_,List.foldlM_cons,List.foldlM_nil]
theorem iS (ats:Array TypeId) (ty:TypeId) (a b c d:Value):Builtin.max_ ats ty #[a,b,c,d]=(Builtin.max2 a b >>= fun s=>Builtin.max2 s c >>= fun s=>Builtin.max2 s d >>= fun s=>pure s):=by simp only [Builtin.max_,List.foldlM_cons,List.foldlM_nil]
theorem iT (ats:Array TypeId) (ty:TypeId) (a b c d:Value):Builtin.min_ ats ty #[a,b,c,d]=(Builtin.min2 a b >>= fun s=>Builtin.min2 s c >>= fun s=>Builtin.min2 s d >>= fun s=>pure s):=by simp only [Builtin.min_,List.foldlM_cons,List.foldlM_nil]
end Go.Proofs.YtbkjplomoegbdaaW.dG
namespace Go.Proofs.YtbkjplomoegbdaaW.bO
open Go.RowKit
section
variable {P:Program} {ops:Array Oper} {rest:List Oper} {o:Oper} {a:Act} {Q:Exit→Act→World→Prop} {W:World}
theorem bY {f:FuncId} {as:Array Operand} {ts:Array TypeId} (_ho:o.op= .call { callee:= .value (.func f),args:=as,argTypes:=ts }) (h:wpList P ops Q (o :: rest) a W):wpList P ops Q (o :: rest) a W:=h
theorem gr {b:Builtin} {xs:Array Operand} {ts:Array TypeId} (_ho:o.op= .call { callee:= .builtin b,args:=xs,argTypes:=ts }) (h:wpList P ops Q (o :: rest) a W):wpList P ops Q (o :: rest) a W:=h
end
def mx (a b:Int):Int:=if a<b then b else a
def mn (a b:Int):Int:=if b<a then b else a
theorem mR (w:World) (n:Nat):w.drewN n=w.drewN n:=rfl
namespace Kd
section
variable {α:Type} {d:Kd α} {e base b b' g N:Nat} {ok ok1:Nat→Prop} {W W2 w1:World} {u v:Value} {xs ys:List α} {S:Nat→Prop}
theorem qN (hE:d.E=[]) (h:d.R e W base ok1 v xs) (hok:∀ k,v.ownBlock=some k→ok k):d.R e W base ok v xs:=bN (ng hE h) (fun k hk=>hok k hk.symm)
theorem Dx (h:d.R e W base ok v xs) (hk:Kept W W2 S) (hne:∀ k,ok k→¬S k):d.R e W2 base (fun k=>ok k∧(¬S k∧k<W.heap.size)) v xs:=
 Gw (bN (gS h) (fun k hk=>⟨hk.1,hne k hk.1,hk.2.2.1⟩)) hk (fun _ hk=>hk.2.1)
end
end Kd
end Go.Proofs.YtbkjplomoegbdaaW.bO
namespace Go.Proofs.YtbkjplomoegbdaaW.bO
open Go.RowKit
namespace Kd
def V {α:Type} (d:Kd α) (_e:Nat) (W:World) (_base:Nat) (ok:Nat→Prop) (v:Value) (xs:List α):Prop:=∃ A c,v= .slice A xs.length c∧xs.length≤c∧F d W ok A xs.length xs
section
variable {α β:Type} {d:Kd α} {e base base' n m c g N' lo hi:Nat} {ok ok' S:Nat→Prop} {w W w1:World} {A:Option Addr} {ad:Addr} {u v v1:Value} {xs:List α}
theorem tj (h:V d e W base ok v xs) (hF:∀ A,F d W ok A xs.length xs→F d w1 ok' A xs.length xs):V d e w1 base' ok' v xs:=by
 obtain ⟨A,c,hv,hl,hf⟩:=h
 exact ⟨A,c,hv,hl,hF A hf⟩
theorem Jg (hl:xs.length≤c) (hf:F d W ok A xs.length xs):V d e W base ok (.slice A xs.length c) xs:=⟨A,c,rfl,hl,hf⟩
theorem lS (h:V d e W base ok v xs):∃ A c,v= .slice A xs.length c:=by
 obtain ⟨A,c,hv,_⟩:=h
 exact ⟨A,c,hv⟩
theorem ME (h:V d e W base ok (.slice A n c) xs):n=xs.length∧n≤c∧F d W ok A xs.length xs:=by
 obtain ⟨A',c',hv,hl,hf⟩:=h
 injection hv with ha hn hc
 subst ha;subst hc
 exact ⟨hn,by rw [hn];exact hl,hf⟩
theorem fP (h:V d e W base ok (.slice A n c) xs):n=xs.length∧n≤c∧d.C W A xs.length xs:=⟨(ME h).1,(ME h).2.1,Pv (ME h).2.2⟩
theorem sB (d:Kd α) (e:Nat) (W:World) (base:Nat) (ok:Nat→Prop):V d e W base ok (.slice none 0 0) []:=⟨none,0,rfl,Nat.le_refl _,Px d W ok⟩
theorem fM (h:V d e W base ok v xs) (hok:∀ k,ok k→ok' k):V d e W base ok' v xs:=tj h (fun _ hf=>um hf hok)
theorem rD (h:V d e W base ok v xs) (_:base'≤base):V d e W base' ok v xs:=h
theorem eK (h:V d e W base ok v xs) (hb:Below W.heap.size W w1):V d e w1 base ok v xs:=tj h (fun _ hf=>vA hf hb)
theorem cS (h:V d e W base ok v xs) (o:Obj):V d e (W.alloc o) base ok v xs:=tj h (fun _ hf=>Jb hf o)
theorem dB (h:V d e W base ok v xs):V d e W.drew base ok v xs:=tj h (fun _ hf=>MC hf)
theorem cT (h:V d e W base ok v xs) (m:Nat):V d e (W.drewN m) base ok v xs:=tj h (fun _ hf=>Jc hf m)
theorem kF (h:V d e W base ok v xs) {p:Addr} (hok:∀ k,ok k→k≠p.block) (u:Value):V d e (W.setCell p u) base ok v xs:=tj h (fun _ hf=>Pw hf hok u)
theorem Jh (h:V d e W base (fun k=>ok k∧some k≠u.ownBlock) v xs) (hg:W.grownBy w1 u.ownBlock) (hat:v1.ownBlock=u.ownBlock∨∃ b,v1.ownBlock=some b∧W.heap.size≤b):V d e w1 base (fun k=>ok k∧some k≠v1.ownBlock) v xs:=tj h (fun _ hf=>Jd hf hg hat)
theorem lE (h:V d e W base (fun k=>ok k∧some k≠v.ownBlock) u xs) (hg:W.grownBy w1 v.ownBlock) (hat:v1.ownBlock=v.ownBlock∨∃ b,v1.ownBlock=some b∧W.heap.size≤b):V d e w1 base (fun k=>ok k∧some k≠v1.ownBlock) u xs:=Jh h hg hat
theorem jg (h:V d e W base ok v xs):V d e W base (fun k=>ok k∧some k≠(Value.slice none 0 0).ownBlock) v xs:=tj h (fun _ hf=>Aq hf)
theorem ky (h:V d e W base ok v xs) (a:Nat) (ha:W.heap.size≤a):V d e W base (fun k=>ok k∧k≠a) v xs:=tj h (fun _ hf=>Gy hf a ha)
end
end Kd
end Go.Proofs.YtbkjplomoegbdaaW.bO
end
