/- Parts of the proof of CyclesSums, gathered by a program of this claim out of texts that it or the kit's print wrote: lemmas alone, no condition of their own. -/
import Derived.Test.YtbkjplomoegbdaaCcs19
import Derived.Test.YtbkjplomoegbdaaCcs20
import Derived.Test.YtbkjplomoegbdaaCcs22
import Derived.Test.YtbkjplomoegbdaaCcs23
section
namespace Go.Proofs.Ytbkjplomoegbdaa.t9
open Go.RowKit Go.Proofs.Ytbkjplomoegbdaa.PB Go.Proofs.Ytbkjplomoegbdaa.kH Go.Proofs.YtbkjplomoegbdaaW.bO Go.Proofs.YtbkjplomoegbdaaW.dA Go.Proofs.YtbkjplomoegbdaaW.dG
set_option linter.unusedVariables false
theorem uC (l:List Int) (i:Nat):rd l (i:Int)=l.getD i 0:=by unfold rd;rw [Int.toNat_natCast]
theorem lh {i n:Nat} (h:i<n) (hn:n≤35184372088832):wrap64 ((i:Int)+1)=((i+1:Nat):Int):=by unfold wrap64;omega
theorem yp {l:List Int} {i:Nat} (h:i<l.length):l.drop i=l.getD i 0 :: l.drop (i+1):=by
 rw [List.drop_eq_getElem_cons h];simp [List.getD_eq_getElem?_getD,h]
theorem KX (l:List Int) (hl:l.length≤35184372088832):∀ (d i:Nat),i+d=l.length→Ev (fun k=>da.l0 k l l (l.length:Int) (i:Int)) true:=by
 intro d
 induction d with
 |zero=>
  intro i hi
  refine Ev.step (f:=fun _=>some true) (fun k=> ?_) (Ev.now _)
  simp only [da.l0]
  rw [if_neg (by omega)]
 |succ d ih=>
  intro i hi
  refine Ev.step (fun k=> ?_) (ih (i+1) (by omega))
  simp only [da.l0]
  rw [if_pos (by omega),if_pos (by omega),if_pos (by omega),if_pos (by omega),if_pos trivial,lh (show i<l.length by omega) hl]
theorem KY (l:List Int) (hl:l.length≤35184372088832):Ev (fun k=>da.f k l l) true:=by
 unfold da.f
 refine Ev.congr (f:=fun k=>da.l0 k l l (l.length:Int) ((0:Nat):Int)) (fun k=>by rw [if_pos rfl];rfl) (KX l hl l.length 0 (by omega))
theorem F8 (l:List Int) (hl:l.length≤35184372088832):∀ (d i:Nat),i+d=l.length→Ev (fun k=>bQ.l0 k l (i:Int)) (!((l.drop i).any jC)):=by
 intro d
 induction d with
 |zero=>
  intro i hi
  refine Ev.step (f:=fun _=>some true) (fun k=> ?_) ?_
  ·simp only [bQ.l0]
   rw [if_neg (by omega)]
  rw [List.drop_eq_nil_of_le (by omega)];exact Ev.now _
 |succ d ih=>
  intro i hi
  rw [yp (show i<l.length by omega),List.any_cons]
  have key:∀ k,bQ.l0 (k+1) l (i:Int)=if jC (l.getD i 0)=true then some false else bQ.l0 k l ((i+1:Nat):Int):=by
   intro k
   simp only [bQ.l0]
   rw [if_pos (by omega),if_pos (by omega),uC,BF,Option.bind_some,lh (show i<l.length by omega) hl]
   by_cases c:jC (l.getD i 0)=true
   ·rw [if_pos c,if_neg]
    unfold jC at c
    simp only [Bool.or_eq_true,decide_eq_true_eq] at c
    simp only [Bool.and_eq_true,decide_eq_true_eq]
    omega
   rw [if_neg c,if_pos]
   unfold jC at c
   simp only [Bool.or_eq_true,decide_eq_true_eq] at c
   simp only [Bool.and_eq_true,decide_eq_true_eq]
   omega
  by_cases c:jC (l.getD i 0)=true
  ·refine Ev.step (f:=fun _=>some false) (fun k=>by rw [key,if_pos c]) ?_
   rw [c];exact Ev.now _
  refine Ev.step (f:=fun k=>bQ.l0 k l ((i+1:Nat):Int)) (fun k=>by rw [key,if_neg c]) ?_
  rw [Bool.eq_false_iff.2 c,Bool.false_or]
  exact ih (i+1) (by omega)
theorem F9 (per:Int) (evs:List hO) (acts:List eu) (l:List Int) (hl:l.length≤35184372088832):Ev (fun k=>bQ.f k per evs acts l) (decide (l5 acts.length l=0)):=by
 unfold bQ.f
 by_cases h:l.length=acts.length
 ·refine Ev.congr (f:=fun k=>bQ.l0 k l ((0:Nat):Int)) (fun k=>by rw [if_pos (by omega)];rfl) ?_
  have:=F8 l hl l.length 0 (by omega)
  rw [List.drop_zero] at this
  unfold l5
  cases c:l.any jC with
  |true=>rw [c] at this;rw [if_pos (.inr rfl)];exact this
  |false=>rw [c] at this;rw [if_neg (by rintro (h1|h1);exact h1 h;cases h1)];exact this
 refine Ev.congr (f:=fun _=>some false) (fun k=>by rw [if_neg (by omega)]) ?_
 unfold l5
 rw [if_pos (.inl h)]
 exact Ev.now _
theorem KZ (per:Int) (evs:List hO) (acts:List eu) (l:List Int) (hl:l.length≤35184372088832):∀ (d i:Nat),i+d=l.length→Ev (fun k=>bG.l0 k l (i:Int) per evs acts) (!((l.drop i).any (px per))):=by
 intro d
 induction d with
 |zero=>
  intro i hi
  refine Ev.step (f:=fun _=>some true) (fun k=> ?_) ?_
  ·simp only [bG.l0]
   rw [if_neg (by omega)]
  rw [List.drop_eq_nil_of_le (by omega)];exact Ev.now _
 |succ d ih=>
  intro i hi
  rw [yp (show i<l.length by omega),List.any_cons]
  have key:∀ k,bG.l0 (k+1) l (i:Int) per evs acts=if px per (l.getD i 0)=true then some false else bG.l0 k l ((i+1:Nat):Int) per evs acts:=by
   intro k
   simp only [bG.l0]
   rw [if_pos (by omega),if_pos (by omega),uC,BF,Option.bind_some,lh (show i<l.length by omega) hl]
   unfold px
   cases (decide (0≤l.getD i 0)&&decide (l.getD i 0≤wrap64 (per - 1)))<;>simp
  by_cases c:px per (l.getD i 0)=true
  ·refine Ev.step (f:=fun _=>some false) (fun k=>by rw [key,if_pos c]) ?_
   rw [c];exact Ev.now _
  refine Ev.step (f:=fun k=>bG.l0 k l ((i+1:Nat):Int) per evs acts) (fun k=>by rw [key,if_neg c]) ?_
  rw [Bool.eq_false_iff.2 c,Bool.false_or]
  exact ih (i+1) (by omega)
theorem K0 (per:Int) (evs:List hO) (acts:List eu) (l:List Int) (hl:l.length≤35184372088832):Ev (fun k=>bG.f k per evs acts l) (tT per evs.length acts l):=by
 unfold bG.f tT
 refine Ev.bind (tG per evs acts) ?_
 have hj:Ev (fun k=>bG.j0 k l true per evs acts) false:=Ev.step (f:=fun _=>some false) (fun k=>by simp only [bG.j0];rfl) (Ev.now _)
 cases fD per evs.length acts with
 |false=>simpa using hj
 |true=>
  simp only [if_true,Bool.true_and]
  by_cases h:l.length=evs.length
  ·have e:((l.length:Int) !=(evs.length:Int))=false:=by rw [bne_eq_false_iff_eq];omega
   rw [e,decide_eq_true h,Bool.true_and]
   refine Ev.step (f:=fun k=>bG.l0 k l ((0:Nat):Int) per evs acts) (fun k=>by simp only [bG.j0];rfl) ?_
   have:=KZ per evs acts l hl l.length 0 (by omega)
   rwa [List.drop_zero] at this
  have e:((l.length:Int) !=(evs.length:Int))=true:=by rw [bne_iff_ne];omega
  rw [e,decide_eq_false h,Bool.false_and]
  exact hj
def IA (a p:Int):Int:=if Int.tmod a p<0 then wrap64 (Int.tmod a p+p) else Int.tmod a p
def sS (per:Int) (times:List Int) (a:eu):Int:=wrap64 (a.f3+IA (wrap64 (wrap64 (times.getD a.f2.toNat 0 - times.getD a.f1.toNat 0) - a.f3)) per)
theorem Rx (a p:Int) (h:1≤p):lg.f a p=some (IA a p):=by
 unfold lg.f IA
 rw [if_neg (by omega),if_neg (by omega)]
 split<;>rfl
theorem Ry (a p:Int) (h:1≤p):gx.f a p=some (IA a p):=by
 unfold gx.f IA
 rw [if_neg (by omega),if_neg (by omega)]
 split<;>rfl
theorem yq {acts:List eu} {i:Nat} (h:i<acts.length):acts.drop i=acts.getD i jW :: acts.drop (i+1):=by
 rw [List.drop_eq_getElem_cons h];simp [List.getD_eq_getElem?_getD,h]
theorem rdT (acts:List eu) (i:Nat):aC acts (i:Int)=acts.getD i jW:=by unfold aC;rw [Int.toNat_natCast]
theorem E6 {per:Int} {n:Nat} {acts:List eu} (hok:fD per n acts=true):1≤per∧acts.length≤512:=by simp [fD] at hok;omega
section
variable {per:Int} {evs:List hO} {acts:List eu} {times:List Int}
theorem E7 (hok:fD per evs.length acts=true) (ht:times.length=evs.length) {i:Nat} (hi:i<acts.length):0≤(acts.getD i jW).f1∧(acts.getD i jW).f1<(times.length:Int)∧0≤(acts.getD i jW).f2∧(acts.getD i jW).f2<(times.length:Int):=by
 obtain ⟨⟨a,b⟩,c,d⟩:=l8 hok (oG (z:=jW) hi)
 omega
theorem OG (hok:fD per evs.length acts=true) (ht:times.length=evs.length):∀ (d i:Nat) (acc:List Int),i+d=acts.length→acc.length=i→Ev (fun k=>cK.l0 k times acc acts (acts.length:Int) (i:Int) per evs acts) (acc++(acts.drop i).map (sS per times),0):=by
 have hp:=E6 hok
 intro d
 induction d with
 |zero=>
  intro i acc hi ha
  refine Ev.step (f:=fun _=>some (acc,0)) (fun k=> ?_) ?_
  ·simp only [cK.l0]
   rw [if_neg (by omega)]
  rw [List.drop_eq_nil_of_le (by omega)];simpa using Ev.now (acc,(0:Int))
 |succ d ih=>
  intro i acc hi ha
  have hil:i<acts.length:=by omega
  obtain ⟨h1,h2,h3,h4⟩:=E7 hok ht hil
  rw [yq hil,List.map_cons]
  refine Ev.step (f:=fun k=>cK.l0 k times (acc++[sS per times (acts.getD i jW)]) acts (acts.length:Int) ((i+1:Nat):Int) per evs acts) (fun k=> ?_) ?_
  ·simp only [cK.l0,lG.f]
   rw [if_pos (by omega),if_pos (by omega),if_pos (by omega),rdT,if_pos h1,if_pos h2,if_pos h3,if_pos h4,Rx _ _ hp.1,Option.bind_some,Option.bind_some,if_pos (by omega),lh hil (by omega)]
   rfl
  have:=ih (i+1) (acc++[sS per times (acts.getD i jW)]) (by omega) (by simp [ha])
  simpa using this
theorem OH (hok:fD per evs.length acts=true) (ht:times.length=evs.length):∀ (d i:Nat) (acc:List Int),i+d=acts.length→acc.length=i→Ev (fun k=>bJ.l0 k times acc (i:Int) per evs acts) (acc++(acts.drop i).map (sS per times),0):=by
 have hp:=E6 hok
 intro d
 induction d with
 |zero=>
  intro i acc hi ha
  refine Ev.step (f:=fun _=>some (acc,0)) (fun k=> ?_) ?_
  ·simp only [bJ.l0]
   rw [if_neg (by omega)]
  rw [List.drop_eq_nil_of_le (by omega)];simpa using Ev.now (acc,(0:Int))
 |succ d ih=>
  intro i acc hi ha
  have hil:i<acts.length:=by omega
  obtain ⟨h1,h2,h3,h4⟩:=E7 hok ht hil
  rw [yq hil,List.map_cons]
  refine Ev.step (f:=fun k=>bJ.l0 k times (acc++[sS per times (acts.getD i jW)]) ((i+1:Nat):Int) per evs acts) (fun k=> ?_) ?_
  ·simp only [bJ.l0,iX.f]
   rw [if_pos (by omega),if_pos (by omega),rdT,if_pos h3,if_pos h4,if_pos h1,if_pos h2,Ry _ _ hp.1,Option.bind_some,Option.bind_some,if_pos (by omega),lh hil (by omega)]
   rfl
  have:=ih (i+1) (acc++[sS per times (acts.getD i jW)]) (by omega) (by simp [ha])
  simpa using this
end
def xy (per:Int) (n:Nat) (acts:List eu) (times:List Int):List Int × Int:=if tT per n acts times=true then (acts.map (sS per times),0) else ([],1)
theorem sU {per:Int} {n:Nat} {acts:List eu} {times:List Int} (h:tT per n acts times=true):fD per n acts=true∧times.length=n:=by
 simp only [tT,Bool.and_eq_true,decide_eq_true_eq] at h
 exact ⟨h.1.1,h.1.2⟩
theorem Di (per:Int) (evs:List hO) (acts:List eu) (times:List Int):Ev (fun k=>cK.f k per evs acts times) (xy per evs.length acts times):=by
 unfold cK.f kv.f xy
 simp only [Option.bind_some]
 cases h:tT per evs.length acts times with
 |false=>simpa using Ev.now (([]:List Int),(1:Int))
 |true=>
  obtain ⟨a,b⟩:=sU h
  have:=OG a b acts.length 0 [] (by omega) rfl
  simpa using this
theorem Dj (per:Int) (evs:List hO) (acts:List eu) (times:List Int) (hl:times.length≤35184372088832):Ev (fun k=>bJ.f k per evs acts times) (xy per evs.length acts times):=by
 unfold bJ.f xy
 refine Ev.bind (K0 per evs acts times hl) ?_
 cases h:tT per evs.length acts times with
 |false=>simpa using Ev.now (([]:List Int),(1:Int))
 |true=>
  obtain ⟨a,b⟩:=sU h
  have:=OH a b acts.length 0 [] (by omega) rfl
  simpa using this
def K3 (values arcs signs:List Int):Nat→Nat→Int→Int
 |0,_,s=>s
 |d+1,i,s=>K3 values arcs signs d (i+1) (wrap64 (s+wrap64 (signs.getD i 0*values.getD (arcs.getD i 0).toNat 0)))
theorem Md (l:List Int) {x:Int}:rd l x=l.getD x.toNat 0:=rfl
section
variable {values arcs signs:List Int}
theorem Rz (hl:arcs.length≤35184372088832) (hs:signs.length=arcs.length) (ha:∀ i,i<arcs.length→0≤arcs.getD i 0∧arcs.getD i 0<values.length):∀ (d i:Nat) (s:Int),i+d=arcs.length→Ev (fun k=>eO.l0 k values s arcs (arcs.length:Int) (i:Int) arcs signs) (K3 values arcs signs d i s,0):=by
 intro d
 induction d with
 |zero=>
  intro i s hi
  refine Ev.step (f:=fun _=>some (s,0)) (fun k=> ?_) (Ev.now _)
  simp only [eO.l0]
  rw [if_neg (by omega)]
 |succ d ih=>
  intro i s hi
  obtain ⟨h1,h2⟩:=ha i (by omega)
  refine Ev.step (fun k=> ?_) (ih (i+1) _ (by omega))
  simp only [eO.l0]
  rw [if_pos (by omega),if_pos (by omega),if_pos (by omega),if_pos (by omega),uC,uC,if_pos h1,if_pos h2,lh (show i<arcs.length by omega) hl,Md]
theorem RA (hl:arcs.length≤35184372088832) (hs:signs.length=arcs.length) (ha:∀ i,i<arcs.length→0≤arcs.getD i 0∧arcs.getD i 0<values.length):∀ (d i:Nat) (s:Int),i+d=arcs.length→Ev (fun k=>cW.l0 k values s (i:Int) arcs signs) (K3 values arcs signs d i s,0):=by
 intro d
 induction d with
 |zero=>
  intro i s hi
  refine Ev.step (f:=fun _=>some (s,0)) (fun k=> ?_) (Ev.now _)
  simp only [cW.l0]
  rw [if_neg (by omega)]
 |succ d ih=>
  intro i s hi
  obtain ⟨h1,h2⟩:=ha i (by omega)
  refine Ev.step (fun k=> ?_) (ih (i+1) _ (by omega))
  simp only [cW.l0]
  rw [if_pos (by omega),if_pos (by omega),if_pos (by omega),uC,uC,if_pos h1,if_pos h2,lh (show i<arcs.length by omega) hl,Md]
end
def IB (per:Int) (n:Nat) (acts:List eu) (arcs signs values:List Int):Int × Int:=
 if jY per n acts arcs signs=true then (if l5 acts.length values=0 then (K3 values arcs signs arcs.length 0 0,0) else (0,4)) else (0,1)
theorem yt {per:Int} {n:Nat} {acts:List eu} {arcs signs:List Int} (h:jY per n acts arcs signs=true):fD per n acts=true∧2≤arcs.length∧arcs.length=signs.length∧∀ i,i<arcs.length→jc acts arcs signs i=true:=by
 simp only [jY,Bool.and_eq_true,decide_eq_true_eq] at h
 obtain ⟨⟨⟨⟨a,b⟩,c⟩,d⟩,_⟩:=h
 rw [List.all_eq_true] at d
 exact ⟨a,b,c,fun i hi=>d i (List.mem_range.2 hi)⟩
theorem xz {per:Int} {n:Nat} {acts:List eu} {arcs signs values:List Int} (h:jY per n acts arcs signs=true) (hv:l5 acts.length values=0):
  arcs.length≤512∧signs.length=arcs.length∧∀ i,i<arcs.length→0≤arcs.getD i 0∧arcs.getD i 0<values.length:=by
 obtain ⟨a,b,c,d⟩:=yt h
 have h1:=rS (Nat.le_refl _) d
 have h2:acts.length≤512:=by simp [fD] at a;omega
 have h3:values.length=acts.length:=by
  unfold l5 at hv
  by_cases e:values.length≠acts.length∨values.any jC=true
  ·rw [if_pos e] at hv;omega
  exact Classical.not_not.1 (fun h=>e (.inl h))
 refine ⟨by omega,c.symm,fun i hi=> ?_⟩
 have:=d i hi
 simp only [jc,Bool.and_eq_true,decide_eq_true_eq] at this
 rw [h3]
 exact ⟨this.1.1.1,this.1.1.2⟩
theorem K4 (per:Int) (evs:List hO) (acts:List eu) (arcs signs values:List Int):Ev (fun k=>eO.f k per evs acts arcs signs values) (IB per evs.length acts arcs signs values):=by
 unfold eO.f ei.f fS.f IB
 simp only [Option.bind_some]
 cases h:jY per evs.length acts arcs signs with
 |false=>simpa using Ev.now ((0:Int),(1:Int))
 |true=>
  simp only [if_true]
  by_cases hv:l5 acts.length values=0
  ·simp only [if_pos hv]
   obtain ⟨a,b,c⟩:=xz h hv
   exact Rz (by omega) b c arcs.length 0 0 (by omega)
  simp only [if_neg hv]
  have h4:l5 acts.length values=4:=by
   unfold l5 at hv ⊢
   split at hv
   ·rename_i h;rw [if_pos h]
   exact absurd rfl hv
  rw [h4]
  exact Ev.now _
theorem K5 (per:Int) (evs:List hO) (acts:List eu) (arcs signs values:List Int) (hl:values.length≤35184372088832):Ev (fun k=>cW.f k per evs acts arcs signs values) (IB per evs.length acts arcs signs values):=by
 unfold cW.f cM.f IB
 simp only [Option.bind_some]
 cases h:jY per evs.length acts arcs signs with
 |false=>simpa using Ev.now ((0:Int),(1:Int))
 |true=>
  simp only [if_true]
  refine Ev.bind (F9 per evs acts values hl) ?_
  by_cases hv:l5 acts.length values=0
  ·simp only [decide_eq_true hv,if_true,if_pos hv]
   obtain ⟨a,b,c⟩:=xz h hv
   exact RA (by omega) b c arcs.length 0 0 (by omega)
  simp only [decide_eq_false hv,if_neg hv]
  exact Ev.now _
end Go.Proofs.Ytbkjplomoegbdaa.t9
end
section
namespace Go.Proofs.Ytbkjplomoegbdaa.PB
open Go.RowKit Go.Proofs.Ytbkjplomoegbdaa.t9 Go.Proofs.YtbkjplomoegbdaaW.bO Go.Proofs.YtbkjplomoegbdaaW.dA Go.Proofs.YtbkjplomoegbdaaW.dG
set_option linter.unusedVariables false
set_option linter.unusedSimpArgs false
def cf.f (aI:Int) (aD:List hO) (au:List eu) (bq bI l2 l3:List Int):Option Bool:=if l2.length≤35184372088832 then (if l3.length≤35184372088832 then some true else none) else none
set_option maxHeartbeats 4000000 in
set_option maxRecDepth 100000 in
theorem cf.calls (aI:Int) (bh:Option Addr) (bi:Nat) (aD:List hO) (bu:Option Addr) (aW:Nat) (au:List eu) (ee:Option Addr) (dR:Nat) (bq:List Int) (ed:Option Addr) (dW:Nat) (bI:List Int) (A2:Option Addr) (c2:Nat) (l2:List Int) (A3:Option Addr) (c3:Nat) (l3:List Int) (r:Bool) (w:World) (eI:Kd.C oS w bh aD.length aD) (eS:aD.length≤bi) (eC:Kd.C nD w bu au.length au) (eT:au.length≤aW) (nJ:Kd.C (Kd.int .i64) w ee bq.length bq) (qB:bq.length≤dR) (nK:Kd.C (Kd.int .i64) w ed bI.length bI) (o3:bI.length≤dW) (xS:Kd.C (Kd.int .i64) w A2 l2.length l2) (uQ:l2.length≤c2) (hr3:Kd.C (Kd.int .i64) w A3 l3.length l3) (hc3:l3.length≤c3)
  (h:cf.f aI aD au bq bI l2 l3=some r):
  Calls Try.prog 40 #[.agg #[.int .i64 aI,.slice bh aD.length bi,.slice bu au.length aW],.agg #[.slice ee bq.length dR,.slice ed bI.length dW],.slice A2 l2.length c2,.slice A3 l3.length c3] w fun e w'=>e= .returned (.bool r)∧Below w.heap.size w w':=by
 unfold cf.f at h
 by_cases b2:l2.length≤35184372088832
 case neg=>rw [if_neg b2] at h;cases h
 by_cases b3:l3.length≤35184372088832
 case neg=>rw [if_pos b2,if_neg b3] at h;cases h
 rw [if_pos b2,if_pos b3] at h
 obtain rfl:=Option.some.inj h
 clear h
 have nu:=Try.underlying26
 have Bu:=Try.underlying41
 have e1:=K4 aI aD au bq bI l2
 have e2:=K5 aI aD au bq bI l2 b2
 have e3:=Di aI aD au l3
 have e4:=Dj aI aD au l3 b3
 have hx:(xy aI aD.length au l3).1.length≤35184372088832:=by
  unfold xy
  split
  ·rename_i h
   have:=(sU h).1
   simp [fD] at this
   simp;omega
  simp
 generalize IB aI aD.length au bq bI l2=p at e1 e2
 generalize xy aI aD.length au l3=q at e3 e4 hx
 obtain ⟨s,e⟩:=p
 obtain ⟨x,g⟩:=q
 obtain ⟨k1,e1⟩:=e1.rounds
 obtain ⟨k2,e2⟩:=e2.rounds
 obtain ⟨k3,e3⟩:=e3.rounds
 obtain ⟨k4,e4⟩:=e4.rounds
 obtain ⟨k5,e5⟩:=(KY x hx).rounds
 have E1:=aa.mk e1
 have E2:=aa.mk e2
 have E3:=aa.mk e3
 have E4:=aa.mk e4
 have E5:=aa.mk e5
 have lA:=aa.mk (And.intro eI eS)
 have qn:=aa.mk (And.intro eC eT)
 have Me:=aa.mk (And.intro nJ qB)
 have Mf:=aa.mk (And.intro nK o3)
 have Xd:=aa.mk (And.intro xS uQ)
 have Xe:=aa.mk (And.intro hr3 hc3)
 clear e1 e2 e3 e4 e5 hx b2 b3 eI eS eC eT nJ qB nK o3 xS uQ hr3 hc3
 generalize hck:jY aI aD.length au bq bI=ck
 have Z5:=aa.mk (show ei.f aI aD au bq bI=some ck from congrArg some hck)
 have Z6:=aa.mk (show cM.f aI aD au bq bI=some ck from congrArg some hck)
 clear hck
 have hb0:Below w.heap.size w ((w.alloc (.cells #[.int .i64 aI,.slice bh aD.length bi,.slice bu au.length aW] 26)).alloc (.cells #[.slice ee bq.length dR,.slice ed bI.length dW] 41)):=ae (ae (Below.refl _ _) _) _
 have ym:=aj (gC w (.cells #[.int .i64 aI,.slice bh aD.length bi,.slice bu au.length aW] 26)) (.cells #[.slice ee bq.length dR,.slice ed bI.length dW] 41)
 have Ie:((w.alloc (.cells #[.int .i64 aI,.slice bh aD.length bi,.slice bu au.length aW] 26)).alloc (.cells #[.slice ee bq.length dR,.slice ed bI.length dW] 41)).heap[w.heap.size+1]? =some (.cells #[.slice ee bq.length dR,.slice ed bI.length dW] 41 (0,0)):=by
  have h:=gC (w.alloc (.cells #[.int .i64 aI,.slice bh aD.length bi,.slice bu au.length aW] 26)) (.cells #[.slice ee bq.length dR,.slice ed bI.length dW] 41)
  rwa [show (w.alloc (.cells #[.int .i64 aI,.slice bh aD.length bi,.slice bu au.length aW] 26)).heap.size=w.heap.size+1 by simp] at h
 go_enter Try.func40,Try.ntmps40
 go_wp2_with fail
 generalize (w.alloc (.cells #[.int .i64 aI,.slice bh aD.length bi,.slice bu au.length aW] 26)).alloc (.cells #[.slice ee bq.length dR,.slice ed bI.length dW] 41)=W0 at hb0 ym Ie ⊢
 have ST:aa (∀ W W',Below w.heap.size w W→W.heap[w.heap.size]? =some (.cells #[.int .i64 aI,.slice bh aD.length bi,.slice bu au.length aW] 26 (0,0))∧W.heap[w.heap.size+1]? =some (.cells #[.slice ee bq.length dR,.slice ed bI.length dW] 41 (0,0))→Below W.heap.size W W'→Below w.heap.size w W'∧W'.heap[w.heap.size]? =some (.cells #[.int .i64 aI,.slice bh aD.length bi,.slice bu au.length aW] 26 (0,0))∧W'.heap[w.heap.size+1]? =some (.cells #[.slice ee bq.length dR,.slice ed bI.length dW] 41 (0,0))):=⟨fun W W' hb hh h=>⟨aE hb h,aH hh.1 h,aH hh.2 h⟩⟩
 have CL:aa (∀ W:World,W.heap[w.heap.size]? =some (.cells #[.int .i64 aI,.slice bh aD.length bi,.slice bu au.length aW] 26 (0,0))∧W.heap[w.heap.size+1]? =some (.cells #[.slice ee bq.length dR,.slice ed bI.length dW] 41 (0,0))→W.cell? ⟨w.heap.size,0,none⟩=some (.int .i64 aI)∧W.cell? ⟨w.heap.size,1,none⟩=some (.slice bh aD.length bi)∧W.cell? ⟨w.heap.size,2,none⟩=some (.slice bu au.length aW)∧W.cell? ⟨w.heap.size+1,0,none⟩=some (.slice ee bq.length dR)∧W.cell? ⟨w.heap.size+1,1,none⟩=some (.slice ed bI.length dW)):=⟨fun W h=>⟨(ag h.1 0).trans rfl,(ag h.1 1).trans rfl,(ag h.1 2).trans rfl,(ag h.2 0).trans rfl,(ag h.2 1).trans rfl⟩⟩
 have Mg:=aa.mk (And.intro hb0 (And.intro ym Ie))
 clear hb0 ym Ie
 obtain ⟨q0,q1,q2,q3,q4⟩:=CL.out _ Mg.out.2
 go_wp2_with (first|(go_at_call 43;(with_reducible refine (eO.calls k1 aI bh bi aD bu aW au ee dR bq ed dW bI A2 c2 l2 s e _ (Kd.aN lA.out.1 Mg.out.1) lA.out.2 (Kd.aN qn.out.1 Mg.out.1) qn.out.2 (Kd.aN Me.out.1 Mg.out.1) Me.out.2 (Kd.aN Mf.out.1 Mg.out.1) Mf.out.2 (Kd.aN Xd.out.1 Mg.out.1) Xd.out.2 E1.out).mono ?_);rintro e1 w1 ⟨rfl,hb1⟩;have Mh:=aa.mk (ST.out _ _ Mg.out.1 Mg.out.2 hb1);clear hb1 q0 q1 q2 q3 q4;obtain ⟨q0,q1,q2,q3,q4⟩:=CL.out _ Mh.out.2)|(go_at_call 46;(with_reducible refine (cW.calls k2 aI bh bi aD bu aW au ee dR bq ed dW bI A2 c2 l2 s e _ (Kd.aN lA.out.1 Mh.out.1) lA.out.2 (Kd.aN qn.out.1 Mh.out.1) qn.out.2 (Kd.aN Me.out.1 Mh.out.1) Me.out.2 (Kd.aN Mf.out.1 Mh.out.1) Mf.out.2 (Kd.aN Xd.out.1 Mh.out.1) Xd.out.2 E2.out).mono ?_);rintro e2 w2 ⟨rfl,hb2⟩;have Pj:=aa.mk (ST.out _ _ Mh.out.1 Mh.out.2 hb2);clear hb2 q0 q1 q2 q3 q4;obtain ⟨q0,q1,q2,q3,q4⟩:=CL.out _ Pj.out.2)|(go_at_call 42;(with_reducible refine (cK.calls k3 aI bh bi aD bu aW au A3 c3 l3 x g _ (Kd.aN lA.out.1 Pj.out.1) lA.out.2 (Kd.aN qn.out.1 Pj.out.1) qn.out.2 (Kd.aN Xe.out.1 Pj.out.1) Xe.out.2 E3.out).mono ?_);rintro e3 w3 ⟨v3,rfl,Z7,hb3⟩;obtain ⟨Ax,cx,ev3⟩:=Kd.cA Z7;subst ev3;have Pf:=aa.mk (Kd.bf Z7).2;have Pk:=aa.mk (ST.out _ _ Pj.out.1 Pj.out.2 hb3);clear hb3 Z7 q0 q1 q2 q3 q4;obtain ⟨q0,q1,q2,q3,q4⟩:=CL.out _ Pk.out.2)|(go_at_call 91;(with_reducible refine (bJ.calls k4 aI bh bi aD bu aW au A3 c3 l3 x g _ (Kd.aN lA.out.1 Pk.out.1) lA.out.2 (Kd.aN qn.out.1 Pk.out.1) qn.out.2 (Kd.aN Xe.out.1 Pk.out.1) Xe.out.2 E4.out).mono ?_);rintro e4 w4 ⟨v4,rfl,JH,Z8⟩;obtain ⟨Ay,cy,ev4⟩:=Kd.cA JH;subst ev4;have HO4:=aa.mk (Kd.bf JH).2;have Xf:=aa.mk (ST.out _ _ Pk.out.1 Pk.out.2 Z8);have Q1:=aa.mk (Kd.aN Pf.out.2 Z8);clear Z8 JH q0 q1 q2 q3 q4;obtain ⟨q0,q1,q2,q3,q4⟩:=CL.out _ Xf.out.2))
 have Pl:=aa.mk (And.intro (af Xf.out.1) (And.intro (aq Xf.out.2.1) (aq Xf.out.2.2)))
 have HZ0:=aa.mk (af (Below.refl w4.heap.size w4))
 go_region_held3 (fun W=>W.cell? ⟨w.heap.size,0,none⟩=some (.int .i64 aI)∧W.cell? ⟨w.heap.size,1,none⟩=some (.slice bh aD.length bi)∧W.cell? ⟨w.heap.size,2,none⟩=some (.slice bu au.length aW)∧W.cell? ⟨w.heap.size+1,0,none⟩=some (.slice ee bq.length dR)∧W.cell? ⟨w.heap.size+1,1,none⟩=some (.slice ed bI.length dW))
  (first|exact ⟨q0,q1,q2,q3,q4⟩|exact k0|go_keep)
  ((first|(go_at_call 41;(with_reducible refine (ei.calls aI bh bi aD bu aW au ee dR bq ed dW bI ck _ (Kd.aN lA.out.1 Pl.out.1) lA.out.2 (Kd.aN qn.out.1 Pl.out.1) qn.out.2 (Kd.aN Me.out.1 Pl.out.1) Me.out.2 (Kd.aN Mf.out.1 Pl.out.1) Mf.out.2 Z5.out).mono ?_);rintro e5 w5 ⟨rfl,Z9⟩;have OI:=aa.mk (ST.out _ _ Pl.out.1 Pl.out.2 Z9);have HZ1:=aa.mk (aE HZ0.out Z9);have k0:=CL.out _ OI.out.2;clear Z9)|(go_at_call 80;(with_reducible refine (cM.calls aI bh bi aD bu aW au ee dR bq ed dW bI ck _ (Kd.aN lA.out.1 OI.out.1) lA.out.2 (Kd.aN qn.out.1 OI.out.1) qn.out.2 (Kd.aN Me.out.1 OI.out.1) Me.out.2 (Kd.aN Mf.out.1 OI.out.1) Mf.out.2 Z6.out).mono ?_);rintro e6 w6 ⟨rfl,hb6⟩;have HY2:=aa.mk (ST.out _ _ OI.out.1 OI.out.2 hb6);have HZ2:=aa.mk (aE HZ1.out hb6);clear k0;have k0:=CL.out _ HY2.out.2;clear hb6)|(go_at_call 50;(with_reducible refine (da.calls k5 Ax cx x Ay cy x true _ (Kd.aN Q1.out HZ2.out) Pf.out.1 (Kd.aN HO4.out.2 HZ2.out) HO4.out.1 E5.out).mono ?_);rintro e7 w7 ⟨rfl,⟨nd,rfl⟩⟩)))
 go_wp2
 go_ret
 exact ⟨rfl,ab HY2.out.1 _⟩
theorem yu (per:Int) (evs:List hO) (acts:List eu) (arcs signs values times:List Int) (hv:values.length≤35184372088832) (ht:times.length≤35184372088832):cf.f per evs acts arcs signs values times=some true:=by
 unfold cf.f
 rw [if_pos hv,if_pos ht]
end Go.Proofs.Ytbkjplomoegbdaa.PB
end
section
namespace Go.Proofs.Ytbkjplomoegbdaa.kH
open Go.RowKit Go.Proofs.Ytbkjplomoegbdaa.PB Go.Proofs.Ytbkjplomoegbdaa.nM Go.Proofs.Ytbkjplomoegbdaa.UF Go.Proofs.YtbkjplomoegbdaaW.bO Go.Proofs.YtbkjplomoegbdaaW.dA Go.Proofs.YtbkjplomoegbdaaW.dG
def edge (acts:List eu) (i:Nat):Nat × Nat:=((acts.getD i jW).f1.toNat,(acts.getD i jW).f2.toNat)
def jK (acts:List eu) (K:List Nat):List (Nat × Nat):=K.map (edge acts)
def K6 (acts:List eu) (i:Nat):Int:=wrap64 ((acts.getD i jW).f4 - (acts.getD i jW).f3)
theorem Ga {acts:List eu} {i:Nat} (h:i<acts.length):acts.getD i jW ∈ acts:=by
 simp [List.getD_eq_getElem?_getD,h]
theorem ll {per:Int} {n:Nat} {acts:List eu} (h:fD per n acts=true) {i:Nat} (hi:i<acts.length):
  (acts.getD i jW).f1=((edge acts i).1:Int)∧(acts.getD i jW).f2=((edge acts i).2:Int)∧(edge acts i).1<n∧(edge acts i).2<n∧0≤K6 acts i∧K6 acts i<per∧(edge acts i).1≠(edge acts i).2:=by
 simp only [fD,Bool.and_eq_true,Bool.not_eq_true',List.any_eq_false] at h
 have:=h.2 _ (Ga hi)
 simp only [oH,Bool.or_eq_true,Bool.not_eq_true',Bool.and_eq_false_iff,decide_eq_true_eq,decide_eq_false_iff_not,beq_iff_eq,not_or] at this
 unfold edge K6
 unfold wrap64 at this ⊢
 simp only
 omega
theorem pW {acts:List eu} {K K':List Nat} (h:∀ i,i ∈ K→i ∈ K') {a b:Nat} (hc:fF (jK acts K) a b):fF (jK acts K') a b:=fF.sub (fun x hx=>by
 obtain ⟨i,hi,e⟩:=List.mem_map.1 hx
 exact List.mem_map.2 ⟨i,h i hi,e⟩) hc
theorem rp {per:Int} {n:Nat} {acts:List eu} (h:fD per n acts=true) {K:List Nat} (hK:∀ i ∈ K,i<acts.length):∀ e ∈ jK acts K,e.1<n∧e.2<n:=by
 intro e he
 obtain ⟨i,hi,rfl⟩:=List.mem_map.1 he
 have:=ll h (hK i hi)
 exact ⟨this.2.2.1,this.2.2.2.1⟩
structure KI (n:Nat) (acts:List eu) (g:List Int) (m:List Bool) (K:List Nat):Prop where
 tells:zy n (jK acts K) g
 len:m.length=acts.length
 marks:∀ i,i<acts.length→(m.getD i false=true↔i ∈ K)
 bound:∀ i ∈ K,i<acts.length
 nodup:K.Nodup
 win:wins (jK acts K) (List.range n)=K.length
theorem KI.add {per:Int} {n:Nat} {acts:List eu} {g:List Int} {m:List Bool} {K:List Nat} (h:KI n acts g m K) (hok:fD per n acts=true) {i:Nat} (hi:i<acts.length) (hne:g.getD (edge acts i).1 0≠g.getD (edge acts i).2 0):
  KI n acts (m8 g (edge acts i).1 (edge acts i).2) (m.set i true) (K++[i]):=by
 obtain ⟨_,_,e1,e2,_⟩:=ll hok hi
 have hc:¬fF (jK acts K) (edge acts i).1 (edge acts i).2:=fun hc=>hne ((h.tells.2 _ _ e1 e2).2 hc)
 have hni:i ∉ K:=fun hK=>hc (fF.mem (List.mem_map.2 ⟨i,hK,rfl⟩))
 have he:jK acts (K++[i])=jK acts K++[edge acts i]:=by simp [jK]
 refine ⟨?_,by simpa using h.len,fun j hj=> ?_,fun j hj=> ?_, ?_, ?_⟩
 ·rw [he];exact h.tells.merge e1 e2
 ·have:=h.marks j hj
  have hl:=h.len
  by_cases e:i=j
  ·subst e
   simp [List.getD_eq_getElem?_getD,show i<m.length by omega]
  simp only [List.getD_eq_getElem?_getD,List.getElem?_set_ne e,List.mem_append,List.mem_singleton] at this ⊢
  rw [this]
  exact ⟨.inl,fun h=>h.resolve_right (fun h=>e h.symm)⟩
 ·rcases List.mem_append.1 hj with hj|hj
  ·exact h.bound j hj
  rw [List.mem_singleton.1 hj];exact hi
 ·rw [List.nodup_append]
  refine ⟨h.nodup,by simp, ?_⟩
  intro a ha b hb hab
  rw [List.mem_singleton.1 hb] at hab
  exact hni (hab ▸ ha)
 rw [he]
 have:=FT (rp hok h.bound) ⟨e1,e2⟩ (h.win.trans (by simp [jK])) hc
 rw [this]
 simp [jK]
theorem B3 {acts:List eu} (hal:acts.length≤512) {i:Nat} (hi:i<acts.length):wrap64 ((i:Int)+1)=((i+1:Nat):Int)∧aC acts (i:Int)=acts.getD i jW∧(i:Int)<(acts.length:Int)∧(0:Int)≤(i:Int):=by
 refine ⟨by unfold wrap64;omega,by unfold aC;rw [Int.toNat_natCast],by omega,by omega⟩
theorem IC {per:Int} {evs:List hO} {acts:List eu} (hal:acts.length≤512) {x6:Int} {i:Nat} {g:List Int} {m:List Bool} (hi:i<acts.length) (c:K6 acts i≠x6) {r:List Int}
  (hr:Ev (fun k=>aM.l2 k g m x6 ((i+1:Nat):Int) per evs acts) r):Ev (fun k=>aM.l2 k g m x6 (i:Int) per evs acts) r:=by
 obtain ⟨w1,h1,h2,h3⟩:=B3 hal hi
 refine Ev.step (fun k=> ?_) hr
 simp only [aM.l2]
 rw [if_pos h2,if_pos h3,h1,if_neg (show ¬wrap64 ((acts.getD i jW).f4 - (acts.getD i jW).f3)=x6 from c),w1]
theorem K7 {per:Int} {evs:List hO} {acts:List eu} (hok:fD per evs.length acts=true) (hev:evs.length≤48) (hal:acts.length≤512) {x6:Int} {i:Nat} {g:List Int} {m:List Bool} (hi:i<acts.length) (hg:g.length=evs.length) (hm:m.length=acts.length) (c:K6 acts i=x6) {r:List Int}
  (hr:Ev (fun k=>aM.l2 k (if g.getD (edge acts i).1 0=g.getD (edge acts i).2 0 then g else m8 g (edge acts i).1 (edge acts i).2) (if g.getD (edge acts i).1 0=g.getD (edge acts i).2 0 then m else m.set i true) x6 ((i+1:Nat):Int) per evs acts) r):Ev (fun k=>aM.l2 k g m x6 (i:Int) per evs acts) r:=by
 obtain ⟨w1,h1,h2,h3⟩:=B3 hal hi
 obtain ⟨f1,f2,e1,e2,_⟩:=ll hok hi
 have hmg:=tw g (acts.getD i jW) _ _ f1 f2 (by omega) (by omega) (by omega)
 have h4:(i:Int)<(m.length:Int):=by omega
 have hb:∀ k,aM.l2 (k+1) g m x6 (i:Int) per evs acts=(cm.f k g (acts.getD i jW).f0 (acts.getD i jW).f1 (acts.getD i jW).f2 (acts.getD i jW).f3 (acts.getD i jW).f4 (acts.getD i jW).f5).bind fun xd=>if xd.1=true then (aM.l2 k xd.2 (m.set i true) x6 ((i+1:Nat):Int) per evs acts) else (aM.l2 k xd.2 m x6 ((i+1:Nat):Int) per evs acts):=by
  intro k
  simp only [aM.l2]
  rw [if_pos h2,if_pos h3,h1,if_pos (show wrap64 ((acts.getD i jW).f4 - (acts.getD i jW).f3)=x6 from c),w1]
  simp only [if_pos h4,Int.toNat_natCast]
 refine Ev.step hb (Ev.bind hmg ?_)
 by_cases cc:g.getD (edge acts i).1 0=g.getD (edge acts i).2 0
 ·simp only [if_pos cc] at hr ⊢
  simp only [Bool.false_eq_true,if_false]
  exact hr
 simp only [if_neg cc] at hr ⊢
 simp only [if_true]
 exact hr
theorem RB {per:Int} {evs:List hO} {acts:List eu} (hok:fD per evs.length acts=true) (hev:evs.length≤48) (hal:acts.length≤512) (x6:Int):
  ∀ (d i:Nat) (g:List Int) (m:List Bool) (K:List Nat),i+d=acts.length→KI evs.length acts g m K→
   ∃ g' m' K',KI evs.length acts g' m' K'∧(∀ j,j ∈ K→j ∈ K')∧(∀ j,i≤j→j<acts.length→K6 acts j=x6→fF (jK acts K') (edge acts j).1 (edge acts j).2)∧
    ∀ r,Ev (fun k=>aM.l1 k g' m' (wrap64 (x6+1)) per evs acts) r→Ev (fun k=>aM.l2 k g m x6 (i:Int) per evs acts) r:=by
 intro d
 induction d with
 |zero=>
  intro i g m K hi h
  refine ⟨g,m,K,h,fun _ h=>h,fun j h1 h2=>by omega,fun r hr=>Ev.step (fun k=> ?_) hr⟩
  simp only [aM.l2]
  rw [if_neg (by omega)]
 |succ d ih=>
  intro i g m K hi h
  have hil:i<acts.length:=by omega
  have hor:∀ j,i≤j→i+1≤j∨j=i:=fun j _=>by omega
  by_cases c:K6 acts i=x6
  ·have ht:=fun r=>K7 (r:=r) hok hev hal hil h.tells.1 h.len c
   by_cases cc:g.getD (edge acts i).1 0=g.getD (edge acts i).2 0
   ·simp only [if_pos cc] at ht
    obtain ⟨g',m',K',h',hs,hcn,hev'⟩:=ih (i+1) g m K (by omega) h
    refine ⟨g',m',K',h',hs,fun j h1 h2 h3=> ?_,fun r hr=>ht r (hev' r hr)⟩
    rcases hor j h1 with hij|rfl
    ·exact hcn j hij h2 h3
    obtain ⟨_,_,e1,e2,_⟩:=ll hok hil
    exact pW hs ((h.tells.2 _ _ e1 e2).1 cc)
   simp only [if_neg cc] at ht
   obtain ⟨g',m',K',h',hs,hcn,hev'⟩:=ih (i+1) _ _ _ (by omega) (h.add hok hil cc)
   refine ⟨g',m',K',h',fun j hj=>hs j (List.mem_append_left _ hj),fun j h1 h2 h3=> ?_,fun r hr=>ht r (hev' r hr)⟩
   rcases hor j h1 with hij|rfl
   ·exact hcn j hij h2 h3
   exact fF.mem (List.mem_map.2 ⟨j,hs j (List.mem_append_right _ (List.mem_singleton.2 rfl)),rfl⟩)
  obtain ⟨g',m',K',h',hs,hcn,hev'⟩:=ih (i+1) g m K (by omega) h
  refine ⟨g',m',K',h',hs,fun j h1 h2 h3=> ?_,fun r hr=>IC hal hil c (hev' r hr)⟩
  rcases hor j h1 with hij|rfl
  ·exact hcn j hij h2 h3
  exact absurd h3 c
theorem HI {per:Int} {evs:List hO} {acts:List eu} (hok:fD per evs.length acts=true) (hev:evs.length≤48) (hal:acts.length≤512) (hp:2≤per∧per≤7200):
  ∀ (d i:Nat) (g:List Int) (m:List Bool) (K:List Nat),(i:Int)+d=per→KI evs.length acts g m K→
   ∃ g' m' K',KI evs.length acts g' m' K'∧(∀ j,j ∈ K→j ∈ K')∧(∀ j,j<acts.length→(i:Int)≤K6 acts j→fF (jK acts K') (edge acts j).1 (edge acts j).2)∧
    ∀ r,Ev (fun k=>aM.l3 k m' [] (m'.length:Int) 0) r→Ev (fun k=>aM.l1 k g m (i:Int) per evs acts) r:=by
 intro d
 induction d with
 |zero=>
  intro i g m K hi h
  refine ⟨g,m,K,h,fun _ h=>h,fun j h1 h2=> ?_,fun r hr=>Ev.step (fun k=> ?_) hr⟩
  ·have:=ll hok h1
   omega
  simp only [aM.l1]
  rw [if_neg (by omega)]
 |succ d ih=>
  intro i g m K hi h
  obtain ⟨g1,m1,K1,h1,s1,c1,ev1⟩:=RB hok hev hal (i:Int) acts.length 0 g m K (by omega) h
  obtain ⟨g2,m2,K2,h2,s2,c2,ev2⟩:=ih (i+1) g1 m1 K1 (by omega) h1
  have w1:wrap64 ((i:Int)+1)=((i+1:Nat):Int):=by unfold wrap64;omega
  rw [w1] at ev1
  refine ⟨g2,m2,K2,h2,fun j hj=>s2 j (s1 j hj),fun j hj hd=> ?_,fun r hr=>Ev.step (fun k=> ?_) (ev1 r (ev2 r hr))⟩
  ·by_cases c:K6 acts j=(i:Int)
   ·exact pW s2 (c1 j (by omega) hj c)
   exact c2 j hj (by omega)
  simp only [aM.l1]
  rw [if_pos (by omega)]
  rfl
theorem RC (m:List Bool) (hm:m.length≤512):∀ (d i:Nat) (x:List Int),i+d=m.length→x.length≤i→
  Ev (fun k=>aM.l3 k m x (m.length:Int) (i:Int)) (x++((List.range' i d).filter fun j=>m.getD j false).map fun (j:Nat)=>(j:Int)):=by
 intro d
 induction d with
 |zero=>
  intro i x hi hx
  refine Ev.step (f:=fun _=>some x) (fun k=> ?_) ?_
  ·simp only [aM.l3]
   rw [if_neg (by omega)]
  simp only [List.range'_zero,List.filter_nil,List.map_nil,List.append_nil]
  exact Ev.now _
 |succ d ih=>
  intro i x hi hx
  have w1:wrap64 ((i:Int)+1)=((i+1:Nat):Int):=by unfold wrap64;omega
  have hr:uf false m (i:Int)=m.getD i false:=by unfold uf;rw [Int.toNat_natCast]
  rw [List.range'_succ,List.filter_cons]
  by_cases c:m.getD i false=true
  ·rw [if_pos c]
   refine Ev.step (fun k=> ?_) (by simpa using ih (i+1) (x++[(i:Int)]) (by omega) (by simp;omega))
   simp only [aM.l3]
   rw [if_pos (by omega),if_pos (by omega),if_pos (by omega),hr,if_pos c,if_pos (by omega),w1]
   rfl
  rw [if_neg c]
  refine Ev.step (fun k=> ?_) (ih (i+1) x (by omega) (by omega))
  simp only [aM.l3]
  rw [if_pos (by omega),if_pos (by omega),if_pos (by omega),hr,if_neg c,w1]
theorem HJ {per:Int} {evs:List hO} {acts:List eu} (n:Nat) (hn:n≤48) (ha:acts.length≤512) (r:List Int) (hr:Ev (fun k=>aM.l1 k (Bj n) (List.replicate acts.length false) 0 per evs acts) r):∀ (d i:Nat) (x:List Int),i+d=n→x.length=n→(∀ j,j<i→x.getD j 0=(j:Int))→
  Ev (fun k=>aM.l0 k x (n:Int) (i:Int) per evs acts) r:=by
 intro d
 induction d with
 |zero=>
  intro i x hi hx hj
  have e:x=Bj n:=by
   refine List.ext_getElem (by rw [hx,mU]) fun j h1 h2=> ?_
   have:=hj j (by omega)
   simp [List.getD_eq_getElem?_getD,h1] at this
   rw [this]
   simp [Bj]
  subst e
  refine Ev.step (fun k=> ?_) hr
  simp only [aM.l0]
  rw [if_neg (by omega),if_pos (by omega),if_pos (by omega),Int.toNat_natCast]
 |succ d ih=>
  intro i x hi hx hj
  refine Ev.step (f:=fun k=>aM.l0 k (x.set i (i:Int)) (n:Int) ((i+1:Nat):Int) per evs acts) (fun k=> ?_) (ih (i+1) _ (by omega) (by simpa using hx) ?_)
  ·simp only [aM.l0]
   rw [if_pos (by omega),if_pos (by omega),if_pos (by omega),Int.toNat_natCast]
   congr 1
   unfold wrap64
   omega
  intro j hj'
  simp only [List.getD_eq_getElem?_getD,List.getElem?_set]
  split
  ·rename_i e;subst e;rw [if_pos (by omega)];rfl
  have:=hj j (by omega)
  simpa [List.getD_eq_getElem?_getD] using this
theorem K8 {per:Int} {evs:List hO} {acts:List eu} (hok:fD per evs.length acts=true):
  ∃ T:List Nat,Ev (fun k=>aM.f k per evs acts) (T.map fun (i:Nat)=>(i:Int))∧T.Pairwise (·<·)∧(∀ i ∈ T,i<acts.length)∧wins (jK acts T) (List.range evs.length)=T.length∧
   ∀ j,j<acts.length→fF (jK acts T) (edge acts j).1 (edge acts j).2:=by
 have hok':=hok
 simp only [fD,Bool.and_eq_true,decide_eq_true_eq] at hok'
 obtain ⟨⟨⟨⟨hp1,hp2⟩,hev⟩,hal⟩,_⟩:=hok'
 have start:KI evs.length acts (Bj evs.length) (List.replicate acts.length false) []:=by
  refine ⟨⟨mU _,fun i j hi hj=> ?_⟩,by simp,fun i hi=> ?_,by simp,by simp,rfl⟩
  ·rw [tz _ _ hi,tz _ _ hj]
   exact ⟨fun h=>show i=j by omega,fun h=>by rw [show i=j from h]⟩
  simp [List.getD_eq_getElem?_getD,hi]
 obtain ⟨g,m,K,h,_,hc,Nu⟩:=HI hok hev hal ⟨hp1,hp2⟩ per.toNat 0 _ _ _ (by omega) start
 have hml:=h.len
 have h3:=Nu _ (RC m (by omega) m.length 0 [] (by omega) (by simp))
 have hmem:∀ i,i ∈ (List.range' 0 m.length).filter (fun j=>m.getD j false)↔i ∈ K:=by
  intro i
  rw [List.mem_filter,List.mem_range'_1]
  constructor
  ·rintro ⟨⟨_,h1⟩,h2⟩
   exact (h.marks i (by omega)).1 h2
  intro hi
  have:=h.bound i hi
  exact ⟨⟨by omega,by omega⟩,(h.marks i this).2 hi⟩
 have hnd:((List.range' 0 m.length).filter (fun j=>m.getD j false)).Nodup:=List.Pairwise.filter _ (List.nodup_range')
 have hperm:=(List.perm_ext_iff_of_nodup hnd h.nodup).2 hmem
 have hb:∀ i ∈ (List.range' 0 m.length).filter (fun j=>m.getD j false),i<acts.length:=fun i hi=>h.bound i ((hmem i).1 hi)
 refine ⟨(List.range' 0 m.length).filter (fun j=>m.getD j false), ?_,List.Pairwise.filter _ (List.pairwise_lt_range'),hb, ?_,fun j hj=> ?_⟩
 ·refine Ev.congr (f:=fun k=>(aQ.f k per evs acts).bind fun Bx=>(if Bx=true then (aM.l0 k (List.replicate evs.length 0) (evs.length:Int) 0 per evs acts) else (some ([]:List Int)))) (fun k=> ?_) (Ev.bind (tG per evs acts) ?_)
  ·unfold aM.f
   rw [if_pos (by omega),if_pos (by omega),Int.toNat_natCast,Option.bind_some,List.length_replicate]
  rw [hok]
  simp only [if_true]
  exact HJ evs.length hev hal _ (by simpa using h3) evs.length 0 _ (by omega) (by simp) (fun j hj=>by omega)
 ·rw [(FR (rp hok hb) (rp hok h.bound) (fun i j _ _=>⟨pW fun i hi=>(hmem i).1 hi,pW fun i hi=>(hmem i).2 hi⟩)).1,h.win,hperm.length_eq]
 exact pW (fun i hi=>(hmem i).2 hi) (hc j hj (ll hok hj).2.2.2.2.1)
end Go.Proofs.Ytbkjplomoegbdaa.kH
end
section
namespace Go.Proofs.Ytbkjplomoegbdaa.xA
open Go.RowKit Go.Proofs.Ytbkjplomoegbdaa.PB Go.Proofs.Ytbkjplomoegbdaa.nM Go.Proofs.Ytbkjplomoegbdaa.kH Go.Proofs.YtbkjplomoegbdaaW.bO Go.Proofs.YtbkjplomoegbdaaW.dA Go.Proofs.YtbkjplomoegbdaaW.dG
def ints (T:List Nat):List Int:=T.map fun (i:Nat)=>(i:Int)
theorem uZ (acts:List eu):∀ (T:List Nat) (last:Int) (L:List Nat),(∀ i ∈ T,last<(i:Int)∧i<acts.length)→T.Pairwise (·<·)→wins (jK acts T) L=T.length→gP acts (ints T) last L=some (run (jK acts T) L)
 |[],_,_,_,_,_=>rfl
 |i :: t,last,L,hb,hp,hw=>by
  obtain ⟨h1,h2⟩:=hb i (by simp)
  have hp':=List.pairwise_cons.1 hp
  have hle:=DR (jK acts t) (join L (edge acts i).1 (edge acts i).2)
  simp only [jK,List.map_cons,wins,List.length_cons,List.length_map] at hw hle
  have hne:¬L.getD (edge acts i).1 0=L.getD (edge acts i).2 0:=by
   intro h
   rw [if_pos h] at hw
   omega
  rw [if_neg hne] at hw
  have ih:=uZ acts t (i:Int) (join L (edge acts i).1 (edge acts i).2) (fun j hj=>⟨by have:=hp'.1 j hj;omega,(hb j (by simp [hj])).2⟩) hp'.2 (by simp only [jK];omega)
  simp only [ints,List.map_cons,gP,Int.toNat_natCast]
  rw [if_neg (by omega),if_neg (show ¬L.getD (acts.getD i jW).f1.toNat 0=L.getD (acts.getD i jW).f2.toNat 0 from hne)]
  exact ih
theorem Dk {per:Int} {n:Nat} {acts:List eu} (hok:fD per n acts=true) {T:List Nat} (hp:T.Pairwise (·<·)) (hb:∀ i ∈ T,i<acts.length) (hw:wins (jK acts T) (List.range n)=T.length)
  (hc:∀ j,j<acts.length→fF (jK acts T) (edge acts j).1 (edge acts j).2):gn per n acts (ints T)=true:=by
 unfold gn
 rw [hok,uZ acts T (-1) _ (fun i hi=>⟨by omega,hb i hi⟩) hp hw]
 simp only [Bool.true_and,List.all_eq_true,beq_iff_eq]
 intro a ha
 obtain ⟨j,hj,rfl⟩:=List.getElem_of_mem ha
 obtain ⟨_,_,e1,e2,_⟩:=ll hok hj
 have:=(FU (rp hok hb) e1 e2).2 (hc j hj)
 have he:acts.getD j jW=acts[j]:=by simp [List.getD_eq_getElem?_getD,hj]
 rw [← he]
 exact this
theorem getD_set_true {m:List Bool} {i v:Nat} (h:(m.set i true).getD v false=true):v=i∨m.getD v false=true:=by
 by_cases e:i=v
 ·exact .inl e.symm
 simp only [List.getD_eq_getElem?_getD,List.getElem?_set_ne e] at h ⊢
 exact .inr h
theorem B5 (l:List Int) (x:Int) (hl:l.length≤512):∀ (d i:Nat),i+d=l.length→x ∈ l.drop i→∃ j:Nat,Ev (fun k=>cH.l0 k l x (l.length:Int) (i:Int)) (j:Int):=by
 intro d
 induction d with
 |zero=>
  intro i hi hx
  rw [List.drop_eq_nil_of_le (by omega)] at hx
  cases hx
 |succ d ih=>
  intro i hi hx
  have hd:l.drop i=l.getD i 0 :: l.drop (i+1):=by
   rw [List.drop_eq_getElem_cons (by omega)]
   simp [List.getD_eq_getElem?_getD,show i<l.length by omega]
  have hr:rd l (i:Int)=l.getD i 0:=by unfold rd;rw [Int.toNat_natCast]
  have w1:wrap64 ((i:Int)+1)=((i+1:Nat):Int):=by unfold wrap64;omega
  by_cases c:x=l.getD i 0
  ·refine ⟨i,Ev.step (f:=fun _=>some (i:Int)) (fun k=> ?_) (Ev.now _)⟩
   simp only [cH.l0]
   rw [if_pos (by omega),if_pos (by omega),if_pos (by omega),hr,if_pos c]
  rw [hd] at hx
  obtain ⟨j,hj⟩:=ih (i+1) (by omega) ((List.mem_cons.1 hx).resolve_left c)
  refine ⟨j,Ev.step (fun k=> ?_) hj⟩
  simp only [cH.l0]
  rw [if_pos (by omega),if_pos (by omega),if_pos (by omega),hr,if_neg c,w1]
theorem uP (l:List Int) (x:Int) (hl:l.length≤512) (hx:x ∈ l):Ev (fun k=>fE.f k l x) true:=by
 obtain ⟨j,hj⟩:=B5 l x hl l.length 0 (by omega) (by simpa using hx)
 unfold fE.f cH.f
 refine Ev.bind hj ?_
 rw [decide_eq_true (by omega)]
 exact Ev.now _
end Go.Proofs.Ytbkjplomoegbdaa.xA
end
