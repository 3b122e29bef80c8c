/- Parts of the proof of CyclesSums, gathered by a program of this claim out of texts that it or the kit's print wrote: lemmas alone, no condition of their own. -/
import Derived.Test.YtbkjplomoegbdaaCcs10
import Derived.Test.YtbkjplomoegbdaaCcs7
import Derived.Test.YtbkjplomoegbdaaCcs12
section
namespace Go.Proofs.Ytbkjplomoegbdaa.kH
open Go.RowKit Go.Proofs.Ytbkjplomoegbdaa.PB Go.Proofs.Ytbkjplomoegbdaa.nM Go.Proofs.YtbkjplomoegbdaaW.bO Go.Proofs.YtbkjplomoegbdaaW.dA Go.Proofs.YtbkjplomoegbdaaW.dG
theorem BF (a b c:Int):bD.f a b c=some (decide (b≤a)&&decide (a≤c)):=by
 unfold bD.f
 by_cases h:a≥b
 ·rw [if_pos h];simp [show b≤a from h]
 rw [if_neg h];simp [show ¬b≤a from h]
theorem H4 (per:Int) (evs:List hO) (acts:List eu) (he:evs.length≤48) (ha:acts.length≤512):∀ (d i:Nat),i+d=acts.length→
  Ev (fun k=>aQ.l0 k (i:Int) per evs acts) (!((acts.drop i).any (oH per ((evs.length:Int) - 1)))):=by
 intro d
 induction d with
 |zero=>
  intro i hi
  refine Ev.step (f:=fun _=>some true) (fun k=> ?_) ?_
  ·simp only [aQ.l0]
   rw [if_neg (by omega)]
  rw [List.drop_eq_nil_of_le (by omega)]
  exact Ev.now _
 |succ d ih=>
  intro i hi
  have hd:acts.drop i=acts.getD i jW :: acts.drop (i+1):=by
   rw [List.drop_eq_getElem_cons (by omega)]
   simp [List.getD_eq_getElem?_getD,show i<acts.length by omega]
  have key:∀ k,aQ.l0 (k+1) (i:Int) per evs acts=if oH per ((evs.length:Int) - 1) (acts.getD i jW)=true then some false else aQ.l0 k ((i+1:Nat):Int) per evs acts:=by
   intro k
   simp only [aQ.l0]
   rw [if_pos (by omega),if_pos (by omega)]
   have hr:aC acts (i:Int)=acts.getD i jW:=by unfold aC;rw [Int.toNat_natCast]
   have hl:wrap64 ((evs.length:Int) - 1)=(evs.length:Int) - 1:=by unfold wrap64;omega
   have hi1:wrap64 ((i:Int)+1)=((i+1:Nat):Int):=by unfold wrap64;omega
   rw [hr,hl,hi1]
   generalize acts.getD i jW=a
   generalize (evs.length:Int) - 1=last
   simp only [BF,Option.bind_some,oH,Bool.or_eq_true,Bool.not_eq_true',Bool.and_eq_true,Bool.and_eq_false_iff,decide_eq_true_eq,decide_eq_false_iff_not,beq_iff_eq]
   generalize wrap64 (a.f4 - a.f3)=g
   repeat' split
   all_goals first|rfl|(exfalso;omega)
  by_cases hb:oH per ((evs.length:Int) - 1) (acts.getD i jW)=true
  ·refine Ev.step (f:=fun _=>some false) (fun k=>by rw [key,if_pos hb]) ?_
   rw [hd,List.any_cons,hb]
   exact Ev.now _
  refine Ev.step (f:=fun k=>aQ.l0 k ((i+1:Nat):Int) per evs acts) (fun k=>by rw [key,if_neg hb]) ?_
  rw [hd,List.any_cons,Bool.eq_false_iff.2 hb,Bool.false_or]
  exact ih (i+1) (by omega)
theorem tG (per:Int) (evs:List hO) (acts:List eu):Ev (fun k=>aQ.f k per evs acts) (fD per evs.length acts):=by
 unfold fD
 have O9:Ev (fun k=>aQ.j0 k true per evs acts) false:=Ev.step (f:=fun _=>some false) (fun k=>by simp only [aQ.j0];rfl) (Ev.now _)
 by_cases hp:2≤per∧per≤7200
 ·by_cases he:evs.length≤48
  ·by_cases ha:acts.length≤512
   ·refine Ev.congr (f:=fun k=>aQ.j0 k false per evs acts) (fun k=> ?_) (Ev.step (f:=fun k=>aQ.l0 k ((0:Nat):Int) per evs acts) (fun k=>by simp only [aQ.j0];rfl) ?_)
    ·unfold aQ.f
     rw [BF,Option.bind_some,if_pos (by simp;omega),if_neg (by omega),decide_eq_false (by omega)]
    have:=H4 per evs acts he ha acts.length 0 (by omega)
    simpa [hp.1,hp.2,he,ha] using this
   refine Ev.congr (f:=fun k=>aQ.j0 k true per evs acts) (fun k=> ?_) ?_
   ·unfold aQ.f
    rw [BF,Option.bind_some,if_pos (by simp;omega),if_neg (by omega),decide_eq_true (by omega)]
   simpa [ha] using O9
  refine Ev.congr (f:=fun k=>aQ.j0 k true per evs acts) (fun k=> ?_) ?_
  ·unfold aQ.f
   rw [BF,Option.bind_some,if_pos (by simp;omega),if_pos (by omega)]
  simpa [he] using O9
 refine Ev.congr (f:=fun k=>aQ.j0 k true per evs acts) (fun k=> ?_) ?_
 ·unfold aQ.f
  rw [BF,Option.bind_some,if_neg (by simp;omega)]
 have:(decide (2≤per)&&decide (per≤7200))=false:=by simp;omega
 simpa [this] using O9
def zy (n:Nat) (es:List (Nat × Nat)) (g:List Int):Prop:=g.length=n∧∀ i j,i<n→j<n→(g.getD i 0=g.getD j 0↔fF es i j)
def m8 (g:List Int) (a b:Nat):List Int:=g.map fun x=>if x=g.getD b 0 then g.getD a 0 else x
theorem arith (x y p q:Int):((if x=q then p else x)=(if y=q then p else y))↔(x=y∨(x=p∧q=y)∨(x=q∧p=y)):=by
 by_cases hx:x=q<;>by_cases hy:y=q
 ·rw [if_pos hx,if_pos hy];omega
 ·rw [if_pos hx,if_neg hy];omega
 ·rw [if_neg hx,if_pos hy];omega
 rw [if_neg hx,if_neg hy];omega
theorem zy.merge {n:Nat} {es:List (Nat × Nat)} {g:List Int} {a b:Nat} (h:zy n es g) (ha:a<n) (hb:b<n):zy n (es++[(a,b)]) (m8 g a b):=by
 refine ⟨by simp [m8,h.1],fun i j hi hj=> ?_⟩
 have hl:=h.1
 unfold m8
 rw [oL _ g i 0 0 (by omega),oL _ g j 0 0 (by omega)]
 refine (arith _ _ _ _).trans ?_
 rw [h.2 i j hi hj,h.2 i a hi ha,h.2 b j hb hj,h.2 i b hi hb,h.2 a j ha hj]
 show fF ((a,b) :: es) i j↔_
 exact fF.HQ.symm
theorem H5 (g:List Int) (p q:Int) (hn:g.length≤35184372088832):∀ (d i:Nat) (x:List Int),i+d=g.length→x.length=g.length→(∀ j,j<i→x.getD j 0=if g.getD j 0=q then p else g.getD j 0)→(∀ j,i≤j→x.getD j 0=g.getD j 0)→
  Ev (fun k=>cm.l0 k x p q (g.length:Int) (i:Int)) (true,g.map fun x=>if x=q then p else x):=by
 intro d
 induction d with
 |zero=>
  intro i x hi hx h1 h2
  refine Ev.step (f:=fun _=>some (true,x)) (fun k=> ?_) ?_
  ·simp only [cm.l0]
   rw [if_neg (by omega)]
  have:x=g.map fun x=>if x=q then p else x:=by
   refine List.ext_getElem (by simp [hx]) fun j a b=> ?_
   have:=h1 j (by omega)
   simp only [List.getD_eq_getElem?_getD,List.getElem?_eq_getElem a,List.getElem?_eq_getElem (show j<g.length by omega),Option.getD_some] at this
   rw [this,List.getElem_map]
  rw [← this]
  exact Ev.now _
 |succ d ih=>
  intro i x hi hx h1 h2
  have w1:wrap64 ((i:Int)+1)=((i+1:Nat):Int):=by unfold wrap64;omega
  have hr:rd x (i:Int)=g.getD i 0:=by unfold rd;rw [Int.toNat_natCast];exact h2 i (Nat.le_refl _)
  by_cases c:g.getD i 0=q
  ·refine Ev.step (f:=fun k=>cm.l0 k (x.set i p) p q (g.length:Int) ((i+1:Nat):Int)) (fun k=> ?_) (ih (i+1) _ (by omega) (by simpa using hx) ?_ ?_)
   ·simp only [cm.l0]
    rw [if_pos (by omega),if_pos (by omega),if_pos (by omega),hr,if_pos c,w1,Int.toNat_natCast]
   ·intro j hj
    by_cases e:i=j
    ·subst e
     rw [if_pos c]
     simp [List.getD_eq_getElem?_getD,show i<x.length by omega]
    have:=h1 j (by omega)
    rw [← this]
    simp only [List.getD_eq_getElem?_getD,List.getElem?_set_ne e]
   intro j hj
   have:=h2 j (by omega)
   rw [← this]
   simp only [List.getD_eq_getElem?_getD,List.getElem?_set_ne (show i≠j by omega)]
  refine Ev.step (f:=fun k=>cm.l0 k x p q (g.length:Int) ((i+1:Nat):Int)) (fun k=> ?_) (ih (i+1) _ (by omega) hx ?_ (fun j hj=>h2 j (by omega)))
  ·simp only [cm.l0]
   rw [if_pos (by omega),if_pos (by omega),if_pos (by omega),hr,if_neg c,w1]
  intro j hj
  by_cases e:i=j
  ·subst e
   rw [if_neg c]
   exact h2 i (Nat.le_refl _)
  exact h1 j (by omega)
theorem tw (g:List Int) (x:eu) (a b:Nat) (ha:x.f1=(a:Int)) (hb:x.f2=(b:Int)) (hal:a<g.length) (hbl:b<g.length) (hn:g.length≤35184372088832):
  Ev (fun k=>cm.f k g x.f0 x.f1 x.f2 x.f3 x.f4 x.f5) (if g.getD a 0=g.getD b 0 then (false,g) else (true,m8 g a b)):=by
 have h1:rd g (a:Int)=g.getD a 0:=by unfold rd;rw [Int.toNat_natCast]
 have h2:rd g (b:Int)=g.getD b 0:=by unfold rd;rw [Int.toNat_natCast]
 by_cases c:g.getD a 0=g.getD b 0
 ·rw [if_pos c]
  refine Ev.congr (f:=fun _=>some (false,g)) (fun k=> ?_) (Ev.now _)
  unfold cm.f
  rw [ha,hb,if_pos (by omega),if_pos (by omega),if_pos (by omega),if_pos (by omega),h1,h2,if_pos c]
 rw [if_neg c]
 refine Ev.congr (f:=fun k=>cm.l0 k g (g.getD a 0) (g.getD b 0) (g.length:Int) ((0:Nat):Int)) (fun k=> ?_) (H5 g _ _ hn g.length 0 g (by omega) rfl (fun j hj=>by omega) (fun j _=>rfl))
 unfold cm.f
 rw [ha,hb,if_pos (by omega),if_pos (by omega),if_pos (by omega),if_pos (by omega),h1,h2,if_neg c]
 rfl
end Go.Proofs.Ytbkjplomoegbdaa.kH
end
section
namespace Go.Proofs.Ytbkjplomoegbdaa.PB
open Go.RowKit Go.Proofs.Ytbkjplomoegbdaa.UF Go.Proofs.YtbkjplomoegbdaaW.bO Go.Proofs.YtbkjplomoegbdaaW.dA Go.Proofs.YtbkjplomoegbdaaW.dG
set_option linter.unusedVariables false
set_option linter.unusedSimpArgs false
def l9 (acts:List eu) (k:Int):Nat:=(acts.getD k.toNat jW).f1.toNat
def uB (acts:List eu) (k:Int):Nat:=(acts.getD k.toNat jW).f2.toNat
def zz (n:Nat) (acts:List eu) (k:Int):Bool:=decide (0≤k)&&decide (k<acts.length)&&decide (0≤(acts.getD k.toNat jW).f1)&&decide ((acts.getD k.toNat jW).f1<n)&&decide (0≤(acts.getD k.toNat jW).f2)&&decide ((acts.getD k.toNat jW).f2<n)
theorem BG {n:Nat} {acts:List eu} {k:Int} (h:zz n acts k=true):0≤k∧k<acts.length∧(acts.getD k.toNat jW).f1=(l9 acts k:Int)∧l9 acts k<n∧(acts.getD k.toNat jW).f2=(uB acts k:Int)∧uB acts k<n:=by
 simp [zz] at h
 unfold l9 uB
 simp only [List.getD_eq_getElem?_getD]
 omega
def iD (m:List Bool):Nat:=m.countP (fun b=> !b)
theorem sQ {m:List Bool} {i:Nat} (hi:i<m.length):iD (m.set i true)=if m.getD i false=false then iD m - 1 else iD m:=by
 unfold iD
 rw [List.countP_set hi]
 simp only [List.getD_eq_getElem?_getD,hi,List.getElem?_eq_getElem,Option.getD_some]
 cases m[i]<;>simp
theorem sR {m:List Bool} {i:Nat} (hi:i<m.length) (h:m.getD i false=false):0<iD m:=by
 unfold iD
 rw [List.countP_pos_iff]
 exact ⟨m[i],List.getElem_mem hi,by simpa [List.getD_eq_getElem?_getD,hi] using h⟩
structure CI (w0:World) (cs:Array Value) (gv cap:Nat) (bn n:Nat) (W:World) (m:List Bool):Prop where
 nb:W.heap[bn]? =some (.cells cs 26 (0,0))
 row:Kd.R Kd.bool 4 W w0.heap.size (fun k=>k≠bn) (.slice (some ⟨gv,0,none⟩) n cap) m
 bel:Below w0.heap.size w0 W
 len:m.length=n
namespace CI
variable {w0:World} {cs:Array Value} {gv cap bn n:Nat} {W:World} {m:List Bool}
theorem drewN (h:CI w0 cs gv cap bn n W m) (k:Nat):CI w0 cs gv cap bn n (W.drewN k) m:=⟨h.nb,Kd.av h.row k,ab h.bel k,h.len⟩
theorem alloc (h:CI w0 cs gv cap bn n W m) (o:Obj):CI w0 cs gv cap bn n (W.alloc o) m:=⟨aj h.nb o,Kd.aw h.row o,ae h.bel o,h.len⟩
theorem cell (h:CI w0 cs gv cap bn n W m) {i:Nat} (hi:i<n):W.cell? ⟨gv,i,none⟩=some (.bool (m.getD i false))∧W.frozen? ⟨gv,i,none⟩=false:=by
 have:=Kd.jq false h.row (i:Int) (by omega) (by omega)
 rw [Int.toNat_natCast] at this
 simpa [uf] using this
theorem put (h:CI w0 cs gv cap bn n W m) {i:Nat} (hi:i<n) (b:Bool):CI w0 cs gv cap bn n (W.setCell ⟨gv,i,none⟩ (.bool b)) (m.set i b):=by
 have hr:=Kd.l6 h.row (i:Int) b
 rw [Int.toNat_natCast] at hr
 have hg:gv≠bn:=h.row.1 gv rfl
 have hge:w0.heap.size≤gv:=Kd.iZ h.row gv rfl
 exact ⟨cI h.nb (fun e=>hg e.symm) _,hr.1,ai h.bel hge,by simp [h.len]⟩
theorem start {w:World} {v:Value} (hn:0<n) (ho:Kd.R Kd.bool 4 W (w.alloc (.cells cs 26)).heap.size (fun _=>True) v (List.replicate n false)) (hb:Below (w.alloc (.cells cs 26)).heap.size (w.alloc (.cells cs 26)) W):
  ∃ gv cap,v= .slice (some ⟨gv,0,none⟩) n cap∧CI w cs gv cap w.heap.size n W (List.replicate n false):=by
 obtain ⟨gv,cap,e,hgb,hgl,_⟩:=Kd.mP ho (by simp;omega)
 rw [List.length_replicate] at e
 subst e
 have hs:(w.alloc (.cells cs 26)).heap.size=w.heap.size+1:=by simp
 refine ⟨gv,cap,rfl,aH (gC w (.cells cs 26)) hb,Kd.bN (Kd.eH (Kd.gS ho) (by omega)) (fun k hk=> ?_),aE (ae (Below.refl _ _) _) hb,by simp⟩
 have:=hk.2.1
 omega
end CI
end Go.Proofs.Ytbkjplomoegbdaa.PB
end
