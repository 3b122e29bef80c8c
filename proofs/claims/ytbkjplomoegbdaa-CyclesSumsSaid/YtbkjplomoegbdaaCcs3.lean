/- Parts of the proof of CyclesSums, gathered by a program of this claim out of texts that it or the kit's print wrote: lemmas alone, no condition of their own. -/
import Derived.Test.YtbkjplomoegbdaaProg
import Derived.Test.YtbkjplomoegbdaaCcs2
namespace Go.Proofs.Ytbkjplomoegbdaa.PB
open Go.RowKit Go.Proofs.YtbkjplomoegbdaaW.bO Go.Proofs.YtbkjplomoegbdaaW.dA Go.Proofs.YtbkjplomoegbdaaW.dG
attribute [local go_sem] iQ iR jM jN gW gX iS iT
set_option linter.unusedVariables false
set_option linter.unusedSimpArgs false
def Py:Option Int→Value
 |none=> .nilIface
 |some c=> .iface 0 (.int .i64 c)
theorem bB:Py none= .nilIface:=rfl
theorem bC (c:Int):Py (some c)= .iface 0 (.int .i64 c):=rfl
theorem info3:(Try.prog.info? 3).map (fun i=>(i.zero,i.size,i.bytes))=some (some (.int .i64 0),1,8):=by kernel_rfl
theorem Lu:(Try.prog.info? 4).map (fun i=>(i.zero,i.size,i.bytes))=some (some (.bool false),1,1):=by kernel_rfl
theorem MF:(Try.prog.info? 36).map (fun i=>(i.zero,i.size,i.bytes))=some (some (.agg #[(.int .i64 0),(.int .i64 0),(.int .i64 0),(.int .i64 0),(.int .i64 0),(.int .i64 0)]),6,48):=by kernel_rfl
theorem MG:(Try.prog.info? 41).map (fun i=>(i.zero,i.size,i.bytes))=some (some (.agg #[(.slice none 0 0),(.slice none 0 0)]),2,48):=by kernel_rfl
theorem GA:(Try.prog.info? 97).map (fun i=>(i.zero,i.size,i.bytes))=some (some (.agg #[(.int .i64 0),(.int .i64 0),(.int .i64 0)]),3,24):=by kernel_rfl
structure hO where
 f0:Int
 f1:Int
 f2:Int
def Pz:hO:=⟨(0:Int),(0:Int),(0:Int)⟩
def oS:Kd hO:=Kd.Yh (Kd.pair (Kd.int .i64) (Kd.pair (Kd.int .i64) (Kd.int .i64))) (fun x:hO=>(x.f0,x.f1,x.f2))
theorem Dy (w:World) (base:Nat) (ok:Nat→Prop) (x:hO):oS.M w base ok x [.int .i64 x.f0,.int .i64 x.f1,.int .i64 x.f2]:=⟨[.int .i64 x.f0],[.int .i64 x.f1,.int .i64 x.f2],rfl,rfl,⟨[.int .i64 x.f1],[.int .i64 x.f2],rfl,rfl,rfl⟩⟩
structure eu where
 f0:Int
 f1:Int
 f2:Int
 f3:Int
 f4:Int
 f5:Int
def jW:eu:=⟨(0:Int),(0:Int),(0:Int),(0:Int),(0:Int),(0:Int)⟩
def nD:Kd eu:=Kd.Yh (Kd.pair (Kd.int .i64) (Kd.pair (Kd.int .i64) (Kd.pair (Kd.int .i64) (Kd.pair (Kd.int .i64) (Kd.pair (Kd.int .i64) (Kd.int .i64)))))) (fun x:eu=>(x.f0,x.f1,x.f2,x.f3,x.f4,x.f5))
theorem GD {w:World} {x:eu} {cs:List Value} (h:nD.K w x cs):cs=[.int .i64 x.f0,.int .i64 x.f1,.int .i64 x.f2,.int .i64 x.f3,.int .i64 x.f4,.int .i64 x.f5]:=by
 obtain ⟨_,_,rfl,rfl,⟨_,_,rfl,rfl,⟨_,_,rfl,rfl,⟨_,_,rfl,rfl,⟨_,_,rfl,rfl,rfl⟩⟩⟩⟩⟩:=h
 exact rfl
theorem vB (w:World) (base:Nat) (ok:Nat→Prop) (x:eu):nD.M w base ok x [.int .i64 x.f0,.int .i64 x.f1,.int .i64 x.f2,.int .i64 x.f3,.int .i64 x.f4,.int .i64 x.f5]:=⟨[.int .i64 x.f0],[.int .i64 x.f1,.int .i64 x.f2,.int .i64 x.f3,.int .i64 x.f4,.int .i64 x.f5],rfl,rfl,⟨[.int .i64 x.f1],[.int .i64 x.f2,.int .i64 x.f3,.int .i64 x.f4,.int .i64 x.f5],rfl,rfl,⟨[.int .i64 x.f2],[.int .i64 x.f3,.int .i64 x.f4,.int .i64 x.f5],rfl,rfl,⟨[.int .i64 x.f3],[.int .i64 x.f4,.int .i64 x.f5],rfl,rfl,⟨[.int .i64 x.f4],[.int .i64 x.f5],rfl,rfl,rfl⟩⟩⟩⟩⟩
def aC (xs:List eu) (i:Int):eu:=xs.getD i.toNat jW
theorem i9 {w:World} {A:Option Addr} {n:Nat} {xs:List eu} (h:Kd.C nD w A n xs) (i:Int) (h0:0≤i) (h1:i<n):∃ ad,A=some ad∧w.cell? (ad.add (i.toNat*6))=some (.int .i64 (aC xs i).f0)∧w.cell? ⟨(ad.add (i.toNat*6)).block,(ad.add (i.toNat*6)).off+1,none⟩=some (.int .i64 (aC xs i).f1)∧w.cell? ⟨(ad.add (i.toNat*6)).block,(ad.add (i.toNat*6)).off+2,none⟩=some (.int .i64 (aC xs i).f2)∧w.cell? ⟨(ad.add (i.toNat*6)).block,(ad.add (i.toNat*6)).off+3,none⟩=some (.int .i64 (aC xs i).f3)∧w.cell? ⟨(ad.add (i.toNat*6)).block,(ad.add (i.toNat*6)).off+4,none⟩=some (.int .i64 (aC xs i).f4)∧w.cell? ⟨(ad.add (i.toNat*6)).block,(ad.add (i.toNat*6)).off+5,none⟩=some (.int .i64 (aC xs i).f5):=by
 obtain ⟨ad,c,e,_,hK,hc0⟩:=Kd.Lo h jW i h0 h1
 have hc:∀ j u,c[j]? =some u→w.cell? (ad.add (i.toNat*6+j))=some u:=hc0
 obtain rfl:=GD hK
 exact ⟨ad,e,hc 0 _ rfl,by rw [← og _ _ 1 (by omega)];exact hc 1 _ rfl,by rw [← og _ _ 2 (by omega)];exact hc 2 _ rfl,by rw [← og _ _ 3 (by omega)];exact hc 3 _ rfl,by rw [← og _ _ 4 (by omega)];exact hc 4 _ rfl,by rw [← og _ _ 5 (by omega)];exact hc 5 _ rfl⟩
structure oW where
 f0:(List Int)
 f1:(List Int)
def Yj:oW:=⟨([]:List Int),([]:List Int)⟩
def Ji:Kd oW:=Kd.Yh (Kd.pair (Kd.slice 3 (Kd.int .i64)) (Kd.slice 3 (Kd.int .i64))) (fun x:oW=>(x.f0,x.f1))
theorem GF {w:World} {x:oW} {cs:List Value} (h:Ji.K w x cs):∃ A0 c0 A1 c1,cs=[.slice A0 x.f0.length c0,.slice A1 x.f1.length c1]∧x.f0.length≤c0∧(Kd.int .i64).C w A0 x.f0.length x.f0∧x.f1.length≤c1∧(Kd.int .i64).C w A1 x.f1.length x.f1:=by
 obtain ⟨_,_,rfl,⟨A0,c0,rfl,l0,g0⟩,⟨A1,c1,rfl,l1,g1⟩⟩:=h
 exact ⟨A0,c0,A1,c1,rfl,l0,g0,l1,g1⟩
theorem Ft {w:World} {base:Nat} {ok:Nat→Prop} {x:oW} {cs:List Value} (h:Ji.M w base ok x cs):∃ v0 v1,cs=[v0,v1]∧(Kd.int .i64).R 3 w base ok v0 x.f0∧(Kd.int .i64).R 3 w base ok v1 x.f1:=by
 obtain ⟨_,_,rfl,⟨v0,rfl,g0⟩,⟨v1,rfl,g1⟩⟩:=h
 exact ⟨v0,v1,rfl,g0,g1⟩
theorem Jj (w:World) (base:Nat) (ok:Nat→Prop) (x:oW) {v0:Value} (g0:(Kd.int .i64).R 3 w base ok v0 x.f0) {v1:Value} (g1:(Kd.int .i64).R 3 w base ok v1 x.f1):Ji.M w base ok x [v0,v1]:=⟨[v0],[v1],rfl,⟨v0,rfl,g0⟩,⟨v1,rfl,g1⟩⟩
def ja (xs:List oW) (i:Int):oW:=xs.getD i.toNat Yj
theorem MH {w:World} {A:Option Addr} {n:Nat} {xs:List oW} (h:Kd.C Ji w A n xs) (i:Int) (h0:0≤i) (h1:i<n):∃ ad A0 c0 A1 c1,A=some ad∧w.cell? (ad.add (i.toNat*2))=some (.slice A0 (ja xs i).f0.length c0)∧w.cell? ⟨(ad.add (i.toNat*2)).block,(ad.add (i.toNat*2)).off+1,none⟩=some (.slice A1 (ja xs i).f1.length c1)∧(ja xs i).f0.length≤c0∧(Kd.int .i64).C w A0 (ja xs i).f0.length (ja xs i).f0∧(ja xs i).f1.length≤c1∧(Kd.int .i64).C w A1 (ja xs i).f1.length (ja xs i).f1:=by
 obtain ⟨ad,c,e,_,hK,hc0⟩:=Kd.Lo h Yj i h0 h1
 have hc:∀ j u,c[j]? =some u→w.cell? (ad.add (i.toNat*2+j))=some u:=hc0
 obtain ⟨A0,c0,A1,c1,rfl,l0,g0,l1,g1⟩:=GF hK
 exact ⟨ad,A0,c0,A1,c1,e,hc 0 _ rfl,by rw [← og _ _ 1 (by omega)];exact hc 1 _ rfl,l0,g0,l1,g1⟩
def ax (w0 W:World) (g:Nat) (f0:List Int) (f1:Int):Prop:=∃ A0 c0,W.heap[g]? =some (.cells #[.slice A0 f0.length c0,.int .i64 f1] 138 (0,0))∧w0.heap.size≤g∧Kd.C (Kd.int .i64) w0 A0 f0.length f0
theorem ax.grown {w0 W:World} {g:Nat} {f0:List Int} {f1:Int} {W1:World} {row:Option Nat} (h:ax w0 W g f0 f1) (hw:W.grownBy W1 row) (hne:some g≠row):ax w0 W1 g f0 f1:=by
 obtain ⟨A0,c0,hb,hg,hr0⟩:=h
 exact ⟨A0,c0,dq hb hw hne,hg,hr0⟩
theorem ax.kept {w0 W:World} {g:Nat} {f0:List Int} {f1:Int} {W1:World} {S:Nat→Prop} (h:ax w0 W g f0 f1) (hk:Kept W W1 S) (hne:¬S g):ax w0 W1 g f0 f1:=by
 obtain ⟨A0,c0,hb,hg,hr0⟩:=h
 exact ⟨A0,c0,nr hb hk hne,hg,hr0⟩
theorem ax.below {w0 W:World} {g:Nat} {f0:List Int} {f1:Int} {W1:World} (h:ax w0 W g f0 f1) (hw:Below W.heap.size W W1):ax w0 W1 g f0 f1:=h.grown (qK hw none) (by simp)
theorem ax.alloc {w0 W:World} {g:Nat} {f0:List Int} {f1:Int} (h:ax w0 W g f0 f1) (o:Obj):ax w0 (W.alloc o) g f0 f1:=h.below (ae (Below.refl _ _) o)
theorem ax.drewN {w0 W:World} {g:Nat} {f0:List Int} {f1:Int} (h:ax w0 W g f0 f1) (m:Nat):ax w0 (W.drewN m) g f0 f1:=h
theorem ax.drew {w0 W:World} {g:Nat} {f0:List Int} {f1:Int} (h:ax w0 W g f0 f1):ax w0 W.drew g f0 f1:=h
theorem ax.apart {w0 W:World} {g:Nat} {f0:List Int} {f1:Int} {α:Type} {d:Kd α} {e:Nat} {base:Nat} {ok:Nat→Prop} {v:Value} {xs:List α} (h:ax w0 W g f0 f1) (ho:d.R e W base ok v xs) (ht:∀ q,q ∈ e :: d.E→q≠138):d.R e W base (fun k=>ok k∧k≠g) v xs:=by
 obtain ⟨A0,c0,hb,hg,hr0⟩:=h
 exact Kd.dL ho hb ht
theorem ax.mO {w0 W:World} {g:Nat} {f0:List Int} {f1:Int} {α:Type} {d:Kd α} {e:Nat} {base:Nat} {ok:Nat→Prop} {v:Value} {xs:List α} (h:ax w0 W g f0 f1) (ho:d.R e W base ok v xs) (ht:e≠138):some g≠v.ownBlock:=by
 obtain ⟨A0,c0,hb,hg,hr0⟩:=h
 exact Kd.mz ho hb ht
theorem ax.lt {w0 W:World} {g:Nat} {f0:List Int} {f1:Int} (h:ax w0 W g f0 f1):g<W.heap.size:=by
 obtain ⟨A0,c0,hb,hg,hr0⟩:=h
 exact cn hb
theorem ax.ge {w0 W:World} {g:Nat} {f0:List Int} {f1:Int} (h:ax w0 W g f0 f1):w0.heap.size≤g:=by
 obtain ⟨A0,c0,hb,hg,hr0⟩:=h
 exact hg
theorem ax.yH {w0 W:World} {g:Nat} {f0:List Int} {f1:Int} {a:Nat} {cs:Array Value} {t:TypeId} {fr:Nat × Nat} (h:ax w0 W g f0 f1) (hb2:W.heap[a]? =some (.cells cs t fr)) (ht:t≠138):g≠a:=by
 obtain ⟨A0,c0,hb,hg,hr0⟩:=h
 rintro rfl
 rw [hb] at hb2
 injection hb2 with hb2
 injection hb2 with _ ht2
 exact ht ht2.symm
theorem ax.far {w0 W:World} {g:Nat} {f0:List Int} {f1:Int} {p:Addr} (h:ax w0 W g f0 f1) (hne:g≠p.block) (u:Value):ax w0 (W.setCell p u) g f0 f1:=by
 obtain ⟨A0,c0,hb,hg,hr0⟩:=h
 exact ⟨A0,c0,cI hb hne u,hg,hr0⟩
theorem wz {W:World} {g:Nat} {A0:Option Addr} {c0:Nat} {f0:List Int} {f1:Int} (h:W.heap[g]? =some (.cells #[.slice A0 f0.length c0,.int .i64 f1] 138 (0,0))):W.cell? ⟨g,0,none⟩=some (.slice A0 f0.length c0):=(ag h 0).trans rfl
theorem wA {W:World} {g:Nat} {A0:Option Addr} {c0:Nat} {f0:List Int} {f1:Int} (h:W.heap[g]? =some (.cells #[.slice A0 f0.length c0,.int .i64 f1] 138 (0,0))):W.cell? ⟨g,1,none⟩=some (.int .i64 f1):=(ag h 1).trans rfl
theorem ax.e9 {w0 W:World} {g:Nat} {f0:List Int} {f1:Int} (h:ax w0 W g f0 f1) (x:Int):ax w0 (W.setCell ⟨g,1,none⟩ (.int .i64 x)) g f0 x:=by
 obtain ⟨A0,c0,hb,hg,hr0⟩:=h
 exact ⟨A0,c0,by simpa using Dl hb 1 (.int .i64 x),hg,hr0⟩
def ef.f (l0:List Int):Option (List Int × Int):=some (l0,0)
set_option maxHeartbeats 8000000 in
set_option maxRecDepth 100000 in
theorem ef.calls (A0:Option Addr) (c0:Nat) (l0:List Int) (r1:List Int) (r2:Int) (w0 w:World) (hB:Below w0.heap.size w0 w) (hr0:Kd.C (Kd.int .i64) w0 A0 l0.length l0) (hc0:l0.length≤c0) (h:ef.f l0=some (r1,r2)):
  Calls Try.prog 83 #[.slice A0 l0.length c0] w fun e w'=>∃ g_:Nat,e= .returned (.pointer (some ⟨g_,0,none⟩))∧ax w0 w' g_ r1 r2∧Below w0.heap.size w0 w'∧Below w.heap.size w w':=by
 have aaS:=Try.underlying138
 have xJ:=aa.mk hr0
 have Fu:=aa.mk hc0
 clear hr0 hc0
 have HBW:=aa.mk (Below.refl w.heap.size w)
 have PA:=aa.mk hB.size
 have HB:=aa.mk hB
 clear hB
 have H:(some (l0,0))=some (r1,r2):=h
 clear h
 simp only [Option.some.injEq,Prod.mk.injEq] at H
 obtain ⟨rfl,rfl⟩:=H
 go_enter Try.func83,Try.ntmps83
 go_wp2_with (first|((with_reducible refine bF (N:=5) rfl ?_);refine bH ?hg (N:=5) ?hd (cs:=#[.slice A0 l0.length c0,.int .i64 0]) (t:=138) ?hr ?_;(case hd=>rfl);(case hg=>rfl);(case hr=>first|(go_simp;done)|(go_simp;rfl));intro Dz hg w2 hbox hb;have br:=aa.mk (aE HBW.out hb);have bt:=aa.mk (aE (by repeat (first|(with_reducible first|exact HB.out|apply ae|apply ab|apply af)|exact HB.out)) hb);have bA:=aa.mk (hbox);have bK:=aa.mk ((by rw [hg];exact (az (by repeat (first|(with_reducible first|exact HBW.out|apply ae|apply ab|apply af)|exact HBW.out))):w.heap.size≤Dz));have cL:=aa.mk ((Nat.le_trans PA.out (by rw [hg];exact (az (by repeat (first|(with_reducible first|exact HBW.out|apply ae|apply ab|apply af)|exact HBW.out))):w.heap.size≤Dz):w0.heap.size≤Dz));clear HBW;clear HB;have HBW:=br;have HB:=bt;have PD:=bA;have PE:=bK;have Lv:=cL;clear br bt bA bK cL;clear hb hbox hg))
 go_ret
 exact ⟨_,rfl,(show ax w0 _ Dz l0 0 from ⟨_,_,by (with_reducible repeat (first|refine ak ?_ _|refine aq ?_|refine aj ?_ _));exact PD.out,Lv.out,xJ.out⟩),by repeat (first|(with_reducible first|exact HB.out|apply ae|apply ab|apply af|refine ai ?_ Lv.out)|exact HB.out),by repeat (first|(with_reducible first|exact HBW.out|apply ae|apply ab|apply af|refine ai ?_ PE.out)|exact HBW.out)⟩
def bw.f (a0:Int) (a1:Int):Option (Int):=if (IntKind.u64.wrap (a1))=0 then (none) else (some (wrap64 (Int.tmod (IntKind.u64.wrap (a0)) (IntKind.u64.wrap (a1)))))
set_option maxHeartbeats 8000000 in
set_option maxRecDepth 100000 in
theorem bw.calls (a0:Int) (a1:Int) (r:Int) (w:World) (h:bw.f a0 a1=some r):
  Calls Try.prog 34 #[.int .i64 a0,.int .i64 a1] w fun e w'=>e= .returned (.int .i64 r)∧dD w w':=by
 have H:(if (IntKind.u64.wrap (a1))=0 then (none) else (some (wrap64 (Int.tmod (IntKind.u64.wrap (a0)) (IntKind.u64.wrap (a1))))))=some r:=h
 clear h
 by_cases c3:(IntKind.u64.wrap (a1))=0
 ·rw [if_pos c3] at H
  exact absurd H (by simp)
 rw [if_neg c3] at H
 have c3b0:((IntKind.u64.wrap (a1))==0)=false:=beq_eq_false_iff_ne.mpr c3
 have c3b1:((IntKind.u64.wrap (a1)) !=0)=true:=bne_iff_ne.mpr c3
 obtain rfl:=Option.some.inj H
 go_enter Try.func34,Try.ntmps34
 go_wp2
 go_ret
 exact ⟨by first|rfl|(simp;done)|(simp [*];done),by repeat (first|exact dD.refl _|apply dD.step)⟩
def aJ.f (pE:List Int) (nP:Int) (a1:Int):Option (Int × Int):=if nP≥(pE.length:Int) then (some (0,nP)) else (if 0≤(wrap64 ((wrap64 (nP+1)) - 1)) then (if (wrap64 ((wrap64 (nP+1)) - 1))<(pE.length:Int) then ((bw.f (rd pE (wrap64 ((wrap64 (nP+1)) - 1))) a1).bind fun xN=>(some (xN,wrap64 (nP+1)))) else (none)) else (none))
set_option maxHeartbeats 8000000 in
set_option maxRecDepth 100000 in
theorem aJ.calls (g:Nat) (pE:List Int) (nP:Int) (a1:Int) (r1:Int) (r2:Int) (w0 w:World) (hI:ax w0 w g pE nP) (hB:Below w0.heap.size w0 w) (h:aJ.f pE nP a1=some (r1,r2)):
  Calls Try.prog 84 #[.pointer (some ⟨g,0,none⟩),.int .i64 a1] w fun e w'=>e= .returned (.int .i64 r1)∧ax w0 w' g pE r2∧Below w0.heap.size w0 w'∧dP w w' g none:=by
 have Jk:=aa.mk hI
 have HK:=aa.mk (dP.refl w g none)
 have HL:=aa.mk hB.size
 clear hI
 have PA:=aa.mk hB.size
 have HB:=aa.mk hB
 clear hB
 have H:(if nP≥(pE.length:Int) then (some (0,nP)) else (if 0≤(wrap64 ((wrap64 (nP+1)) - 1)) then (if (wrap64 ((wrap64 (nP+1)) - 1))<(pE.length:Int) then ((bw.f (rd pE (wrap64 ((wrap64 (nP+1)) - 1))) a1).bind fun xN=>(some (xN,wrap64 (nP+1)))) else (none)) else (none)))=some (r1,r2):=h
 clear h
 by_cases c3:nP≥(pE.length:Int)
 ·rw [if_pos c3] at H
  have c3b0:decide ((pE.length:Int)≤nP)=true:=decide_eq_true c3
  clear c3
  simp only [Option.some.injEq,Prod.mk.injEq] at H
  obtain ⟨rfl,rfl⟩:=H
  obtain ⟨Yk,Yl,Jl,Ym,Yn⟩:=Jk.out
  have Yo:=wz Jl
  have Yp:=wA Jl
  have Yq:=ah Jl 1
  clear Jl Ym
  go_enter Try.func84,Try.ntmps84
  go_wp2
  repeat (go_quiet (fail);try go_wp2)
  go_ret
  exact ⟨by first|rfl|(simp [bB,bC]<;>rfl)|(simp [*,bB,bC]<;>rfl),by repeat (first|(with_reducible first|exact Jk.out|apply ax.alloc|apply ax.drewN|apply ax.drew|apply ax.e9)|exact Jk.out),by repeat (first|(with_reducible first|exact HB.out|apply ae|apply ab|apply af|refine ai ?_ (ax.ge Jk.out))|exact HB.out),by repeat (first|(with_reducible first|exact HK.out|apply dP.Pm|apply wj|apply xW|apply wk)|exact HK.out)⟩
 rw [if_neg c3] at H
 have c3b0:decide ((pE.length:Int)≤nP)=false:=decide_eq_false c3
 clear c3
 obtain ⟨DA,Jm⟩:∃ j_:Int,(wrap64 ((wrap64 (nP+1)) - 1))=j_:=⟨_,rfl⟩
 replace H:(if 0≤(DA) then (if (DA)<(pE.length:Int) then ((bw.f (rd pE (DA)) a1).bind fun xN=>(some (xN,wrap64 (nP+1)))) else (none)) else (none))=some (r1,r2):=by first|(rw [Jm] at H;exact H)|(simp only [Jm] at H ⊢;exact H)
 have hji5w:(IntKind.i64.wrap ((wrap64 (nP+1)) - 1))=DA:=(aY _).trans Jm
 by_cases c6:0≤(DA)
 ·rw [if_pos c6] at H
  have c6b0:decide (0≤(DA))=true:=decide_eq_true c6
  clear c6
  by_cases c7:(DA)<(pE.length:Int)
  ·rw [if_pos c7] at H
   have c7b0:decide ((DA)<(pE.length:Int))=true:=decide_eq_true c7
   clear c7
   replace H:=Option.bind_eq_some_iff.mp H
   obtain ⟨xN,GG,H⟩:=H
   replace H:(some (xN,wrap64 (nP+1)))=some (r1,r2):=H
   have A8:=aa.mk GG
   clear GG
   simp only [Option.some.injEq,Prod.mk.injEq] at H
   obtain ⟨rfl,rfl⟩:=H
   obtain ⟨Yr,Ys,Jn,Yt,MI⟩:=Jk.out
   have jP:=wz Jn
   have jQ:=wA Jn
   have jR:=ah Jn 1
   clear Jn Yt
   have MJ:0≤((DA):Int):=of_decide_eq_true (by assumption)
   have MK:(DA)<(pE.length:Int):=of_decide_eq_true (by assumption)
   obtain ⟨PF,Yu,rE⟩:=Kd.dN MI (DA) MJ MK
   cases Yu
   have vC:PF.block≠g:=Nat.ne_of_lt (Nat.lt_of_lt_of_le (by have:=World.block_lt_of_cell? _ _ rE;first|rwa [kB] at this|exact this) (ax.ge Jk.out))
   replace rE:=nc HB.out rE
   replace rE:=(cell_far (p:=⟨g,1,none⟩) (by first|(rw [kB];exact vC)|(show (Addr.add _ _).block≠_;rw [kB];exact vC)|exact vC) (.int .i64 (wrap64 (nP+1)))).trans rE
   (try have TI:=fun (n_:Nat)=>(show (((w.drewN n_).setCell ⟨g,1,none⟩ (.int .i64 (wrap64 (nP+1))))).cell? _=some _ from rE))
   clear vC
   replace MJ:=eq_true MJ
   replace MK:=eq_true MK
   go_enter Try.func84,Try.ntmps84
   go_wp2_with (first|(go_at_call 34;(with_reducible refine (bw.calls (rd pE (DA)) a1 xN _ A8.out).mono ?_);rintro e w' ⟨rfl,⟨nd,rfl⟩⟩;(try first|exact ⟨rfl,_,World.drewN_drewN _ _ _⟩|exact ⟨rfl,_,Eq.trans (World.drewN_drewN _ _ _) (congrArg (World.drewN _) (Nat.add_assoc _ _ _))⟩)))
   repeat (go_quiet (first|(go_at_call 34;(with_reducible refine (bw.calls (rd pE (DA)) a1 xN _ A8.out).mono ?_);rintro e w' ⟨rfl,⟨nd,rfl⟩⟩;(try first|exact ⟨rfl,_,World.drewN_drewN _ _ _⟩|exact ⟨rfl,_,Eq.trans (World.drewN_drewN _ _ _) (congrArg (World.drewN _) (Nat.add_assoc _ _ _))⟩)));try go_wp2_with (first|(go_at_call 34;(with_reducible refine (bw.calls (rd pE (DA)) a1 xN _ A8.out).mono ?_);rintro e w' ⟨rfl,⟨nd,rfl⟩⟩;(try first|exact ⟨rfl,_,World.drewN_drewN _ _ _⟩|exact ⟨rfl,_,Eq.trans (World.drewN_drewN _ _ _) (congrArg (World.drewN _) (Nat.add_assoc _ _ _))⟩))))
   go_ret
   exact ⟨by first|rfl|(simp [bB,bC]<;>rfl)|(simp only [← Jm];first|rfl|(simp [bB,bC]<;>rfl))|(simp [*,bB,bC]<;>rfl),by repeat (first|(with_reducible first|exact Jk.out|apply ax.alloc|apply ax.drewN|apply ax.drew|apply ax.e9)|exact Jk.out),by repeat (first|(with_reducible first|exact HB.out|apply ae|apply ab|apply af|refine ai ?_ (ax.ge Jk.out))|exact HB.out),by repeat (first|(with_reducible first|exact HK.out|apply dP.Pm|apply wj|apply xW|apply wk)|exact HK.out)⟩
  rw [if_neg c7] at H
  exact absurd H (by simp)
 rw [if_neg c6] at H
 exact absurd H (by simp)
def cD.l0:Nat→List Int→Int→Int→List Int→Int→Option (List Int)
 |0,_,_,_,_,_=>none
 |k+1,x5,IY,wB,DB,Jo=>if wB<IY then ((aJ.f DB Jo 101).bind fun Lw=>(if 0≤wB then (if wB<(x5.length:Int) then (cD.l0 k (x5.set (wB:Int).toNat (wrap64 (Lw.1 - 50))) IY (wrap64 (wB+1)) DB Lw.2) else (none)) else (none))) else (some x5)
def cD.f (k:Nat) (l0:List Int) (a1:Int):Option (List Int):=if 0≤a1 then (if (a1:Int).toNat≤35184372088832 then ((some (List.replicate (a1:Int).toNat 0:List Int)).bind fun qG=>((ef.f l0).bind fun uJ=>(cD.l0 k qG (qG.length:Int) 0 uJ.1 uJ.2))) else (none)) else (none)
set_option maxHeartbeats 8000000 in
set_option maxRecDepth 100000 in
theorem cD.calls (k:Nat) (A0:Option Addr) (c0:Nat) (l0:List Int) (a1:Int) (r:List Int) (w:World) (hr0:Kd.C (Kd.int .i64) w A0 l0.length l0) (hc0:l0.length≤c0) (h:cD.f k l0 a1=some r):
  Calls Try.prog 36 #[.slice A0 l0.length c0,.int .i64 a1] w fun e w'=>∃ uo:Value,e= .returned (uo)∧Kd.R (Kd.int .i64) 3 w' w.heap.size (fun _=>True) uo r∧Below w.heap.size w w':=by
 have xJ:=aa.mk hr0
 have Fu:=aa.mk hc0
 clear hr0 hc0
 have HB:=aa.mk (Below.refl w.heap.size w)
 have H:(if 0≤a1 then (if (a1:Int).toNat≤35184372088832 then ((some (List.replicate (a1:Int).toNat 0:List Int)).bind fun qG=>((ef.f l0).bind fun uJ=>(cD.l0 k qG (qG.length:Int) 0 uJ.1 uJ.2))) else (none)) else (none))=some r:=h
 clear h
 by_cases c3:0≤a1
 ·rw [if_pos c3] at H
  have c3b0:=eq_true c3
  have c3b1:decide (0≤a1)=true:=decide_eq_true c3
  clear c3
  by_cases c4:(a1:Int).toNat≤35184372088832
  ·rw [if_pos c4] at H
   have c4b0:=eq_true c4
   have c4b1:decide ((a1:Int).toNat≤35184372088832)=true:=decide_eq_true c4
   clear c4
   obtain ⟨qG,Au⟩:∃ y_:List Int,y_=(List.replicate (a1:Int).toNat 0):=⟨_,rfl⟩
   replace H:((ef.f l0).bind fun uJ=>(cD.l0 k qG (qG.length:Int) 0 uJ.1 uJ.2))=some r:=by first|(rw [Au];with_reducible exact H)|(have gT:=(Option.bind_some _ _).symm.trans H;rw [Au];with_reducible exact gT)|(have gT:=(Option.bind_some _ _).symm.trans H;with_reducible exact gT)|with_reducible exact H|(rw [Au];exact H)|exact H
   have Lx:=aa.mk Au
   clear Au
   replace H:=Option.bind_eq_some_iff.mp H
   obtain ⟨⟨yI,ML⟩,DC,H⟩:=H
   replace H:(cD.l0 k qG (qG.length:Int) 0 yI ML)=some r:=H
   have A5:=aa.mk DC
   clear DC
   have H':=aa.mk H
   clear H
   go_enter Try.func36,Try.ntmps36
   go_wp2_with (first|((with_reducible refine bF (N:=9) rfl ?_);refine Kd.p8 (Kd.int .i64) _ 3 rfl (N:=9) rfl 22 _ _ rfl a1 rfl rfl Try.underlying22 (.int .i64 0) 8 info3 rfl (by decide) (by omega) 0 (ok:=fun _=>True) (okp:=fun _=>True) rfl (fun _ hk=>hk) trivial (of_decide_eq_true (by assumption)) (Nat.le_trans (Nat.mul_le_mul_right _ (of_decide_eq_true (by assumption):a1.toNat≤35184372088832)) (by omega)) (Below.refl _ _) (Nat.le_refl _) ?_;intro ac3 w6 PG hb hg_ hnew_;clear hg_ hnew_;(first|rw [← Lx.out] at PG|(simp only [Int.reduceToNat] at PG;rw [← Lx.out] at PG));have br:=aa.mk (Kd.eH PG (az (by repeat (first|(with_reducible first|exact HB.out|apply ae|apply ab|apply af)|exact HB.out))));have bt:=aa.mk (aE (by repeat (first|(with_reducible first|exact HB.out|apply ae|apply ab|apply af)|exact HB.out)) hb);clear HB;have Aw:=br;have HB:=bt;clear br bt;clear hb PG)|((with_reducible refine bY (f:=83) rfl ?_);refine er (some 11) rfl rfl Try.func83 (by kernel_rfl) rfl #[.slice A0 l0.length c0] rfl (by (try simp only [List.map_toArray,List.map_cons,List.map_nil]);first|done|rfl|(simp only [List.length_drop,List.length_take];rfl)) ?_;(with_reducible refine (ef.calls _ _ l0 yI ML w _ ?bS ?bT ?cJ A5.out).mono ?_);(case bS=>repeat (first|(with_reducible first|exact HB.out|apply ae|apply ab|apply af)|exact HB.out));(case bT=>exact xJ.out);(case cJ=>exact Fu.out);rintro e w8 ⟨GH,rfl,hi,hb,hb2⟩;refine ⟨_,rfl, ?_⟩;have br:=aa.mk (Kd.aZ (by (with_reducible repeat (first|apply Kd.aw|apply Kd.av|apply Kd.aA));exact Aw.out) hb2);have bt:=aa.mk (hb);have bA:=aa.mk (hi);clear Aw;clear HB;have Aw:=br;have HB:=bt;have mi:=bA;clear br bt bA;(try clear hb);(try clear hb2);(try clear hk);(try clear hi);obtain ⟨Yv,PH,O3⟩:=Kd.cA Aw.out;subst O3))
   go_loopg [14] k (fun kq PJ w'=>∃ (gI:List Int) (kM:Int) (pJ:Int),PJ= .int .i64 kM∧aa (cD.l0 kq gI (qG.length:Int) kM yI pJ=some r)∧aa (kq≤k)∧aa (Kd.R (Kd.int .i64) 3 w' w.heap.size (fun _=>True) (.slice Yv qG.length PH) gI)∧aa (ax w w' GH yI pJ)∧aa (Below w.heap.size w w'))
   case atStart=>exact ⟨(qG),(0),(ML),(by first|rfl|(simp;done)|(simp [*];done)),H',⟨Nat.le_refl _⟩,⟨by (with_reducible repeat (first|apply Kd.aw|apply Kd.av|apply Kd.aA));exact Aw.out⟩,⟨by repeat (first|(with_reducible first|exact mi.out|apply ax.alloc|apply ax.drewN|apply ax.drew|apply ax.e9)|exact mi.out)⟩,⟨by repeat (first|(with_reducible first|exact HB.out|apply ae|apply ab|apply af|refine ai ?_ (ax.ge mi.out))|exact HB.out)⟩⟩
   case round=>
    clear H'
    try clear p2
    try clear c3
    try clear c3b0
    try clear c3b1
    try clear c4
    try clear c4b0
    try clear c4b1
    try clear c8
    obtain ⟨gI,kM,pJ,rfl,HA,lw,HO_5,mi,HB⟩:=hrel
    have wC:=(Kd.bf HO_5.out).1
    rw [wC] at HO_5
    (try simp only [wC])
    cases gk with
    |zero=>exact absurd HA.out (by simp [cD.l0])
    |succ k1=>
     have H:=HA.out
     clear HA
     simp only [cD.l0] at H
     by_cases uq:kM<(qG.length:Int)
     ·rw [if_pos uq] at H
      have c10b0:decide (kM<(qG.length:Int))=true:=decide_eq_true uq
      (try (have c10b0r:=c10b0;simp only [wC] at c10b0r))
      clear uq
      replace H:=Option.bind_eq_some_iff.mp H
      obtain ⟨⟨GI,GJ⟩,PK,H⟩:=H
      replace H:(if 0≤kM then (if kM<(gI.length:Int) then (cD.l0 k1 (gI.set (kM:Int).toNat (wrap64 (GI - 50))) (qG.length:Int) (wrap64 (kM+1)) yI GJ) else (none)) else (none))=some r:=H
      have A11:=aa.mk PK
      clear PK
      by_cases sZ:0≤kM
      ·rw [if_pos sZ] at H
       have c12b0:decide (0≤kM)=true:=decide_eq_true sZ
       clear sZ
       by_cases oh:kM<(gI.length:Int)
       ·rw [if_pos oh] at H
        have c13b0:decide (kM<(gI.length:Int))=true:=decide_eq_true oh
        (try (have c13b0r:=c13b0;simp only [wC] at c13b0r))
        clear oh
        obtain ⟨MM,Az⟩:∃ y_:List Int,y_=(gI.set (kM:Int).toNat (wrap64 (GI - 50))):=⟨_,rfl⟩
        replace H:(cD.l0 k1 MM (qG.length:Int) (wrap64 (kM+1)) yI GJ)=some r:=by first|(rw [Az];with_reducible exact H)|(have gT:=(Option.bind_some _ _).symm.trans H;rw [Az];with_reducible exact gT)|(have gT:=(Option.bind_some _ _).symm.trans H;with_reducible exact gT)|with_reducible exact H|(rw [Az];exact H)|exact H
        have PL:=aa.mk Az
        clear Az
        have H':=aa.mk H
        clear H
        go_wp2_with (first|((with_reducible refine bY (f:=84) rfl ?_);refine er (some 20) rfl rfl Try.func84 (by kernel_rfl) rfl #[.pointer (some ⟨GH,0,none⟩),.int .i64 101] rfl (by (try simp only [List.map_toArray,List.map_cons,List.map_nil]);first|done|rfl|(simp only [List.length_drop,List.length_take];rfl)) ?_;(with_reducible refine (aJ.calls GH yI pJ 101 GI GJ w _ ?bS ?bT A11.out).mono ?_);(case bS=>repeat (first|(with_reducible first|exact mi.out|apply ax.alloc|apply ax.drewN|apply ax.drew|apply ax.e9)|exact mi.out));(case bT=>repeat (first|(with_reducible first|exact HB.out|apply ae|apply ab|apply af|refine ai ?_ (ax.ge mi.out))|exact HB.out));rintro e yJ ⟨rfl,hi,hb,hk⟩;refine ⟨_,rfl, ?_⟩;have br:=aa.mk (Kd.bN (Kd.kD (ax.apart (show ax w _ GH yI pJ from by repeat (first|(with_reducible first|exact mi.out|apply ax.alloc|apply ax.drewN|apply ax.drew|apply ax.e9)|exact mi.out)) (by (with_reducible repeat (first|apply Kd.aw|apply Kd.av|apply Kd.aA));exact HO_5.out) (by decide)) hk (fun _ h=>h.2)) (fun _ h=>h.1));have bt:=aa.mk (hb);have bA:=aa.mk (hi);clear HO_5;clear HB;clear mi;have HO_5:=br;have HB:=bt;have mi:=bA;clear br bt bA;(try clear hb);(try clear hb2);(try clear hk);(try clear hi);have Yw:0≤(kM:Int):=of_decide_eq_true (by assumption);have Yx:(kM:Int)<((gI.length:Int):Int):=of_decide_eq_true (by assumption);obtain ⟨MN,ac5,PM,PN,Yy,ac6,PO⟩:=Kd.mP HO_5.out (by first|omega|(have hz_:=(Kd.bf HO_5.out).1;omega));(first|cases PM|(injection PM with ea_ en_ ec_;(first|subst ea_|(injection ea_ with ea_;subst ea_));subst ec_;clear en_));have Yz:=aa.mk PN;have ac7:=aa.mk PO;clear PN Yy PO;obtain ⟨YA,YB⟩:=Kd.jq 0 HO_5.out (kM:Int) Yw Yx;replace Yw:=eq_true Yw;replace Yx:=eq_true Yx;obtain ⟨aaT,aaU⟩:=Kd.jq 0 HO_5.out (kM:Int) (of_decide_eq_true (by assumption)) (of_decide_eq_true (by assumption));have MO:=Kd.l6 HO_5.out (kM:Int) (wrap64 (GI - 50)))|((with_reducible refine iM (t:=3) (p:=22) rfl ?_);refine hU (t:=3) (p:=22) (v:= ?vo_w17) (w1:=(yJ.setCell ⟨MN,(kM:Int).toNat,none⟩ (.int .i64 (wrap64 (GI - 50))))) ?hg ?ho ?hn ?hr ?_;(case ho=>rfl);(case hg=>rfl);(case hn=>rfl);(case hr=>first|(go_simp;done)|(go_simp;rfl));intro Ct hw;have hg:yJ.grownBy Ct (some MN):=(by rw [hw];exact MO.2);have hp_:Kd.R (Kd.int .i64) 3 Ct w.heap.size (fun _=>True) (.slice (some ⟨MN,0,none⟩) gI.length PH) MM:=(by rw [hw,PL.out];exact MO.1);clear MO;have br:=aa.mk (hp_);have bt:=aa.mk (ax.grown (show ax w _ GH yI GJ from by repeat (first|(with_reducible first|exact mi.out|apply ax.alloc|apply ax.drewN|apply ax.drew|apply ax.e9)|exact mi.out)) hg (ax.mO mi.out HO_5.out (by decide)));have bA:=aa.mk ((by rw [hw];exact ai (HB.out) Yz.out:Below w.heap.size w Ct));clear HO_5;clear mi;clear HB;have HO_5:=br;have mi:=bt;have HB:=bA;clear br bt bA;clear hg hw hp_))
        (try simp only [← wC])
        go_roundg k1
        case measure=>have:=lw.out;omega
        case rel=>exact ⟨(MM),(wrap64 (kM+1)),(GJ),(by first|rfl|(simp;done)|(simp [*];done)),H',⟨by have:=lw.out;omega⟩,⟨by (try simp only [wC]);(with_reducible repeat (first|apply Kd.aw|apply Kd.av|apply Kd.aA));exact HO_5.out⟩,⟨by repeat (first|(with_reducible first|exact mi.out|apply ax.alloc|apply ax.drewN|apply ax.drew|apply ax.e9)|exact mi.out)⟩,⟨by repeat (first|(with_reducible first|exact HB.out|apply ae|apply ab|apply af|refine ai ?_ (ax.ge mi.out))|exact HB.out)⟩⟩
       rw [if_neg oh] at H
       exact absurd H (by simp)
      rw [if_neg sZ] at H
      exact absurd H (by simp)
     rw [if_neg uq] at H
     have c10b0:decide (kM<(qG.length:Int))=false:=decide_eq_false uq
     (try (have c10b0r:=c10b0;simp only [wC] at c10b0r))
     clear uq
     obtain rfl:=Option.some.inj H
     go_wp2
     go_ret
     exact ⟨_,by first|rfl|(simp [bB,bC]<;>rfl)|(simp [*,bB,bC]<;>rfl),by (with_reducible repeat (first|apply Kd.aw|apply Kd.av|apply Kd.aA));exact HO_5.out,by repeat (first|(with_reducible first|exact HB.out|apply ae|apply ab|apply af|refine ai ?_ (ax.ge mi.out))|exact HB.out)⟩
  rw [if_neg c4] at H
  exact absurd H (by simp)
 rw [if_neg c3] at H
 exact absurd H (by simp)
def cC.l0:Nat→List Int→Int→Int→Int→List (hO)→List (eu)→List Int→Int→Option (List Int)
 |0,_,_,_,_,_,_,_,_=>none
 |k+1,x6,Ly,vD,DD,Jp,Jq,DE,Jr=>if vD<Ly then ((aJ.f DE Jr DD).bind fun Lz=>(if 0≤vD then (if vD<(x6.length:Int) then (cC.l0 k (x6.set (vD:Int).toNat Lz.1) Ly (wrap64 (vD+1)) DD Jp Jq DE Lz.2) else (none)) else (none))) else (some x6)
def cC.f (k:Nat) (aI:Int) (aD:List (hO)) (au:List (eu)) (l1:List Int):Option (List Int):=(ef.f l1).bind fun AA=>(if 0≤(aD.length:Int) then (if ((aD.length:Int):Int).toNat≤35184372088832 then ((some (List.replicate ((aD.length:Int):Int).toNat 0:List Int)).bind fun qc=>(cC.l0 k qc (qc.length:Int) 0 aI aD au AA.1 AA.2)) else (none)) else (none))
set_option maxHeartbeats 8000000 in
set_option maxRecDepth 100000 in
theorem cC.calls (k:Nat) (aI:Int) (bh:Option Addr) (bi:Nat) (aD:List (hO)) (bu:Option Addr) (aW:Nat) (au:List (eu)) (A1:Option Addr) (c1:Nat) (l1:List Int) (r:List Int) (w:World) (eI:Kd.C oS w bh aD.length aD) (eS:aD.length≤bi) (eC:Kd.C nD w bu au.length au) (eT:au.length≤aW) (mh:Kd.C (Kd.int .i64) w A1 l1.length l1) (oA:l1.length≤c1) (h:cC.f k aI aD au l1=some r):
  Calls Try.prog 37 #[.agg #[.int .i64 aI,.slice bh aD.length bi,.slice bu au.length aW],.slice A1 l1.length c1] w fun e w'=>∃ uo:Value,e= .returned (uo)∧Kd.R (Kd.int .i64) 3 w' w.heap.size (fun _=>True) uo r∧Below w.heap.size w w':=by
 have nu:=Try.underlying26
 have fA:=aa.mk eI
 have fB:=aa.mk eS
 clear eI eS
 have ez:=aa.mk eC
 have fC:=aa.mk eT
 clear eC eT
 have lA:=aa.mk mh
 have pK:=aa.mk oA
 clear mh oA
 have HB:=aa.mk (Below.refl w.heap.size w)
 have H:((ef.f l1).bind fun AA=>(if 0≤(aD.length:Int) then (if ((aD.length:Int):Int).toNat≤35184372088832 then ((some (List.replicate ((aD.length:Int):Int).toNat 0:List Int)).bind fun qc=>(cC.l0 k qc (qc.length:Int) 0 aI aD au AA.1 AA.2)) else (none)) else (none)))=some r:=h
 clear h
 replace H:=Option.bind_eq_some_iff.mp H
 obtain ⟨⟨xO,Js⟩,AB,H⟩:=H
 replace H:(if 0≤(aD.length:Int) then (if ((aD.length:Int):Int).toNat≤35184372088832 then ((some (List.replicate ((aD.length:Int):Int).toNat 0:List Int)).bind fun qc=>(cC.l0 k qc (qc.length:Int) 0 aI aD au xO Js)) else (none)) else (none))=some r:=H
 have A3:=aa.mk AB
 clear AB
 by_cases c4:0≤(aD.length:Int)
 ·rw [if_pos c4] at H
  have c4b0:=eq_true c4
  have c4b1:decide (0≤(aD.length:Int))=true:=decide_eq_true c4
  clear c4
  by_cases c5:((aD.length:Int):Int).toNat≤35184372088832
  ·rw [if_pos c5] at H
   have c5b0:=eq_true c5
   have c5b1:decide (((aD.length:Int):Int).toNat≤35184372088832)=true:=decide_eq_true c5
   clear c5
   obtain ⟨qc,AC⟩:∃ y_:List Int,y_=(List.replicate ((aD.length:Int):Int).toNat 0):=⟨_,rfl⟩
   replace H:(cC.l0 k qc (qc.length:Int) 0 aI aD au xO Js)=some r:=by first|(rw [AC];with_reducible exact H)|(have gT:=(Option.bind_some _ _).symm.trans H;rw [AC];with_reducible exact gT)|(have gT:=(Option.bind_some _ _).symm.trans H;with_reducible exact gT)|with_reducible exact H|(rw [AC];exact H)|exact H
   have LA:=aa.mk AC
   clear AC
   have H':=aa.mk H
   clear H
   go_enter Try.func37,Try.ntmps37
   go_wp2_with (first|((with_reducible refine bF (N:=2) rfl ?_);refine bH ?hg (N:=2) ?hd (cs:=#[.int .i64 aI,.slice bh aD.length bi,.slice bu au.length aW]) (t:=26) ?hr ?_;(case hd=>rfl);(case hg=>rfl);(case hr=>first|(go_simp;done)|(go_simp;rfl));intro oB hg w6 hbox hb;have br:=aa.mk (aE (by repeat (first|(with_reducible first|exact HB.out|apply ae|apply ab|apply af)|exact HB.out)) hb);have bt:=aa.mk (hbox);have bA:=aa.mk ((by rw [hg];exact (az (by repeat (first|(with_reducible first|exact HB.out|apply ae|apply ab|apply af)|exact HB.out))):w.heap.size≤oB));have bK:=aa.mk ((by rw [hg];exact (az (by repeat (first|(with_reducible first|exact HB.out|apply ae|apply ab|apply af)|exact HB.out))):w.heap.size≤oB));clear HB;have HB:=br;have jm:=bt;have aaV:=bA;have wD:=bK;clear br bt bA bK;clear hb hbox hg)|((with_reducible refine bY (f:=83) rfl ?_);refine er (some 9) rfl rfl Try.func83 (by kernel_rfl) rfl #[.slice A1 l1.length c1] rfl (by (try simp only [List.map_toArray,List.map_cons,List.map_nil]);first|done|rfl|(simp only [List.length_drop,List.length_take];rfl)) ?_;(with_reducible refine (ef.calls _ _ l1 xO Js w _ ?bS ?bT ?cJ A3.out).mono ?_);(case bS=>repeat (first|(with_reducible first|exact HB.out|apply ae|apply ab|apply af|refine ai ?_ wD.out)|exact HB.out));(case bT=>exact lA.out);(case cJ=>exact pK.out);rintro e w7 ⟨GK,rfl,hi,hb,hb2⟩;refine ⟨_,rfl, ?_⟩;have br:=aa.mk (aH (g:=oB) (o:= .cells #[.int .i64 aI,.slice bh aD.length bi,.slice bu au.length aW] 26 (0,0)) (by (with_reducible repeat (first|refine ak ?_ _|refine aq ?_|refine aj ?_ _));exact jm.out) hb2);have bt:=aa.mk (hb);have bA:=aa.mk (hi);have bK:=aa.mk (ax.yH hi (aH (g:=oB) (o:= .cells #[.int .i64 aI,.slice bh aD.length bi,.slice bu au.length aW] 26 (0,0)) (by (with_reducible repeat (first|refine ak ?_ _|refine aq ?_|refine aj ?_ _));exact jm.out) hb2) (by decide));have cL:=aa.mk (Ne.symm (ax.yH hi (aH (g:=oB) (o:= .cells #[.int .i64 aI,.slice bh aD.length bi,.slice bu au.length aW] 26 (0,0)) (by (with_reducible repeat (first|refine ak ?_ _|refine aq ?_|refine aj ?_ _));exact jm.out) hb2) (by decide)));clear jm;clear HB;have jm:=br;have HB:=bt;have j3:=bA;have ml:=bK;have ur:=cL;clear br bt bA bK cL;(try clear hb);(try clear hb2);(try clear hk);(try clear hi);have ac8:=ur.out;have ac9:=ml.out;have jP:w7.cell? ⟨oB,0,none⟩=some (.int .i64 aI):=(ag jm.out 0).trans rfl;have jQ:w7.cell? ⟨oB,1,none⟩=some (.slice bh aD.length bi):=(ag jm.out 1).trans rfl;have j9:w7.cell? ⟨oB,2,none⟩=some (.slice bu au.length aW):=(ag jm.out 2).trans rfl;have ke:=ah jm.out 0;have jR:=ah jm.out 1;have kg:=ah jm.out 2)|((with_reducible refine bF (N:=13) rfl ?_);refine Kd.p8 (Kd.int .i64) _ 3 rfl (N:=13) rfl 22 _ _ rfl (aD.length:Int) rfl rfl Try.underlying22 (.int .i64 0) 8 info3 rfl (by decide) (by omega) 0 (ok:=fun _=>True) (okp:=fun _=>True) rfl (fun _ hk=>hk) trivial (of_decide_eq_true (by assumption)) (Nat.le_trans (Nat.mul_le_mul_right _ (of_decide_eq_true (by assumption):(aD.length:Int).toNat≤35184372088832)) (by omega)) (Below.refl _ _) (Nat.le_refl _) ?_;intro ada oC wE hb hg_ hnew_;clear hg_ hnew_;(first|rw [← LA.out] at wE|(simp only [Int.reduceToNat] at wE;rw [← LA.out] at wE));have br:=aa.mk (Kd.eH wE (az (by repeat (first|(with_reducible first|exact HB.out|apply ae|apply ab|apply af|refine ai ?_ (ax.ge j3.out)|refine ai ?_ wD.out)|exact HB.out))));have bt:=aa.mk (aH (g:=oB) (o:= .cells #[.int .i64 aI,.slice bh aD.length bi,.slice bu au.length aW] 26 (0,0)) (by (with_reducible repeat (first|refine ak ?_ _|refine aq ?_|refine aj ?_ _));exact jm.out) hb);have bA:=aa.mk (ax.below (by repeat (first|(with_reducible first|exact j3.out|apply ax.alloc|apply ax.drewN|apply ax.drew|apply ax.e9|refine ax.far ?_ ml.out _)|exact j3.out)) hb);have bK:=aa.mk (aE (by repeat (first|(with_reducible first|exact HB.out|apply ae|apply ab|apply af|refine ai ?_ (ax.ge j3.out)|refine ai ?_ wD.out)|exact HB.out)) hb);clear jm;clear j3;clear HB;have LB:=br;have jm:=bt;have j3:=bA;have HB:=bK;clear br bt bA bK;clear hb wE;obtain ⟨wF,ut,MP⟩:=Kd.cA LB.out;subst MP))
   go_loopg [16] k (fun kq PP w'=>∃ (iq:List Int) (cu:Int) (pL:Int),PP= .int .i64 cu∧aa (cC.l0 kq iq (qc.length:Int) cu aI aD au xO pL=some r)∧aa (kq≤k)∧aa (Kd.R (Kd.int .i64) 3 w' w.heap.size (fun _=>True) (.slice wF qc.length ut) iq)∧aa (w'.heap[oB]? =some (.cells #[.int .i64 aI,(.slice bh aD.length bi),(.slice bu au.length aW)] 26 (0,0)))∧aa (ax w w' GK xO pL)∧aa (Below w.heap.size w w'))
   case atStart=>exact ⟨(qc),(0),(Js),(by first|rfl|(simp;done)|(simp [*];done)),H',⟨Nat.le_refl _⟩,⟨by (with_reducible repeat (first|apply Kd.aw|apply Kd.av|apply Kd.aA));exact LB.out⟩,⟨by (with_reducible repeat (first|refine ak ?_ _|refine aq ?_|refine aj ?_ _));exact jm.out⟩,⟨by repeat (first|(with_reducible first|exact j3.out|apply ax.alloc|apply ax.drewN|apply ax.drew|apply ax.e9|refine ax.far ?_ ml.out _)|exact j3.out)⟩,⟨by repeat (first|(with_reducible first|exact HB.out|apply ae|apply ab|apply af|refine ai ?_ (ax.ge j3.out)|refine ai ?_ wD.out)|exact HB.out)⟩⟩
   case round=>
    clear H'
    try clear c1
    try clear p2
    try clear c3
    try clear c4
    try clear c4b0
    try clear c4b1
    try clear c5
    try clear c5b0
    try clear c5b1
    try clear c8
    try clear jP
    try clear jQ
    try clear j9
    try clear ke
    try clear jR
    try clear kg
    obtain ⟨iq,cu,pL,rfl,HA,lw,HO_6,jm,j3,HB⟩:=hrel
    have tk:=(Kd.bf HO_6.out).1
    rw [tk] at HO_6
    (try simp only [tk])
    (try simp only [tk] at jm)
    cases gk with
    |zero=>exact absurd HA.out (by simp [cC.l0])
    |succ k1=>
     have H:=HA.out
     clear HA
     simp only [cC.l0] at H
     by_cases oh:cu<(qc.length:Int)
     ·rw [if_pos oh] at H
      have c13b0:decide (cu<(qc.length:Int))=true:=decide_eq_true oh
      (try (have c13b0r:=c13b0;simp only [tk] at c13b0r))
      clear oh
      replace H:=Option.bind_eq_some_iff.mp H
      obtain ⟨⟨GL,GM⟩,AE,H⟩:=H
      replace H:(if 0≤cu then (if cu<(iq.length:Int) then (cC.l0 k1 (iq.set (cu:Int).toNat GL) (qc.length:Int) (wrap64 (cu+1)) aI aD au xO GM) else (none)) else (none))=some r:=H
      have PQ:=aa.mk AE
      clear AE
      by_cases uu:0≤cu
      ·rw [if_pos uu] at H
       have c15b0:decide (0≤cu)=true:=decide_eq_true uu
       clear uu
       by_cases sI:cu<(iq.length:Int)
       ·rw [if_pos sI] at H
        have c16b0:decide (cu<(iq.length:Int))=true:=decide_eq_true sI
        (try (have c16b0r:=c16b0;simp only [tk] at c16b0r))
        clear sI
        obtain ⟨MQ,AF⟩:∃ y_:List Int,y_=(iq.set (cu:Int).toNat GL):=⟨_,rfl⟩
        replace H:(cC.l0 k1 MQ (qc.length:Int) (wrap64 (cu+1)) aI aD au xO GM)=some r:=by first|(rw [AF];with_reducible exact H)|(have gT:=(Option.bind_some _ _).symm.trans H;rw [AF];with_reducible exact gT)|(have gT:=(Option.bind_some _ _).symm.trans H;with_reducible exact gT)|with_reducible exact H|(rw [AF];exact H)|exact H
        have PR:=aa.mk AF
        clear AF
        have H':=aa.mk H
        clear H
        have aaW:=ur.out
        have aaX:=ml.out
        have TJ:wr.cell? ⟨oB,0,none⟩=some (.int .i64 aI):=(ag jm.out 0).trans rfl
        have TK:wr.cell? ⟨oB,1,none⟩=some (.slice bh aD.length bi):=(ag jm.out 1).trans rfl
        have TL:wr.cell? ⟨oB,2,none⟩=some (.slice bu au.length aW):=(ag jm.out 2).trans rfl
        have TM:=ah jm.out 0
        have TN:=ah jm.out 1
        have TP:=ah jm.out 2
        go_wp2_with (first|((with_reducible refine bY (f:=84) rfl ?_);refine er (some 24) rfl rfl Try.func84 (by kernel_rfl) rfl #[.pointer (some ⟨GK,0,none⟩),.int .i64 aI] rfl (by (try simp only [List.map_toArray,List.map_cons,List.map_nil]);first|done|rfl|(simp only [List.length_drop,List.length_take];rfl)) ?_;(with_reducible refine (aJ.calls GK xO pL aI GL GM w _ ?bS ?bT PQ.out).mono ?_);(case bS=>repeat (first|(with_reducible first|exact j3.out|apply ax.alloc|apply ax.drewN|apply ax.drew|apply ax.e9|refine ax.far ?_ ml.out _)|exact j3.out));(case bT=>repeat (first|(with_reducible first|exact HB.out|apply ae|apply ab|apply af|refine ai ?_ (ax.ge j3.out)|refine ai ?_ wD.out)|exact HB.out));rintro e AG ⟨rfl,hi,hb,hk⟩;refine ⟨_,rfl, ?_⟩;have br:=aa.mk (Kd.bN (Kd.kD (ax.apart (show ax w _ GK xO pL from by repeat (first|(with_reducible first|exact j3.out|apply ax.alloc|apply ax.drewN|apply ax.drew|apply ax.e9|refine ax.far ?_ ml.out _)|exact j3.out)) (by (with_reducible repeat (first|apply Kd.aw|apply Kd.av|apply Kd.aA));exact HO_6.out) (by decide)) hk (fun _ h=>h.2)) (fun _ h=>h.1));have bt:=aa.mk (dP.ue hk (g':=oB) (o:= .cells #[.int .i64 aI,.slice bh aD.length bi,.slice bu au.length aW] 26 (0,0)) (by (with_reducible repeat (first|refine ak ?_ _|refine aq ?_|refine aj ?_ _));exact jm.out) ur.out (by simp));have bA:=aa.mk (hb);have bK:=aa.mk (hi);clear HO_6;clear jm;clear HB;clear j3;have HO_6:=br;have jm:=bt;have HB:=bA;have j3:=bK;clear br bt bA bK;(try clear hb);(try clear hb2);(try clear hk);(try clear hi);have YC:0≤(cu:Int):=of_decide_eq_true (by assumption);have YD:(cu:Int)<((iq.length:Int):Int):=of_decide_eq_true (by assumption);obtain ⟨MR,YE,Jt,PS,YF,adb,PT⟩:=Kd.mP HO_6.out (by first|omega|(have hz_:=(Kd.bf HO_6.out).1;omega));(first|cases Jt|(injection Jt with ea_ en_ ec_;(first|subst ea_|(injection ea_ with ea_;subst ea_));subst ec_;clear en_));have YG:=aa.mk PS;have adc:=aa.mk PT;clear PS YF PT;obtain ⟨YH,YI⟩:=Kd.jq 0 HO_6.out (cu:Int) YC YD;replace YC:=eq_true YC;replace YD:=eq_true YD;obtain ⟨aaY,aaZ⟩:=Kd.jq 0 HO_6.out (cu:Int) (of_decide_eq_true (by assumption)) (of_decide_eq_true (by assumption));have MS:=Kd.l6 HO_6.out (cu:Int) GL)|((with_reducible refine iM (t:=3) (p:=25) rfl ?_);refine hU (t:=3) (p:=25) (v:= ?vo_w22) (w1:=(AG.setCell ⟨MR,(cu:Int).toNat,none⟩ (.int .i64 GL))) ?hg ?ho ?hn ?hr ?_;(case ho=>rfl);(case hg=>rfl);(case hn=>rfl);(case hr=>first|(go_simp;done)|(go_simp;rfl));intro Ju hw;have hg:AG.grownBy Ju (some MR):=(by rw [hw];exact MS.2);have hp_:Kd.R (Kd.int .i64) 3 Ju w.heap.size (fun _=>True) (.slice (some ⟨MR,0,none⟩) iq.length ut) MQ:=(by rw [hw,PR.out];exact MS.1);clear MS;have br:=aa.mk (hp_);have bt:=aa.mk (dq (g:=oB) (o:= .cells #[.int .i64 aI,.slice bh aD.length bi,.slice bu au.length aW] 26 (0,0)) (by (with_reducible repeat (first|refine ak ?_ _|refine aq ?_|refine aj ?_ _));exact jm.out) hg (Kd.mz HO_6.out jm.out (by decide)));have bA:=aa.mk (ax.grown (show ax w _ GK xO GM from by repeat (first|(with_reducible first|exact j3.out|apply ax.alloc|apply ax.drewN|apply ax.drew|apply ax.e9|refine ax.far ?_ ml.out _)|exact j3.out)) hg (ax.mO j3.out HO_6.out (by decide)));have bK:=aa.mk ((by rw [hw];exact ai (HB.out) YG.out:Below w.heap.size w Ju));clear HO_6;clear jm;clear j3;clear HB;have HO_6:=br;have jm:=bt;have j3:=bA;have HB:=bK;clear br bt bA bK;clear hg hw hp_))
        (try simp only [← tk])
        go_roundg k1
        case measure=>have:=lw.out;omega
        case rel=>exact ⟨(MQ),(wrap64 (cu+1)),(GM),(by first|rfl|(simp;done)|(simp [*];done)),H',⟨by have:=lw.out;omega⟩,⟨by (try simp only [tk]);(with_reducible repeat (first|apply Kd.aw|apply Kd.av|apply Kd.aA));exact HO_6.out⟩,⟨by (try simp only [tk]);(with_reducible repeat (first|refine ak ?_ _|refine aq ?_|refine aj ?_ _));exact jm.out⟩,⟨by repeat (first|(with_reducible first|exact j3.out|apply ax.alloc|apply ax.drewN|apply ax.drew|apply ax.e9|refine ax.far ?_ ml.out _)|exact j3.out)⟩,⟨by repeat (first|(with_reducible first|exact HB.out|apply ae|apply ab|apply af|refine ai ?_ (ax.ge j3.out)|refine ai ?_ wD.out)|exact HB.out)⟩⟩
       rw [if_neg sI] at H
       exact absurd H (by simp)
      rw [if_neg uu] at H
      exact absurd H (by simp)
     rw [if_neg oh] at H
     have c13b0:decide (cu<(qc.length:Int))=false:=decide_eq_false oh
     (try (have c13b0r:=c13b0;simp only [tk] at c13b0r))
     clear oh
     obtain rfl:=Option.some.inj H
     go_wp2
     go_ret
     exact ⟨_,by first|rfl|(simp [bB,bC]<;>rfl)|(simp [*,bB,bC]<;>rfl),by (with_reducible repeat (first|apply Kd.aw|apply Kd.av|apply Kd.aA));exact HO_6.out,by repeat (first|(with_reducible first|exact HB.out|apply ae|apply ab|apply af|refine ai ?_ (ax.ge j3.out)|refine ai ?_ wD.out)|exact HB.out)⟩
  rw [if_neg c5] at H
  exact absurd H (by simp)
 rw [if_neg c4] at H
 exact absurd H (by simp)
theorem dg {α:Type _} (l:List α) (i:Nat) (a:α):l.toArray.setIfInBounds i a=(l.set i a).toArray:=by simp
theorem dh {α:Type _} (x:α) (l:List α) (a:α):(x :: l).set 0 a=a :: l:=rfl
theorem rF {w:World} {o:Obj} {a:Addr} {v:Value} (h:w.cell? a=some v):(w.alloc o).cell? a=some v:=(World.cell?_alloc_lt _ _ _ (World.block_lt_of_cell? _ _ h)).trans h
theorem di {α:Type _} (x:α) (l:List α) (n:Nat) (a:α):(x :: l).set (n+1) a=x :: l.set n a:=rfl
end Go.Proofs.Ytbkjplomoegbdaa.PB
