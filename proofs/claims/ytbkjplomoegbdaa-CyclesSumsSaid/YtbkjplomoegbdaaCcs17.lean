/- Parts of the proof of CyclesSums, gathered by a program of this claim out of texts that it or the kit's print wrote: lemmas alone, no condition of their own. -/
import Derived.Test.YtbkjplomoegbdaaCcs16
import Derived.Test.YtbkjplomoegbdaaCcs9
namespace Go.Proofs.Ytbkjplomoegbdaa.PB
open Go.RowKit Go.Proofs.YtbkjplomoegbdaaW.bO Go.Proofs.YtbkjplomoegbdaaW.dA Go.Proofs.YtbkjplomoegbdaaW.dG
set_option linter.unusedVariables false
set_option linter.unusedSimpArgs false
set_option maxHeartbeats 2000000 in
set_option maxRecDepth 100000 in
theorem BO (kt kf:Nat) (eF:Int) (per:Int) (A1:Option Addr) (c1:Nat) (evs:List hO) (A2:Option Addr) (c2:Nat) (acts:List eu) (a:Int) (T:List Int) (w:World) (mh:Kd.C oS w A1 evs.length evs) (oA:evs.length≤c1) (xS:Kd.C nD w A2 acts.length acts) (uQ:acts.length≤c2)
  (ht:aM.f kt per evs acts=some T) (hf:aV.f kf per evs acts T=some ([],eF)):
  Calls Try.prog 38 #[.agg #[.int .i64 per,.slice A1 evs.length c1,.slice A2 acts.length c2],.int .i64 a] w fun e w'=>e= .returned (.tuple #[.agg #[.slice none 0 0,.slice none 0 0],.bool false])∧Below w.heap.size w w':=by
 have nu:=Try.underlying26
 have Bu:=Try.underlying41
 have lA:=aa.mk mh
 have qn:=aa.mk xS
 have pK:=aa.mk oA
 have lm:=aa.mk uQ
 have HT:=aa.mk ht
 have HF:=aa.mk hf
 have m1:=Kd.jZ mh
 have m2:=Kd.jZ xS
 clear mh xS oA uQ ht hf
 have hb0:Below w.heap.size w ((w.alloc (.cells #[.int .i64 per,.slice A1 evs.length c1,.slice A2 acts.length c2] 26)).alloc (.cells #[.slice none 0 0,.slice none 0 0] 41)):=ae (ae (Below.refl _ _) _) _
 have ym:=aj (gC w (.cells #[.int .i64 per,.slice A1 evs.length c1,.slice A2 acts.length c2] 26)) (.cells #[.slice none 0 0,.slice none 0 0] 41)
 have Ie:((w.alloc (.cells #[.int .i64 per,.slice A1 evs.length c1,.slice A2 acts.length c2] 26)).alloc (.cells #[.slice none 0 0,.slice none 0 0] 41)).heap[w.heap.size+1]? =some (.cells #[.slice none 0 0,.slice none 0 0] 41 (0,0)):=by
  have h:=gC (w.alloc (.cells #[.int .i64 per,.slice A1 evs.length c1,.slice A2 acts.length c2] 26)) (.cells #[.slice none 0 0,.slice none 0 0] 41)
  rwa [show (w.alloc (.cells #[.int .i64 per,.slice A1 evs.length c1,.slice A2 acts.length c2] 26)).heap.size=w.heap.size+1 by simp] at h
 go_enter Try.func38,Try.ntmps38
 go_wp2_with fail
 generalize (w.alloc (.cells #[.int .i64 per,.slice A1 evs.length c1,.slice A2 acts.length c2] 26)).alloc (.cells #[.slice none 0 0,.slice none 0 0] 41)=W0 at hb0 ym Ie ⊢
 have tC:=aa.mk (ab hb0 1)
 have FM:=aa.mk ym
 have ZQ:=aa.mk Ie
 have q0:W0.cell? ⟨w.heap.size,0,none⟩=some (.int .i64 per):=(ag ym 0).trans rfl
 have q1:W0.cell? ⟨w.heap.size,1,none⟩=some (.slice A1 evs.length c1):=(ag ym 1).trans rfl
 have q2:W0.cell? ⟨w.heap.size,2,none⟩=some (.slice A2 acts.length c2):=(ag ym 2).trans rfl
 clear hb0 ym Ie
 go_region_held3 (fun W=>W.cell? ⟨w.heap.size,0,none⟩=some (.int .i64 per)∧W.cell? ⟨w.heap.size,1,none⟩=some (.slice A1 evs.length c1)∧W.cell? ⟨w.heap.size,2,none⟩=some (.slice A2 acts.length c2))
  (first|exact ⟨q0,q1,q2⟩|exact k0|go_keep)
  ((first|(go_at_call 32;(with_reducible refine (aM.calls kt per A1 c1 evs A2 c2 acts T _ ?a1 pK.out ?a2 lm.out HT.out).mono ?_);(case a1=>exact Kd.aN lA.out tC.out);(case a2=>exact Kd.aN qn.out tC.out);rintro e w1 ⟨v1,rfl,qh,hb1⟩;obtain ⟨At,ct,ev⟩:=Kd.cA qh;subst ev;have Rf:=aa.mk qh;have ux:=aa.mk (aE tC.out hb1);have yX:=aa.mk (aH (ak FM.out 1) hb1);have WJ:=aa.mk (aH (ak ZQ.out 1) hb1);have k0:w1.cell? ⟨w.heap.size,0,none⟩=some (.int .i64 per)∧w1.cell? ⟨w.heap.size,1,none⟩=some (.slice A1 evs.length c1)∧w1.cell? ⟨w.heap.size,2,none⟩=some (.slice A2 acts.length c2):=⟨(ag yX.out 0).trans rfl,(ag yX.out 1).trans rfl,(ag yX.out 2).trans rfl⟩;clear qh hb1)|(go_at_call 45;(with_reducible refine (aV.calls kf per A1 c1 evs A2 c2 acts At ct T [] eF _ ?a1 pK.out ?a2 lm.out ?a3 ?a4 HF.out).mono ?_);(case a1=>exact Kd.aN lA.out ux.out);(case a2=>exact Kd.aN qn.out ux.out);(case a3=>exact (Kd.bf Rf.out).2.2);(case a4=>exact (Kd.bf Rf.out).2.1);rintro e w2 ⟨v2,rfl,N0,hb2⟩;obtain ⟨Ac,cc,ev⟩:=Kd.Dv N0;subst ev;have Pg:=aa.mk N0;have O6:=aa.mk (aE ux.out hb2);have N1:=aa.mk (aH yX.out hb2);have Ig:=aa.mk (aH WJ.out hb2);clear k0;have k0:w2.cell? ⟨w.heap.size,0,none⟩=some (.int .i64 per)∧w2.cell? ⟨w.heap.size,1,none⟩=some (.slice A1 evs.length c1)∧w2.cell? ⟨w.heap.size,2,none⟩=some (.slice A2 acts.length c2):=⟨(ag N1.out 0).trans rfl,(ag N1.out 1).trans rfl,(ag N1.out 2).trans rfl⟩;clear N0 hb2)))
 clear k0 q0 q1 q2
 have d0:w2.cell? ⟨w.heap.size+1,0,none⟩=some (.slice none 0 0):=(ag Ig.out 0).trans rfl
 have d1:w2.cell? ⟨w.heap.size+1,1,none⟩=some (.slice none 0 0):=(ag Ig.out 1).trans rfl
 have f0:=ah Ig.out 0
 have f1:=ah Ig.out 1
 go_wp2
 have N2:=df (df Ig.out 0 (.slice none 0 0) rfl) 1 (.slice none 0 0) rfl
 have FX:=aa.mk (ai (j:=1) (v:= .slice none 0 0) (ai (j:=0) (v:= .slice none 0 0) O6.out (Nat.le_succ w.heap.size)) (Nat.le_succ w.heap.size))
 generalize (w2.setCell ⟨w.heap.size+1,0,none⟩ (.slice none 0 0)).setCell ⟨w.heap.size+1,1,none⟩ (.slice none 0 0)=W3 at N2 FX ⊢
 have e0:W3.cell? ⟨w.heap.size+1,0,none⟩=some (.slice none 0 0):=(ag N2 0).trans rfl
 have e1:W3.cell? ⟨w.heap.size+1,1,none⟩=some (.slice none 0 0):=(ag N2 1).trans rfl
 clear d0 d1 f0 f1
 exact bodyPost_ret (v:= .tuple #[.agg #[.slice none 0 0,.slice none 0 0],.bool false]) (by simp [results,Try.results38,go_sem,e0,e1]) rfl ⟨rfl,FX.out⟩
set_option maxHeartbeats 2000000 in
set_option maxRecDepth 100000 in
theorem BP (kt kf:Nat) (eF:Int) (per:Int) (A1:Option Addr) (c1:Nat) (evs:List hO) (A2:Option Addr) (c2:Nat) (acts:List eu) (a:Int) (T:List Int) (r:List oW) (x:Int) (w:World) (mh:Kd.C oS w A1 evs.length evs) (oA:evs.length≤c1) (xS:Kd.C nD w A2 acts.length acts) (uQ:acts.length≤c2)
  (ht:aM.f kt per evs acts=some T) (hf:aV.f kf per evs acts T=some (r,eF)) (hrl:0<r.length) (hr9:r.length≤512) (hx:bw.f a (r.length:Int)=some x) (hx0:0≤x) (hx1:x<(r.length:Int)):
  Calls Try.prog 38 #[.agg #[.int .i64 per,.slice A1 evs.length c1,.slice A2 acts.length c2],.int .i64 a] w fun e w'=>∃ B0 d0 B1 d1,e= .returned (.tuple #[.agg #[.slice B0 (ja r x).f0.length d0,.slice B1 (ja r x).f1.length d1],.bool true])∧((ja r x).f0.length≤d0∧Kd.F (Kd.int .i64) w' (fun k_=>w.heap.size≤k_) B0 (ja r x).f0.length (ja r x).f0)∧((ja r x).f1.length≤d1∧Kd.F (Kd.int .i64) w' (fun k_=>w.heap.size≤k_) B1 (ja r x).f1.length (ja r x).f1)∧Below w.heap.size w w':=by
 have nu:=Try.underlying26
 have Bu:=Try.underlying41
 have lA:=aa.mk mh
 have qn:=aa.mk xS
 have pK:=aa.mk oA
 have lm:=aa.mk uQ
 have HT:=aa.mk ht
 have HF:=aa.mk hf
 have HX:=aa.mk hx
 clear hx
 have m1:=Kd.jZ mh
 have m2:=Kd.jZ xS
 clear mh xS oA uQ ht hf
 have hb0:Below w.heap.size w ((w.alloc (.cells #[.int .i64 per,.slice A1 evs.length c1,.slice A2 acts.length c2] 26)).alloc (.cells #[.slice none 0 0,.slice none 0 0] 41)):=ae (ae (Below.refl _ _) _) _
 have ym:=aj (gC w (.cells #[.int .i64 per,.slice A1 evs.length c1,.slice A2 acts.length c2] 26)) (.cells #[.slice none 0 0,.slice none 0 0] 41)
 have Ie:((w.alloc (.cells #[.int .i64 per,.slice A1 evs.length c1,.slice A2 acts.length c2] 26)).alloc (.cells #[.slice none 0 0,.slice none 0 0] 41)).heap[w.heap.size+1]? =some (.cells #[.slice none 0 0,.slice none 0 0] 41 (0,0)):=by
  have h:=gC (w.alloc (.cells #[.int .i64 per,.slice A1 evs.length c1,.slice A2 acts.length c2] 26)) (.cells #[.slice none 0 0,.slice none 0 0] 41)
  rwa [show (w.alloc (.cells #[.int .i64 per,.slice A1 evs.length c1,.slice A2 acts.length c2] 26)).heap.size=w.heap.size+1 by simp] at h
 go_enter Try.func38,Try.ntmps38
 go_wp2_with fail
 generalize (w.alloc (.cells #[.int .i64 per,.slice A1 evs.length c1,.slice A2 acts.length c2] 26)).alloc (.cells #[.slice none 0 0,.slice none 0 0] 41)=W0 at hb0 ym Ie ⊢
 have tC:=aa.mk (ab hb0 1)
 have FM:=aa.mk ym
 have ZQ:=aa.mk Ie
 have q0:W0.cell? ⟨w.heap.size,0,none⟩=some (.int .i64 per):=(ag ym 0).trans rfl
 have q1:W0.cell? ⟨w.heap.size,1,none⟩=some (.slice A1 evs.length c1):=(ag ym 1).trans rfl
 have q2:W0.cell? ⟨w.heap.size,2,none⟩=some (.slice A2 acts.length c2):=(ag ym 2).trans rfl
 clear hb0 ym Ie
 go_region_held3 (fun W=>W.cell? ⟨w.heap.size,0,none⟩=some (.int .i64 per)∧W.cell? ⟨w.heap.size,1,none⟩=some (.slice A1 evs.length c1)∧W.cell? ⟨w.heap.size,2,none⟩=some (.slice A2 acts.length c2))
  (first|exact ⟨q0,q1,q2⟩|exact k0|go_keep)
  ((first|(go_at_call 32;(with_reducible refine (aM.calls kt per A1 c1 evs A2 c2 acts T _ ?a1 pK.out ?a2 lm.out HT.out).mono ?_);(case a1=>exact Kd.aN lA.out tC.out);(case a2=>exact Kd.aN qn.out tC.out);rintro e w1 ⟨v1,rfl,qh,hb1⟩;obtain ⟨At,ct,ev⟩:=Kd.cA qh;subst ev;have Rf:=aa.mk qh;have ux:=aa.mk (aE tC.out hb1);have yX:=aa.mk (aH (ak FM.out 1) hb1);have WJ:=aa.mk (aH (ak ZQ.out 1) hb1);have k0:w1.cell? ⟨w.heap.size,0,none⟩=some (.int .i64 per)∧w1.cell? ⟨w.heap.size,1,none⟩=some (.slice A1 evs.length c1)∧w1.cell? ⟨w.heap.size,2,none⟩=some (.slice A2 acts.length c2):=⟨(ag yX.out 0).trans rfl,(ag yX.out 1).trans rfl,(ag yX.out 2).trans rfl⟩;clear qh hb1)|(go_at_call 45;(with_reducible refine (aV.calls kf per A1 c1 evs A2 c2 acts At ct T r eF _ ?a1 pK.out ?a2 lm.out ?a3 ?a4 HF.out).mono ?_);(case a1=>exact Kd.aN lA.out ux.out);(case a2=>exact Kd.aN qn.out ux.out);(case a3=>exact (Kd.bf Rf.out).2.2);(case a4=>exact (Kd.bf Rf.out).2.1);rintro e w2 ⟨v2,rfl,N0,hb2⟩;obtain ⟨Ac,cc,ev⟩:=Kd.Dv N0;subst ev;have Pg:=aa.mk N0;have O6:=aa.mk (aE ux.out hb2);have N1:=aa.mk (aH yX.out hb2);have Ig:=aa.mk (aH WJ.out hb2);clear k0;have k0:w2.cell? ⟨w.heap.size,0,none⟩=some (.int .i64 per)∧w2.cell? ⟨w.heap.size,1,none⟩=some (.slice A1 evs.length c1)∧w2.cell? ⟨w.heap.size,2,none⟩=some (.slice A2 acts.length c2):=⟨(ag N1.out 0).trans rfl,(ag N1.out 1).trans rfl,(ag N1.out 2).trans rfl⟩;clear N0 hb2)))
 clear k0 q0 q1 q2
 have d0:w2.cell? ⟨w.heap.size+1,0,none⟩=some (.slice none 0 0):=(ag Ig.out 0).trans rfl
 have d1:w2.cell? ⟨w.heap.size+1,1,none⟩=some (.slice none 0 0):=(ag Ig.out 1).trans rfl
 have f0:=ah Ig.out 0
 have f1:=ah Ig.out 1
 obtain ⟨hq,hcc,hCc⟩:=Kd.Gr Pg.out
 clear hq
 obtain ⟨ad,B0,b0,B1,b1,e1,g0,g1,l0,_,l1,_⟩:=MH hCc x hx0 hx1
 cases e1
 have ZR:=cn WJ.out
 obtain ⟨ce,hcel,hM,hcells⟩:=Kd.Pt Pg.out Yj x hx0 hx1
 obtain ⟨u0,u1,rfl,R0,R1⟩:=Ft (show Ji.M w2 _ _ (ja r x) ce from hM)
 have a0:=(hcells 0 u0 rfl).symm.trans g0
 have hs1:ad.add (x.toNat*2+1)=⟨(ad.add (x.toNat*2)).block,(ad.add (x.toNat*2)).off+1,none⟩:=by
  obtain ⟨g,hg⟩:=Kd.Gq (Kd.Lt Pg.out)
  rw [hg]
  simp only [add_plain]
 have a1:=(hcells 1 u1 rfl).symm.trans ((congrArg w2.cell? hs1).trans g1)
 injection a0 with a0
 injection a1 with a1
 subst a0 a1
 have xJ:=aa.mk (Kd.bN (ok':=fun k=>k≠w.heap.size+1∧w.heap.size≤k) (Kd.gS R0) (fun k hk=>⟨by have:=hk.2.1;omega,by have:=hk.2.1;omega⟩))
 have HR1':=aa.mk (Kd.bN (ok':=fun k=>k≠w.heap.size+1∧w.heap.size≤k) (Kd.gS R1) (fun k hk=>⟨by have:=hk.2.1;omega,by have:=hk.2.1;omega⟩))
 clear R0 R1 hM hcells hcel hs1
 have hadb:ad.block≠w.heap.size+1:=fun e=>by have:=Kd.iZ (Kd.Lt Pg.out) ad.block rfl;omega
 have HK:=aa.mk (Kd.CB (S:=fun k=>k=w.heap.size+1) (Kd.gS (Kd.Lt Pg.out)) (fun k hk e=>by have:=hk.2.1;omega))
 have HAD:=aa.mk hadb
 have HG:=aa.mk (And.intro g0 g1)
 have HL:=aa.mk (And.intro l0 l1)
 clear hadb ZR
 generalize hc:ja r x=c at*
 have HC:=aa.mk hc
 clear l0 l1 hCc hcc hc
 have hr0:¬r.length=0:=by omega
 go_wp2_with (go_at_call 34;(with_reducible refine (bw.calls a (r.length:Int) x _ HX.out).mono ?_);rintro e w' ⟨rfl,⟨nd,rfl⟩⟩)
 have N2:=df (df (ak Ig.out nd) 0 (.slice B0 c.f0.length b0) rfl) 1 (.slice B1 c.f1.length b1) rfl
 have FX:=aa.mk (ai (j:=1) (v:= .slice B1 c.f1.length b1) (ai (j:=0) (v:= .slice B0 c.f0.length b0) (ab O6.out nd) (Nat.le_succ w.heap.size)) (Nat.le_succ w.heap.size))
 have EK:=HK.out _ ((((Kept.refl w2 (fun k=>k=w.heap.size+1)).drewN nd).setCell (p:=⟨w.heap.size+1,0,none⟩) (.inl rfl) (.slice B0 c.f0.length b0)).setCell (p:=⟨w.heap.size+1,1,none⟩) (.inl rfl) (.slice B1 c.f1.length b1))
 have far:∀ p:Addr,p.block=ad.block→(((w2.drewN nd).setCell ⟨w.heap.size+1,0,none⟩ (.slice B0 c.f0.length b0)).setCell ⟨w.heap.size+1,1,none⟩ (.slice B1 c.f1.length b1)).cell? p=w2.cell? p:=fun p hp=>by
  have h1:p.block≠w.heap.size+1:=by rw [hp];exact HAD.out
  rw [cell_far (p:=⟨w.heap.size+1,1,none⟩) h1,cell_far (p:=⟨w.heap.size+1,0,none⟩) h1]
  rfl
 have h0:=(far _ (by rw [kB])).trans HG.out.1
 have h1:=(far ⟨(ad.add (x.toNat*2)).block,(ad.add (x.toNat*2)).off+1,none⟩ (by show (ad.add (x.toNat*2)).block=_;rw [kB])).trans HG.out.2
 clear far g0 g1
 have Hm:=aa.mk (Kd.um (Kd.TH (Kd.cg (p:=⟨w.heap.size+1,1,none⟩) (Kd.cg (p:=⟨w.heap.size+1,0,none⟩) (Kd.av xJ.out nd) (fun _ hk=>hk.1) (.slice B0 c.f0.length b0)) (fun _ hk=>hk.1) (.slice B1 c.f1.length b1))) (fun _ hk=>hk.2))
 have Pc:=aa.mk (Kd.um (Kd.TH (Kd.cg (p:=⟨w.heap.size+1,1,none⟩) (Kd.cg (p:=⟨w.heap.size+1,0,none⟩) (Kd.av HR1'.out nd) (fun _ hk=>hk.1) (.slice B0 c.f0.length b0)) (fun _ hk=>hk.1) (.slice B1 c.f1.length b1))) (fun _ hk=>hk.2))
 generalize ((w2.drewN nd).setCell ⟨w.heap.size+1,0,none⟩ (.slice B0 c.f0.length b0)).setCell ⟨w.heap.size+1,1,none⟩ (.slice B1 c.f1.length b1)=W3 at N2 FX Hm Pc ⊢
 have e0:W3.cell? ⟨w.heap.size+1,0,none⟩=some (.slice B0 c.f0.length b0):=(ag N2 0).trans rfl
 have e1:W3.cell? ⟨w.heap.size+1,1,none⟩=some (.slice B1 c.f1.length b1):=(ag N2 1).trans rfl
 clear d0 d1 f0 f1
 refine bodyPost_ret (v:= .tuple #[.agg #[.slice B0 c.f0.length b0,.slice B1 c.f1.length b1],.bool true]) (by simp [results,Try.results38,go_sem,e0,e1]) rfl ⟨B0,b0,B1,b1,by rw [HC.out], ?_, ?_,FX.out⟩
 ·rw [HC.out];exact ⟨HL.out.1,Hm.out⟩
 rw [HC.out];exact ⟨HL.out.2,Pc.out⟩
def ew.f (k:Nat) (aI:Int) (aD:List hO) (au:List eu) (a1:Int):Option (List Int × List Int × Bool):=
 (aM.f k aI aD au).bind fun T=>(aV.f k aI aD au T).bind fun p=>
  if p.1=[] then some ([],[],false) else if p.1.length≤512 then (bw.f a1 (p.1.length:Int)).bind fun x=>if 0≤x then (if x<(p.1.length:Int) then some ((ja p.1 x).f0,(ja p.1 x).f1,true) else none) else none else none
theorem ew.calls (k:Nat) (aI:Int) (bh:Option Addr) (bi:Nat) (aD:List hO) (bu:Option Addr) (aW:Nat) (au:List eu) (a1:Int) (r1 r2:List Int) (r3:Bool) (w:World) (eI:Kd.C oS w bh aD.length aD) (eS:aD.length≤bi) (eC:Kd.C nD w bu au.length au) (eT:au.length≤aW)
  (h:ew.f k aI aD au a1=some (r1,r2,r3)):
  Calls Try.prog 38 #[.agg #[.int .i64 aI,.slice bh aD.length bi,.slice bu au.length aW],.int .i64 a1] w fun e w'=>∃ uo Gd:Value,e= .returned (.tuple #[.agg #[uo,Gd],.bool r3])∧Kd.V (Kd.int .i64) 3 w' w.heap.size (fun k_=>w.heap.size≤k_) uo r1∧Kd.V (Kd.int .i64) 3 w' w.heap.size (fun k_=>w.heap.size≤k_) Gd r2∧Below w.heap.size w w':=by
 unfold ew.f at h
 cases ht:aM.f k aI aD au with
 |none=>rw [ht] at h;cases h
 |some T=>
  rw [ht,Option.bind_some] at h
  cases hf:aV.f k aI aD au T with
  |none=>rw [hf] at h;cases h
  |some p=>
   obtain ⟨r,eF⟩:=p
   rw [hf,Option.bind_some] at h
   by_cases c:r=[]
   ·subst c
    rw [if_pos rfl] at h
    injection h with h
    injection h with h1 h
    injection h with h2 h3
    subst h1 h2 h3
    refine (BO k k eF aI bh bi aD bu aW au a1 T w eI eS eC eT ht hf).mono ?_
    rintro e w' ⟨rfl,hb⟩
    exact ⟨.slice none 0 0,.slice none 0 0,rfl,Kd.Jg (xs:=([]:List Int)) (Nat.le_refl _) (Kd.TH (Kd.jE _ 3 _ w.heap.size _)),Kd.Jg (xs:=([]:List Int)) (Nat.le_refl _) (Kd.TH (Kd.jE _ 3 _ w.heap.size _)),hb⟩
   simp only [if_neg c] at h
   by_cases c9:r.length≤512
   ·rw [if_pos c9] at h
    cases hx:bw.f a1 (r.length:Int) with
    |none=>rw [hx] at h;cases h
    |some x=>
     rw [hx,Option.bind_some] at h
     by_cases x0:0≤x
     ·rw [if_pos x0] at h
      by_cases x1:x<(r.length:Int)
      ·rw [if_pos x1] at h
       injection h with h
       injection h with h1 h
       injection h with h2 h3
       subst h1 h2 h3
       refine (BP k k eF aI bh bi aD bu aW au a1 T r x w eI eS eC eT ht hf (List.length_pos_iff.2 c) c9 hx x0 x1).mono ?_
       rintro e w' ⟨B0,b0,B1,b1,rfl,⟨g0,G0⟩,⟨g1,G1⟩,hb⟩
       exact ⟨_,_,rfl,Kd.Jg g0 G0,Kd.Jg g1 G1,hb⟩
      rw [if_neg x1] at h;cases h
     rw [if_neg x0] at h;cases h
   rw [if_neg c9] at h;cases h
def px (per t:Int):Bool:= !(decide (0≤t)&&decide (t≤wrap64 (per - 1)))
theorem Ih (per t:Int) (bn:Nat) (w:World) (hn:w.cell? ⟨bn,0,none⟩=some (.int .i64 per)):
  Calls Try.prog 142 #[.int .i64 t,.pointer (some ⟨bn,0,none⟩)] w fun e w'=>e= .returned (.bool (px per t))∧Below w.heap.size w w':=by
 have nu:=Try.underlying26
 go_enter Try.func142,Try.ntmps142
 go_wp2_with (go_at_call 140;refine (wS _ _ _ _).mono ?_;rintro e w' ⟨rfl,⟨nd,rfl⟩⟩)
 go_ret
 refine ⟨congrArg (fun b=>Ending.returned (Value.bool b)) (by unfold px;rw [Bool.not_and]),by repeat (first|exact Below.refl _ _|apply ae|apply ab|apply jl)⟩
def tT (per:Int) (n:Nat) (acts:List eu) (times:List Int):Bool:=fD per n acts&&decide (times.length=n)&& !(times.any (px per))
def kv.f (aI:Int) (aD:List (hO)) (au:List (eu)) (l1:List Int):Option (Bool):=some (tT aI aD.length au l1)
structure sG (w:World) (per:Int) (A:Option Addr) (n c:Nat) (W:World):Prop where
 c0:W.cell? ⟨w.heap.size,0,none⟩=some (.int .i64 per)
 c1:W.cell? ⟨w.heap.size,1,none⟩=some (.slice A n c)
 bel:Below w.heap.size w W
 lt:w.heap.size<W.heap.size
theorem sG.after {w:World} {per:Int} {A:Option Addr} {n c:Nat} {W W':World} (h:sG w per A n c W) (hb:Below W.heap.size W W'):sG w per A n c W':=
 ⟨(hb.cell (p:=⟨w.heap.size,0,none⟩) h.lt).trans h.c0,(hb.cell (p:=⟨w.heap.size,1,none⟩) h.lt).trans h.c1,aE h.bel hb,Nat.lt_of_lt_of_le h.lt hb.size⟩
theorem sG.drewN {w:World} {per:Int} {A:Option Addr} {n c:Nat} {W:World} (h:sG w per A n c W) (k:Nat):sG w per A n c (W.drewN k):=⟨h.c0,h.c1,ab h.bel k,h.lt⟩
theorem sG.drew {w:World} {per:Int} {A:Option Addr} {n c:Nat} {W:World} (h:sG w per A n c W):sG w per A n c W.drew:=h.drewN 1
set_option maxHeartbeats 2000000 in
set_option maxRecDepth 100000 in
theorem kv.calls (aI:Int) (bh:Option Addr) (bi:Nat) (aD:List (hO)) (bu:Option Addr) (aW:Nat) (au:List (eu)) (A1:Option Addr) (c1:Nat) (l1:List Int) (r:Bool) (w:World) (eI:Kd.C oS w bh aD.length aD) (eS:aD.length≤bi) (eC:Kd.C nD w bu au.length au) (eT:au.length≤aW) (mh:Kd.C (Kd.int .i64) w A1 l1.length l1) (oA:l1.length≤c1) (h:kv.f aI aD au l1=some r):
  Calls Try.prog 93 #[.agg #[.int .i64 aI,.slice bh aD.length bi,.slice bu au.length aW],.slice A1 l1.length c1] w fun e w'=>e= .returned (.bool r)∧Below w.heap.size w w':=by
 obtain rfl:=Option.some.inj h
 clear h
 have nu:=Try.underlying26
 have pK:=aa.mk eI
 have lm:=aa.mk eC
 have HCT:=aa.mk mh
 have ZS:=aa.mk eS
 have I0:=aa.mk eT
 have m1:=Kd.jZ eI
 have m2:=Kd.jZ mh
 clear eI eC eS eT mh oA
 have EG:aa (∀ args W,(callFunc 142 args).run Try.prog W= .ok (.enter 142 args) W):=⟨enters_of Try.func142 (by kernel_rfl) rfl⟩
 go_enter Try.func93,Try.ntmps93
 have HS:aa (∀ cs,sG w aI bh aD.length bi (w.alloc (.cells #[.int .i64 aI,.slice bh aD.length bi,cs] 26))):=⟨fun cs=>⟨(ag (gC w (.cells #[.int .i64 aI,.slice bh aD.length bi,cs] 26)) 0).trans rfl,(ag (gC w (.cells #[.int .i64 aI,.slice bh aD.length bi,cs] 26)) 1).trans rfl,ae (Below.refl _ _) _,by simp⟩⟩
 go_wp2_with (first|(go_at_call 92;(with_reducible refine (fg.calls aI bh bi aD bu aW au _ _ (Kd.aN pK.out (HS.out _).bel) ZS.out (Kd.aN lm.out (HS.out _).bel) I0.out rfl).mono ?_);rintro e w1 ⟨rfl,k0⟩;have k1:=aa.mk ((HS.out _).after k0);clear k0;have q0:=k1.out.c0;have q1:=k1.out.c1)|(go_at_call 117;(with_reducible refine (wX (px aI) 142 #[.pointer (some ⟨w.heap.size,0,none⟩)] A1 c1 l1 _ EG.out (Kd.aN HCT.out k1.out.bel) ?hf).mono ?_);(case hf=>intro W x hx hb;exact Ih aI x _ W ((k1.out.after hb).c0));rintro e w2 ⟨rfl,k2⟩;have k3:=aa.mk (k1.out.after k2);clear k2))
 all_goals
  go_ret
  refine ⟨congrArg (fun b=>Ending.returned (Value.bool b)) ?_,by first|exact k3.out.bel|exact k1.out.bel⟩
  rw [Bool.eq_iff_iff]
  simp [tT, *]
  try omega
def jC (v:Int):Bool:=decide (v< -131072)||decide (131072<v)
theorem C8 (v:Int) (bm:Nat) (w:World) (hn:w.cell? ⟨bm,0,none⟩=some (.int .i64 131072)):
  Calls Try.prog 143 #[.int .i64 v,.pointer (some ⟨bm,0,none⟩)] w fun e w'=>e= .returned (.bool (jC v))∧Below w.heap.size w w':=by
 go_enter Try.func143,Try.ntmps143
 go_wp2
 all_goals
  go_ret
  refine ⟨congrArg (fun b=>Ending.returned (Value.bool b)) ?_,by repeat (first|exact Below.refl _ _|apply ae|apply ab|apply jl)⟩
  rw [Bool.eq_iff_iff]
  simp [jC,wrap64]
  try omega
def l5 (m:Nat) (values:List Int):Int:=if values.length≠m∨values.any jC=true then 4 else 0
def fS.f (aI:Int) (aD:List (hO)) (au:List (eu)) (l1:List Int):Option (Int):=some (l5 au.length l1)
structure zF (w:World) (A:Option Addr) (n c:Nat) (W:World):Prop where
 c2:W.cell? ⟨w.heap.size,2,none⟩=some (.slice A n c)
 m0:W.cell? ⟨w.heap.size+1,0,none⟩=some (.int .i64 131072)
 bel:Below w.heap.size w W
 lt:w.heap.size+1<W.heap.size
theorem zF.after {w:World} {A:Option Addr} {n c:Nat} {W W':World} (h:zF w A n c W) (hb:Below W.heap.size W W'):zF w A n c W':=
 ⟨(hb.cell (p:=⟨w.heap.size,2,none⟩) (by have:=h.lt;simp;omega)).trans h.c2,(hb.cell (p:=⟨w.heap.size+1,0,none⟩) h.lt).trans h.m0,aE h.bel hb,Nat.lt_of_lt_of_le h.lt hb.size⟩
theorem zF.drewN {w:World} {A:Option Addr} {n c:Nat} {W:World} (h:zF w A n c W) (k:Nat):zF w A n c (W.drewN k):=⟨h.c2,h.m0,ab h.bel k,h.lt⟩
theorem zF.drew {w:World} {A:Option Addr} {n c:Nat} {W:World} (h:zF w A n c W):zF w A n c W.drew:=h.drewN 1
set_option maxHeartbeats 2000000 in
set_option maxRecDepth 100000 in
theorem fS.calls (aI:Int) (bh:Option Addr) (bi:Nat) (aD:List (hO)) (bu:Option Addr) (aW:Nat) (au:List (eu)) (A1:Option Addr) (c1:Nat) (l1:List Int) (r:Int) (w:World) (eI:Kd.C oS w bh aD.length aD) (eS:aD.length≤bi) (eC:Kd.C nD w bu au.length au) (eT:au.length≤aW) (mh:Kd.C (Kd.int .i64) w A1 l1.length l1) (oA:l1.length≤c1) (h:fS.f aI aD au l1=some r):
  Calls Try.prog 95 #[.agg #[.int .i64 aI,.slice bh aD.length bi,.slice bu au.length aW],.slice A1 l1.length c1] w fun e w'=>e= .returned (.int .i64 r)∧Below w.heap.size w w':=by
 obtain rfl:=Option.some.inj h
 clear h
 have nu:=Try.underlying26
 have HCT:=aa.mk mh
 have m1:=Kd.jZ eC
 have m2:=Kd.jZ mh
 clear eI eC eS eT mh oA
 have EG:aa (∀ args W,(callFunc 143 args).run Try.prog W= .ok (.enter 143 args) W):=⟨enters_of Try.func143 (by kernel_rfl) rfl⟩
 go_enter Try.func95,Try.ntmps95
 go_wp2_with (go_at_call 117;refine (wX jC 143 #[.pointer (some ⟨w.heap.size+1,0,none⟩)] A1 c1 l1 _ EG.out (Kd.aN HCT.out (by repeat (first|exact Below.refl _ _|apply ae|apply ab|apply jl))) ?hf).mono ?_;(case hf=>intro W x hx hb;exact C8 x _ W ((hb.cell (p:=⟨w.heap.size+1,0,none⟩) (by simp)).trans (by go_simp)));rintro e w2 ⟨rfl,k2⟩)
 all_goals
  go_ret
  refine ⟨congrArg (fun i=>Ending.returned (Value.int .i64 i)) ?_,by first|(refine aE ?_ k2;repeat (first|exact Below.refl _ _|apply ae))|(repeat (first|exact Below.refl _ _|apply ae))⟩
  unfold l5
  first
   |rw [if_pos (show l1.length≠au.length∨l1.any jC=true from by first|exact .inl (by omega)|exact .inr (by assumption))]
   |rw [if_neg (show ¬(l1.length≠au.length∨l1.any jC=true) from by rintro (h|h)<;>first|omega|contradiction|(simp_all;done))]
end Go.Proofs.Ytbkjplomoegbdaa.PB
