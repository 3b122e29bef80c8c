/- Parts of the proof of CyclesSums, gathered by a program of this claim out of texts that it or the kit's print wrote: lemmas alone, no condition of their own. -/
import Derived.Test.YtbkjplomoegbdaaCcs3
section
namespace Go.Proofs.Ytbkjplomoegbdaa.PB
open Go.RowKit Go.Proofs.YtbkjplomoegbdaaW.bO Go.Proofs.YtbkjplomoegbdaaW.dA Go.Proofs.YtbkjplomoegbdaaW.dG
attribute [local go_sem] iQ iR jM jN gW gX iS iT
set_option linter.unusedVariables false
set_option linter.unusedSimpArgs false
def dJ.f:Option (Int × (List (hO)) × (List (eu))):=if 3≤11728124029610 then (some (10,(List.replicate 3 Pz),(([(⟨0,0,1,1,3,0⟩:eu),(⟨0,1,2,1,3,0⟩:eu),(⟨0,0,2,1,3,0⟩:eu)]:List (eu))))) else (none)
set_option maxHeartbeats 8000000 in
set_option maxRecDepth 100000 in
theorem dJ.calls (r1:Int) (r2:List (hO)) (r3:List (eu)) (w:World) (h:dJ.f=some (r1,r2,r3)):
  Calls Try.prog 79 #[] w fun e w'=>∃ Gd PX:Value,e= .returned (.agg #[.int .i64 r1,Gd,PX])∧Kd.R oS 97 w' w.heap.size (fun _=>True) Gd r2∧Kd.R nD 36 w' w.heap.size (fun _=>True) PX r3∧Below w.heap.size w w':=by
 have nu:=Try.underlying26
 have sj:=Try.underlying36
 have HB:=aa.mk (Below.refl w.heap.size w)
 have H:(if 3≤11728124029610 then (some (10,(List.replicate 3 Pz),(([(⟨0,0,1,1,3,0⟩:eu),(⟨0,1,2,1,3,0⟩:eu),(⟨0,0,2,1,3,0⟩:eu)]:List (eu))))) else (none))=some (r1,r2,r3):=h
 clear h
 by_cases c1:3≤11728124029610
 ·rw [if_pos c1] at H
  have c1b0:=eq_true c1
  have c1b1:decide (3≤11728124029610)=true:=decide_eq_true c1
  clear c1
  obtain ⟨FA,Ba⟩:∃ y_:List (hO),y_=(List.replicate 3 Pz):=⟨_,rfl⟩
  replace H:(some (10,FA,(([(⟨0,0,1,1,3,0⟩:eu),(⟨0,1,2,1,3,0⟩:eu),(⟨0,0,2,1,3,0⟩:eu)]:List (eu)))))=some (r1,r2,r3):=by first|(rw [Ba];with_reducible exact H)|(have gT:=(Option.bind_some _ _).symm.trans H;rw [Ba];with_reducible exact gT)|(have gT:=(Option.bind_some _ _).symm.trans H;with_reducible exact gT)|with_reducible exact H|(rw [Ba];exact H)|exact H
  have LJ:=aa.mk Ba
  clear Ba
  obtain ⟨JG,Bb⟩:∃ y_:List (eu),y_=(([(⟨0,0,1,1,3,0⟩:eu),(⟨0,1,2,1,3,0⟩:eu),(⟨0,0,2,1,3,0⟩:eu)]:List (eu))):=⟨_,rfl⟩
  replace H:(some (10,FA,JG))=some (r1,r2,r3):=by first|(rw [Bb];with_reducible exact H)|(have gT:=(Option.bind_some _ _).symm.trans H;rw [Bb];with_reducible exact gT)|(have gT:=(Option.bind_some _ _).symm.trans H;with_reducible exact gT)|with_reducible exact H|(rw [Bb];exact H)|exact H
  have LK:=aa.mk Bb
  clear Bb
  simp only [Option.some.injEq,Prod.mk.injEq] at H
  obtain ⟨rfl,rfl,rfl⟩:=H
  go_enter Try.func79,Try.ntmps79
  go_wp2_with (first|((with_reducible refine bF (N:=0) rfl ?_);refine bH ?hg (N:=0) ?hd (cs:=#[.int .i64 0,.slice none 0 0,.slice none 0 0]) (t:=26) ?hr ?_;(case hd=>rfl);(case hg=>rfl);(case hr=>first|(go_simp;done)|(go_simp;rfl));intro oY hg w2 hbox hb;have br:=aa.mk (aE (by repeat (first|(with_reducible first|exact HB.out|apply ae|apply ab|apply af)|exact HB.out)) hb);have bt:=aa.mk (hbox);have bA:=aa.mk ((by rw [hg];exact (az (by repeat (first|(with_reducible first|exact HB.out|apply ae|apply ab|apply af)|exact HB.out))):w.heap.size≤oY));have bK:=aa.mk ((by rw [hg];exact (az (by repeat (first|(with_reducible first|exact HB.out|apply ae|apply ab|apply af)|exact HB.out))):w.heap.size≤oY));clear HB;have HB:=br;have oE:=bt;have abp:=bA;have Bc:=bK;clear br bt bA bK;clear hb hbox hg)|((with_reducible refine bF (N:=1) rfl ?_);refine Kd.p8 oS _ 97 rfl (N:=1) rfl 23 _ _ rfl 3 rfl rfl Try.underlying23 (.agg #[(.int .i64 0),(.int .i64 0),(.int .i64 0)]) 24 GA rfl (by decide) (by omega) Pz (ok:=fun _=>True) (okp:=fun _=>True) (Dy _ _ _ Pz) (fun _ hk=>hk) trivial (by omega) (by omega) (Below.refl _ _) (Nat.le_refl _) ?_;intro adA w3 JH hb hg_ hnew_;clear hg_ hnew_;(first|rw [← LJ.out] at JH|(simp only [Int.reduceToNat] at JH;rw [← LJ.out] at JH));have br:=aa.mk (Kd.eH JH (az (by repeat (first|(with_reducible first|exact HB.out|apply ae|apply ab|apply af|refine ai ?_ Bc.out)|exact HB.out))));have bt:=aa.mk (aH (g:=oY) (o:= .cells #[.int .i64 0,.slice none 0 0,.slice none 0 0] 26 (0,0)) (by (with_reducible repeat (first|refine ak ?_ _|refine aq ?_|refine aj ?_ _));exact oE.out) hb);have bA:=aa.mk (aE (by repeat (first|(with_reducible first|exact HB.out|apply ae|apply ab|apply af|refine ai ?_ Bc.out)|exact HB.out)) hb);clear oE;clear HB;have Bd:=br;have oE:=bt;have HB:=bA;clear br bt bA;clear hb JH)|((with_reducible refine bF (N:=5) rfl ?_);refine Kd.qL nD _ 36 ?hg (N:=5) ?hd (xs:=([(⟨0,0,1,1,3,0⟩:eu),(⟨0,1,2,1,3,0⟩:eu),(⟨0,0,2,1,3,0⟩:eu)]:List (eu))) (inner:=[.int .i64 0,.int .i64 0,.int .i64 1,.int .i64 1,.int .i64 3,.int .i64 0,.int .i64 0,.int .i64 1,.int .i64 2,.int .i64 1,.int .i64 3,.int .i64 0,.int .i64 0,.int .i64 0,.int .i64 2,.int .i64 1,.int .i64 3,.int .i64 0]) (ok:=fun _=>True) (okp:=fun _=>True) ?hr ?hp (fun _ hk=>hk) trivial (Below.refl _ _) (Nat.le_refl _) (by simp) ?_;(case hd=>rfl);(case hg=>rfl);(case hr=>first|(go_simp;done)|(go_simp;rfl));(case hp=>exact (gH.c6 (show Kd.M nD _ _ _ (⟨0,0,1,1,3,0⟩:eu) [.int .i64 0,.int .i64 0,.int .i64 1,.int .i64 1,.int .i64 3,.int .i64 0] from (vB _ _ _ (⟨0,0,1,1,3,0⟩:eu))) (gH.c6 (show Kd.M nD _ _ _ (⟨0,1,2,1,3,0⟩:eu) [.int .i64 0,.int .i64 1,.int .i64 2,.int .i64 1,.int .i64 3,.int .i64 0] from (vB _ _ _ (⟨0,1,2,1,3,0⟩:eu))) (gH.c6 (show Kd.M nD _ _ _ (⟨0,0,2,1,3,0⟩:eu) [.int .i64 0,.int .i64 0,.int .i64 2,.int .i64 1,.int .i64 3,.int .i64 0] from (vB _ _ _ (⟨0,0,2,1,3,0⟩:eu))) (gH.none _ _)))));intro adB w5 Qf hb hg_ hnew_;clear hg_ hnew_;(first|rw [← LK.out] at Qf|(simp only [Int.reduceToNat] at Qf;rw [← LK.out] at Qf));have br:=aa.mk (Kd.aZ (by (with_reducible repeat (first|apply Kd.aw|apply Kd.av|apply Kd.aA));exact Bd.out) hb);have bt:=aa.mk (Kd.eH Qf (az (by repeat (first|(with_reducible first|exact HB.out|apply ae|apply ab|apply af|refine ai ?_ Bc.out)|exact HB.out))));have bA:=aa.mk (aH (g:=oY) (o:= .cells #[.int .i64 0,.slice none 0 0,.slice none 0 0] 26 (0,0)) (by (with_reducible repeat (first|refine ak ?_ _|refine aq ?_|refine aj ?_ _));exact oE.out) hb);have bK:=aa.mk (aE (by repeat (first|(with_reducible first|exact HB.out|apply ae|apply ab|apply af|refine ai ?_ Bc.out)|exact HB.out)) hb);clear Bd;clear oE;clear HB;have Bd:=br;have LL:=bt;have oE:=bA;have HB:=bK;clear br bt bA bK;clear hb Qf;obtain ⟨YN,YO,eo7⟩:=Kd.cA LL.out;subst eo7;obtain ⟨UG,UH,eo8⟩:=Kd.cA Bd.out;subst eo8;have jP:w5.cell? ⟨oY,0,none⟩=some (.int .i64 0):=(ag oE.out 0).trans rfl;have jQ:w5.cell? ⟨oY,1,none⟩=some (.slice none 0 0):=(ag oE.out 1).trans rfl;have j9:w5.cell? ⟨oY,2,none⟩=some (.slice none 0 0):=(ag oE.out 2).trans rfl;have ke:=ah oE.out 0;have jR:=ah oE.out 1;have kg:=ah oE.out 2))
  refine bodyPost_ret (results_cell_row rfl _ _ oY 26 #[.int .i64 10,.slice UG FA.length UH,.slice YN JG.length YO] (0,0) _ rfl (by (with_reducible repeat (first|refine ak ?_ _|refine aq ?_|refine aj ?_ _));refine df (cs:=#[.int .i64 10,.slice UG FA.length UH,.slice none 0 0]) ?_ 2 _ rfl;(with_reducible repeat (first|refine ak ?_ _|refine aq ?_|refine aj ?_ _));refine df (cs:=#[.int .i64 10,.slice none 0 0,.slice none 0 0]) ?_ 1 _ rfl;(with_reducible repeat (first|refine ak ?_ _|refine aq ?_|refine aj ?_ _));refine df (cs:=#[.int .i64 0,.slice none 0 0,.slice none 0 0]) ?_ 0 _ rfl;(with_reducible repeat (first|refine ak ?_ _|refine aq ?_|refine aj ?_ _));exact oE.out) Try.underlying26 rfl (by kernel_rfl)) rfl ?_
  exact ⟨_,_,by first|rfl|(simp [bB,bC]<;>rfl)|(simp [*,bB,bC]<;>rfl),by (with_reducible repeat (first|apply Kd.aw|apply Kd.av|apply Kd.aA));exact Kd.bN (Kd.cg (p:=⟨oY,2,none⟩) (Kd.cg (p:=⟨oY,1,none⟩) (Kd.cg (p:=⟨oY,0,none⟩) (Kd.dL Bd.out oE.out (by decide)) (fun _ hk=>hk.2) (.int .i64 10)) (fun _ hk=>hk.2) (.slice UG FA.length UH)) (fun _ hk=>hk.2) (.slice YN JG.length YO)) (fun _ hk=>trivial),by (with_reducible repeat (first|apply Kd.aw|apply Kd.av|apply Kd.aA));exact Kd.bN (Kd.cg (p:=⟨oY,2,none⟩) (Kd.cg (p:=⟨oY,1,none⟩) (Kd.cg (p:=⟨oY,0,none⟩) (Kd.dL LL.out oE.out (by decide)) (fun _ hk=>hk.2) (.int .i64 10)) (fun _ hk=>hk.2) (.slice UG FA.length UH)) (fun _ hk=>hk.2) (.slice YN JG.length YO)) (fun _ hk=>trivial),by repeat (first|(with_reducible first|exact HB.out|apply ae|apply ab|apply af|refine ai ?_ Bc.out)|exact HB.out)⟩
 rw [if_neg c1] at H
 exact absurd H (by simp)
def mC.f (a0:Int) (a1:Int) (a2:Int):Option (Bool):=if a0≥a1 then (some (decide (a0≤a2))) else (some false)
set_option maxHeartbeats 8000000 in
set_option maxRecDepth 100000 in
theorem mC.calls (a0:Int) (a1:Int) (a2:Int) (r:Bool) (w:World) (h:mC.f a0 a1 a2=some r):
  Calls Try.prog 140 #[.int .i64 a0,.int .i64 a1,.int .i64 a2] w fun e w'=>e= .returned (.bool r)∧dD w w':=by
 have H:(if a0≥a1 then (some (decide (a0≤a2))) else (some false))=some r:=h
 clear h
 by_cases c4:a0≥a1
 ·rw [if_pos c4] at H
  have c4b0:decide (a1≤a0)=true:=decide_eq_true c4
  clear c4
  obtain rfl:=Option.some.inj H
  go_enter Try.func140,Try.ntmps140
  go_wp2
  go_ret
  exact ⟨by first|rfl|(simp;done)|(simp [*];done),by repeat (first|exact dD.refl _|apply dD.step)⟩
 rw [if_neg c4] at H
 have c4b0:decide (a1≤a0)=false:=decide_eq_false c4
 clear c4
 obtain rfl:=Option.some.inj H
 go_enter Try.func140,Try.ntmps140
 go_wp2
 go_ret
 exact ⟨by first|rfl|(simp;done)|(simp [*];done),by repeat (first|exact dD.refl _|apply dD.step)⟩
def bW.l0:Nat→List Int→Int→Option (Int × List Int)
 |0,_,_=>none
 |k+1,x0,x1=>if 0≤x1 then (if x1<(x0.length:Int) then (if (rd x0 x1)=x1 then (some (x1,x0)) else (if 0≤(rd x0 x1) then (if (rd x0 x1)<(x0.length:Int) then ((some (x0.set (x1:Int).toNat (rd x0 (rd x0 x1)):List Int)).bind fun tv=>(bW.l0 k tv (rd tv x1))) else (none)) else (none))) else (none)) else (none)
def bW.f (k:Nat) (l0:List Int) (a1:Int):Option (Int × List Int):=bW.l0 k l0 a1
theorem bW.wI:∀ k,(∀ y0 y1,pY (bW.l0 k y0 y1) (bW.l0 (k+1) y0 y1))
 |0=>fun _ _ r h=>by simp [bW.l0] at h
 |k+1=>by
  have Qg:=bW.wI k
  intro y0 y1
  unfold bW.l0
  repeat' first
  |(with_reducible exact Qg _ _)
  |(with_reducible exact pY.refl _)
  |(with_reducible exact pY.none _)
  |(with_reducible refine pY.ite ?_ ?_)
  |(with_reducible refine pY.bind ?_ (fun _=> ?_))
  |exact Qg _ _
  |exact pY.none _
  |refine pY.ite ?_ ?_
  |refine pY.bind ?_ (fun _=> ?_)
set_option maxHeartbeats 8000000 in
set_option maxRecDepth 100000 in
theorem bW.calls (k:Nat) (ol:Nat→Prop) (l7:Value) (l0:List Int) (a1:Int) (r1:Int) (r2:List Int) (w0 w:World) (hB:Below w0.heap.size w0 w) (mN:Kd.R (Kd.int .i64) 3 w w0.heap.size ol l7 l0) (h:bW.f k l0 a1=some (r1,r2)):
  Calls Try.prog 132 #[l7,.int .i64 a1] w fun e w'=>e= .returned (.int .i64 r1)∧Kd.R (Kd.int .i64) 3 w' w0.heap.size (fun k_=>(ol k_∨w.heap.size≤k_)) l7 r2∧Below w0.heap.size w0 w'∧Kept w w' (fun k_=>ol k_):=by
 have mo:=aa.mk (show Kd.R (Kd.int .i64) 3 w w0.heap.size (fun k_=>(ol k_∨w.heap.size≤k_)) l7 l0 from Kd.bN mN (fun k_ hk=>(.inl hk)))
 have HK:=aa.mk (Kept.refl w (fun k_=>ol k_))
 have PA:=aa.mk hB.size
 have HB:=aa.mk hB
 clear hB
 have H:(bW.l0 k l0 a1)=some (r1,r2):=h
 clear h
 have H':=aa.mk H
 clear H
 go_enter Try.func132,Try.ntmps132
 go_wp2
 go_loopg [1] k (fun kq v1 w'=>∃ (iy:List Int) (jb:Int),v1= .int .i64 jb∧aa (bW.l0 kq iy jb=some (r1,r2))∧aa (kq≤k)∧aa (Kd.R (Kd.int .i64) 3 w' w0.heap.size (fun k_=>(ol k_∨w.heap.size≤k_)) l7 iy)∧aa (Kept w w' (fun k_=>ol k_))∧aa (Below w0.heap.size w0 w'))
 case atStart=>exact ⟨(l0),(a1),(by first|rfl|(simp;done)|(simp [*];done)),H',⟨Nat.le_refl _⟩,⟨by (with_reducible repeat (first|apply Kd.aw|apply Kd.av|apply Kd.aA));exact mo.out⟩,⟨by repeat (first|(with_reducible first|exact HK.out|apply Kept.alloc|apply Kept.drewN|apply Kept.drew)|exact HK.out)⟩,⟨by repeat (first|(with_reducible first|exact HB.out|apply ae|apply ab|apply af)|exact HB.out)⟩⟩
 case round=>
  clear H'
  try clear c1
  try clear p2
  obtain ⟨iy,jb,rfl,HA,lw,HO_0,HK,HB⟩:=hrel
  cases gk with
  |zero=>exact absurd HA.out (by simp [bW.l0])
  |succ k1=>
   have H:=HA.out
   clear HA
   simp only [bW.l0] at H
   by_cases c3:0≤jb
   ·rw [if_pos c3] at H
    have c3b0:decide (0≤jb)=true:=decide_eq_true c3
    clear c3
    by_cases c4:jb<(iy.length:Int)
    ·rw [if_pos c4] at H
     have c4b0:decide (jb<(iy.length:Int))=true:=decide_eq_true c4
     clear c4
     by_cases c5:(rd iy jb)=jb
     ·rw [if_pos c5] at H
      have c5b0:((rd iy jb)==jb)=true:=beq_iff_eq.mpr c5
      have c5b1:((rd iy jb) !=jb)=false:=bne_eq_false_iff_eq.mpr c5
      clear c5
      simp only [Option.some.injEq,Prod.mk.injEq] at H
      obtain ⟨rfl,rfl⟩:=H
      obtain ⟨Ao6,YP,YQ⟩:=Kd.cA HO_0.out
      subst YQ
      have wJ:0≤(jb:Int):=of_decide_eq_true (by assumption)
      have wK:jb<(iy.length:Int):=of_decide_eq_true (by assumption)
      obtain ⟨CF,GZ,Be⟩:=Kd.dN (Kd.bf HO_0.out).2.2 jb wJ wK
      cases GZ
      replace wJ:=eq_true wJ
      replace wK:=eq_true wK
      go_wp2
      go_ret
      exact ⟨by first|rfl|(simp [bB,bC]<;>rfl)|(simp [*,bB,bC]<;>rfl),by (with_reducible repeat (first|apply Kd.aw|apply Kd.av|apply Kd.aA));exact HO_0.out,by repeat (first|(with_reducible first|exact HB.out|apply ae|apply ab|apply af)|exact HB.out),by repeat (first|(with_reducible first|exact HK.out|apply Kept.alloc|apply Kept.drewN|apply Kept.drew)|exact HK.out)⟩
     rw [if_neg c5] at H
     have c5b0:((rd iy jb)==jb)=false:=beq_eq_false_iff_ne.mpr c5
     have c5b1:((rd iy jb) !=jb)=true:=bne_iff_ne.mpr c5
     by_cases c7:0≤(rd iy jb)
     ·rw [if_pos c7] at H
      have c7b0:decide (0≤(rd iy jb))=true:=decide_eq_true c7
      clear c7
      by_cases c8:(rd iy jb)<(iy.length:Int)
      ·rw [if_pos c8] at H
       have c8b0:decide ((rd iy jb)<(iy.length:Int))=true:=decide_eq_true c8
       clear c8
       obtain ⟨tv,wL⟩:∃ y_:List Int,y_=(iy.set (jb:Int).toNat (rd iy (rd iy jb))):=⟨_,rfl⟩
       replace H:(bW.l0 k1 tv (rd tv jb))=some (r1,r2):=by first|(rw [wL];with_reducible exact H)|(have gT:=(Option.bind_some _ _).symm.trans H;rw [wL];with_reducible exact gT)|(have gT:=(Option.bind_some _ _).symm.trans H;with_reducible exact gT)|with_reducible exact H|(rw [wL];exact H)|exact H
       have G2:=aa.mk wL
       clear wL
       have H':=aa.mk H
       clear H
       obtain ⟨G3,Bf,sJ⟩:=Kd.cA HO_0.out
       subst sJ
       have wJ:0≤(jb:Int):=of_decide_eq_true (by assumption)
       have wK:jb<(iy.length:Int):=of_decide_eq_true (by assumption)
       obtain ⟨CF,GZ,Be⟩:=Kd.dN (Kd.bf HO_0.out).2.2 jb wJ wK
       cases GZ
       replace wJ:=eq_true wJ
       replace wK:=eq_true wK
       have G4:0≤(jb:Int):=of_decide_eq_true (by assumption)
       have G5:jb<(iy.length:Int):=of_decide_eq_true (by assumption)
       obtain ⟨Nb,Qh,G6⟩:=Kd.dN (Kd.bf HO_0.out).2.2 jb G4 G5
       obtain rfl:CF=Nb:=(by injection Qh)
       replace G4:=eq_true G4
       replace G5:=eq_true G5
       have G7:0≤((rd iy jb):Int):=of_decide_eq_true (by assumption)
       have G8:(rd iy jb)<(iy.length:Int):=of_decide_eq_true (by assumption)
       obtain ⟨Nc,Qi,G9⟩:=Kd.dN (Kd.bf HO_0.out).2.2 (rd iy jb) G7 G8
       obtain rfl:CF=Nc:=(by injection Qi)
       replace G7:=eq_true G7
       replace G8:=eq_true G8
       have p9:0≤(jb:Int):=of_decide_eq_true (by assumption)
       have q9:(jb:Int)<((iy.length:Int):Int):=of_decide_eq_true (by assumption)
       obtain ⟨O5,PH,O3,gb9,gl9,cl9,HG9⟩:=Kd.mP HO_0.out (by first|omega|(have hz_:=(Kd.bf HO_0.out).1;omega))
       (first|cases O3|(injection O3 with ea_ en_ ec_;(first|subst ea_|(injection ea_ with ea_;subst ea_));subst ec_;clear en_))
       have GB9:=aa.mk gb9
       have GG9:=aa.mk HG9
       clear gb9 gl9 HG9
       have abu:=aa.mk (show (ol O5∨w.heap.size≤O5) from (HO_0.out.1 _ rfl))
       (first|simp only [add_plain] at Be|skip)
       (first|simp only [add_plain] at G6|skip)
       (first|simp only [add_plain] at G9|skip)
       obtain ⟨abv,abw⟩:=Kd.jq 0 HO_0.out (jb:Int) p9 q9
       replace p9:=eq_true p9
       replace q9:=eq_true q9
       have CG:=Kd.l6 HO_0.out (jb:Int) (rd iy (rd iy jb))
       go_wp2_with (first|((with_reducible refine iM (t:=3) (p:=20) rfl ?_);refine hU (t:=3) (p:=20) (v:= ?vo_w12) (w1:=(wr.setCell ⟨O5,(jb:Int).toNat,none⟩ (.int .i64 (rd iy (rd iy jb))))) ?hg ?ho ?hn ?hr ?_;(case ho=>rfl);(case hg=>rfl);(case hn=>rfl);(case hr=>first|(go_simp;done)|(go_simp;rfl));intro yd hw;have hg:wr.grownBy yd (some O5):=(by rw [hw];exact CG.2);have hp_:Kd.R (Kd.int .i64) 3 yd w0.heap.size (fun k_=>(ol k_∨w.heap.size≤k_)) (.slice (some ⟨O5,0,none⟩) iy.length Bf) tv:=(by rw [hw,G2.out];exact CG.1);clear CG;have br:=aa.mk (hp_);have bt:=aa.mk ((by rw [hw];exact ai (HB.out) GB9.out:Below w0.heap.size w0 yd));have bA:=aa.mk (Kept.ow (S:=(fun k_=>ol k_)) hg (by repeat (first|(with_reducible first|exact HK.out|apply Kept.alloc|apply Kept.drewN|apply Kept.drew)|exact HK.out)) (fun k_ e_=>(HO_0.out.1 k_ e_)));clear HO_0;clear HB;clear HK;have HO_0:=br;have HB:=bt;have HK:=bA;clear br bt bA;clear hg hw hp_;have Ha:0≤(jb:Int):=of_decide_eq_true (by assumption);have Hb:jb<(tv.length:Int):=(by have h_:(jb:Int)<((iy.length:Int):Int):=of_decide_eq_true (by assumption);first|(have e_:=(Kd.bf HO_0.out).1;omega)|simpa only [G2.out,List.length_set] using h_);have YR:((jb:Int)<((iy.length:Int):Int))=True:=eq_true (of_decide_eq_true (by assumption));obtain ⟨Nd,Qj,wM⟩:=Kd.dN (Kd.bf HO_0.out).2.2 jb Ha Hb;obtain rfl:(⟨O5,0,none⟩:Addr)=Nd:=(by injection Qj);(first|simp only [add_plain] at wM|simp only [Gl] at wM|simp only [Addr.add,Nat.zero_add] at wM|skip);replace Ha:=eq_true Ha;replace Hb:=eq_true Hb))
       go_roundg k1
       case measure=>have:=lw.out;omega
       case rel=>exact ⟨(tv),(rd tv jb),(by first|rfl|(simp;done)|(simp [*];done)),H',⟨by have:=lw.out;omega⟩,⟨by (with_reducible repeat (first|apply Kd.aw|apply Kd.av|apply Kd.aA));exact HO_0.out⟩,⟨by repeat (first|(with_reducible first|exact HK.out|apply Kept.alloc|apply Kept.drewN|apply Kept.drew)|exact HK.out)⟩,⟨by repeat (first|(with_reducible first|exact HB.out|apply ae|apply ab|apply af)|exact HB.out)⟩⟩
      rw [if_neg c8] at H
      exact absurd H (by simp)
     rw [if_neg c7] at H
     exact absurd H (by simp)
    rw [if_neg c4] at H
    exact absurd H (by simp)
   rw [if_neg c3] at H
   exact absurd H (by simp)
def jO.f (k:Nat) (l0:List Int) (a1:Int) (a2:Int):Option (Bool × List Int):=(bW.f k l0 a1).bind fun mT=>((bW.f k mT.2 a2).bind fun jT=>(if 0≤(mx mT.1 jT.1) then (if (mx mT.1 jT.1)<(l0.length:Int) then (some ((mT.1 !=jT.1),(jT.2.set ((mx mT.1 jT.1):Int).toNat (mn mT.1 jT.1)))) else (none)) else (none)))
set_option maxHeartbeats 8000000 in
set_option maxRecDepth 100000 in
theorem jO.calls (k:Nat) (ol:Nat→Prop) (l7:Value) (l0:List Int) (a1:Int) (a2:Int) (r1:Bool) (r2:List Int) (w0 w:World) (hB:Below w0.heap.size w0 w) (mN:Kd.R (Kd.int .i64) 3 w w0.heap.size ol l7 l0) (h:jO.f k l0 a1 a2=some (r1,r2)):
  Calls Try.prog 131 #[l7,.int .i64 a1,.int .i64 a2] w fun e w'=>e= .returned (.bool r1)∧Kd.R (Kd.int .i64) 3 w' w0.heap.size (fun k_=>(ol k_∨w.heap.size≤k_)) l7 r2∧Below w0.heap.size w0 w'∧Kept w w' (fun k_=>ol k_):=by
 have mo:=aa.mk (show Kd.R (Kd.int .i64) 3 w w0.heap.size (fun k_=>(ol k_∨w.heap.size≤k_)) l7 l0 from Kd.bN mN (fun k_ hk=>(.inl hk)))
 have HK:=aa.mk (Kept.refl w (fun k_=>ol k_))
 have PA:=aa.mk hB.size
 have HB:=aa.mk hB
 clear hB
 have H:((bW.f k l0 a1).bind fun mT=>((bW.f k mT.2 a2).bind fun jT=>(if 0≤(mx mT.1 jT.1) then (if (mx mT.1 jT.1)<(l0.length:Int) then (some ((mT.1 !=jT.1),(jT.2.set ((mx mT.1 jT.1):Int).toNat (mn mT.1 jT.1)))) else (none)) else (none))))=some (r1,r2):=h
 clear h
 replace H:=Option.bind_eq_some_iff.mp H
 obtain ⟨⟨lF,Hc⟩,yK,H⟩:=H
 replace H:((bW.f k Hc a2).bind fun jT=>(if 0≤(mx lF jT.1) then (if (mx lF jT.1)<(l0.length:Int) then (some ((lF !=jT.1),(jT.2.set ((mx lF jT.1):Int).toNat (mn lF jT.1)))) else (none)) else (none)))=some (r1,r2):=H
 have A4:=aa.mk yK
 clear yK
 replace H:=Option.bind_eq_some_iff.mp H
 obtain ⟨⟨nI,Bg⟩,DC,H⟩:=H
 replace H:(if 0≤(mx lF nI) then (if (mx lF nI)<(l0.length:Int) then (some ((lF !=nI),(Bg.set ((mx lF nI):Int).toNat (mn lF nI)))) else (none)) else (none))=some (r1,r2):=H
 have A5:=aa.mk DC
 clear DC
 obtain ⟨Ae,FB⟩:∃ j_:Int,(mx lF nI)=j_:=⟨_,rfl⟩
 replace H:(if 0≤(Ae) then (if (Ae)<(l0.length:Int) then (some ((lF !=nI),(Bg.set ((Ae):Int).toNat (mn lF nI)))) else (none)) else (none))=some (r1,r2):=by first|(rw [FB] at H;exact H)|(simp only [FB] at H ⊢;exact H)
 (try rw [FB] at A4)
 (try rw [FB] at A5)
 have abx:(if lF<nI then nI else lF)=Ae:=FB
 obtain ⟨Qk,FC⟩:∃ j_:Int,(mn lF nI)=j_:=⟨_,rfl⟩
 replace H:(if 0≤(Ae) then (if (Ae)<(l0.length:Int) then (some ((lF !=nI),(Bg.set ((Ae):Int).toNat (Qk)))) else (none)) else (none))=some (r1,r2):=by first|(rw [FC] at H;exact H)|(simp only [FC] at H ⊢;exact H)
 (try rw [FC] at A4)
 (try rw [FC] at A5)
 have aby:(if nI<lF then nI else lF)=Qk:=FC
 by_cases c8:0≤(Ae)
 ·rw [if_pos c8] at H
  have c8b0:decide (0≤(Ae))=true:=decide_eq_true c8
  clear c8
  by_cases c9:(Ae)<(l0.length:Int)
  ·rw [if_pos c9] at H
   have c9b0:decide ((Ae)<(l0.length:Int))=true:=decide_eq_true c9
   clear c9
   obtain ⟨LM,wN⟩:∃ y_:List Int,y_=(Bg.set ((Ae):Int).toNat (Qk)):=⟨_,rfl⟩
   replace H:(some ((lF !=nI),LM))=some (r1,r2):=by first|(rw [wN];with_reducible exact H)|(have gT:=(Option.bind_some _ _).symm.trans H;rw [wN];with_reducible exact gT)|(have gT:=(Option.bind_some _ _).symm.trans H;with_reducible exact gT)|with_reducible exact H|(rw [wN];exact H)|exact H
   have Nf:=aa.mk wN
   clear wN
   simp only [Option.some.injEq,Prod.mk.injEq] at H
   obtain ⟨rfl,rfl⟩:=H
   obtain ⟨Bh,yT,Ng⟩:=Kd.cA mo.out
   subst Ng
   go_enter Try.func131,Try.ntmps131
   go_wp2_with (first|((with_reducible refine bY (f:=132) rfl ?_);refine er (some 9) rfl rfl Try.func132 (by kernel_rfl) rfl #[.slice Bh l0.length yT,.int .i64 a1] rfl (by (try simp only [List.map_toArray,List.map_cons,List.map_nil]);first|done|rfl|(simp only [List.length_drop,List.length_take];rfl)) ?_;(with_reducible refine (bW.calls k (fun k_=>some k_=(.slice Bh l0.length yT:Value).ownBlock) (.slice Bh l0.length yT) l0 a1 lF Hc w0 _ ?bS ?bT A4.out).mono ?_);(case bS=>repeat (first|(with_reducible first|exact HB.out|apply ae|apply ab|apply af)|exact HB.out));(case bT=>exact Kd.ng rfl mo.out);rintro e yd ⟨rfl,hy0,hb,hkp⟩;refine ⟨_,rfl, ?_⟩;have br:=aa.mk (Kd.qN rfl hy0 (fun k_ e_=>mo.out.1 k_ e_));have bt:=aa.mk (Kept.xZ (S:=(fun k_=>ol k_)) (by repeat (first|(with_reducible first|exact HK.out|apply Kept.alloc|apply Kept.drewN|apply Kept.drew)|exact HK.out)) hkp (fun k_ hs_=>(fun e_=>(mo.out.1 k_ e_.symm)) hs_));have bA:=aa.mk (hb);clear mo;clear HK;clear HB;have mo:=br;have HK:=bt;have HB:=bA;clear br bt bA;(try clear hb);(try clear hkp);(try clear hy0))|((with_reducible refine bY (f:=132) rfl ?_);refine er (some 12) rfl rfl Try.func132 (by kernel_rfl) rfl #[.slice Bh l0.length yT,.int .i64 a2] rfl (by (try simp only [List.map_toArray,List.map_cons,List.map_nil]);first|done|rfl|(simp only [List.length_drop,List.length_take];rfl)) ?_;(with_reducible refine (bW.calls k (fun k_=>some k_=(.slice Bh l0.length yT:Value).ownBlock) (.slice Bh l0.length yT) Hc a2 nI Bg w0 _ ?bS ?bT A5.out).mono ?_);(case bS=>repeat (first|(with_reducible first|exact HB.out|apply ae|apply ab|apply af)|exact HB.out));(case bT=>exact Kd.ng rfl mo.out);rintro e rK ⟨rfl,hy0,hb,hkp⟩;refine ⟨_,rfl, ?_⟩;have br:=aa.mk (Kd.qN rfl hy0 (fun k_ e_=>mo.out.1 k_ e_));have bt:=aa.mk (Kept.xZ (S:=(fun k_=>ol k_)) (by repeat (first|(with_reducible first|exact HK.out|apply Kept.alloc|apply Kept.drewN|apply Kept.drew)|exact HK.out)) hkp (fun k_ hs_=>(fun e_=>(mo.out.1 k_ e_.symm)) hs_));have bA:=aa.mk (hb);clear mo;clear HK;clear HB;have mo:=br;have HK:=bt;have HB:=bA;clear br bt bA;(try clear hb);(try clear hkp);(try clear hy0);have Nh:0≤((Ae):Int):=of_decide_eq_true (by assumption);have Nk:((Ae):Int)<((l0.length:Int):Int):=of_decide_eq_true (by assumption);obtain ⟨yU,Bf,sJ,Hd,Nl,YS,He⟩:=Kd.mP mo.out (by first|omega|(have hz_:=(Kd.bf mo.out).1;omega));(first|cases sJ|(injection sJ with ea_ en_ ec_;(first|subst ea_|(injection ea_ with ea_;subst ea_));subst ec_;clear en_));have Nm:=aa.mk Hd;have YT:=aa.mk He;clear Hd Nl He;have YU:=aa.mk (show (ol yU∨w.heap.size≤yU) from (mo.out.1 _ rfl));obtain ⟨Nn,Np⟩:=Kd.jq 0 mo.out ((Ae):Int) Nh Nk;replace Nh:=eq_true Nh;replace Nk:=eq_true Nk;obtain ⟨abz,abA⟩:=Kd.jq 0 mo.out ((Ae):Int) (of_decide_eq_true (by assumption)) (of_decide_eq_true (by assumption));have Nq:=Kd.l6 mo.out ((Ae):Int) Qk)|((with_reducible refine iM (t:=3) (p:=20) rfl ?_);refine hU (t:=3) (p:=20) (v:= ?vo_w15) (w1:=(rK.setCell ⟨yU,((Ae):Int).toNat,none⟩ (.int .i64 Qk))) ?hg ?ho ?hn ?hr ?_;(case ho=>rfl);(case hg=>rfl);(case hn=>rfl);(case hr=>first|(go_simp;done)|(go_simp;rfl));intro yJ hw;have hg:rK.grownBy yJ (some yU):=(by rw [hw];exact Nq.2);have hp_:Kd.R (Kd.int .i64) 3 yJ w0.heap.size (fun k_=>(ol k_∨w.heap.size≤k_)) (.slice (some ⟨yU,0,none⟩) l0.length yT) LM:=(by rw [hw,Nf.out];exact Nq.1);clear Nq;have br:=aa.mk (hp_);have bt:=aa.mk ((by rw [hw];exact ai (HB.out) Nm.out:Below w0.heap.size w0 yJ));have bA:=aa.mk (Kept.ow (S:=(fun k_=>ol k_)) hg (by repeat (first|(with_reducible first|exact HK.out|apply Kept.alloc|apply Kept.drewN|apply Kept.drew)|exact HK.out)) (fun k_ e_=>(mo.out.1 k_ e_)));clear mo;clear HB;clear HK;have mo:=br;have HB:=bt;have HK:=bA;clear br bt bA;clear hg hw hp_))
   go_ret
   exact ⟨by first|rfl|(simp [bB,bC]<;>rfl)|(simp only [← FB,← FC];first|rfl|(simp [bB,bC]<;>rfl))|(simp [*,bB,bC]<;>rfl),by (with_reducible repeat (first|apply Kd.aw|apply Kd.av|apply Kd.aA));exact mo.out,by repeat (first|(with_reducible first|exact HB.out|apply ae|apply ab|apply af)|exact HB.out),by repeat (first|(with_reducible first|exact HK.out|apply Kept.alloc|apply Kept.drewN|apply Kept.drew)|exact HK.out)⟩
  rw [if_neg c9] at H
  exact absurd H (by simp)
 rw [if_neg c8] at H
 exact absurd H (by simp)
def dM.l0:Nat→List Int→Int→Int→Option (List Int)
 |0,_,_,_=>none
 |k+1,x3,x8,x9=>if x9<x8 then (if 0≤x9 then (if x9<(x3.length:Int) then (dM.l0 k (x3.set (x9:Int).toNat x9) x8 (wrap64 (x9+1))) else (none)) else (none)) else (some x3)
def dM.f (k:Nat) (a0:Int):Option (List Int):=if 0≤a0 then (if (a0:Int).toNat≤35184372088832 then ((some (List.replicate (a0:Int).toNat 0:List Int)).bind fun oF=>(dM.l0 k oF (oF.length:Int) 0)) else (none)) else (none)
theorem dM.wI:∀ k,(∀ y0 y1 y2,pY (dM.l0 k y0 y1 y2) (dM.l0 (k+1) y0 y1 y2))
 |0=>fun _ _ _ r h=>by simp [dM.l0] at h
 |k+1=>by
  have Qg:=dM.wI k
  intro y0 y1 y2
  unfold dM.l0
  repeat' first
  |(with_reducible exact Qg _ _ _)
  |(with_reducible exact pY.refl _)
  |(with_reducible exact pY.none _)
  |(with_reducible refine pY.ite ?_ ?_)
  |(with_reducible refine pY.bind ?_ (fun _=> ?_))
  |exact Qg _ _ _
  |exact pY.none _
  |refine pY.ite ?_ ?_
  |refine pY.bind ?_ (fun _=> ?_)
set_option maxHeartbeats 8000000 in
set_option maxRecDepth 100000 in
theorem dM.calls (k:Nat) (a0:Int) (r:List Int) (w:World) (h:dM.f k a0=some r):
  Calls Try.prog 130 #[.int .i64 a0] w fun e w'=>∃ uo:Value,e= .returned (uo)∧Kd.R (Kd.int .i64) 3 w' w.heap.size (fun _=>True) uo r∧Below w.heap.size w w':=by
 have HB:=aa.mk (Below.refl w.heap.size w)
 have H:(if 0≤a0 then (if (a0:Int).toNat≤35184372088832 then ((some (List.replicate (a0:Int).toNat 0:List Int)).bind fun oF=>(dM.l0 k oF (oF.length:Int) 0)) else (none)) else (none))=some r:=h
 clear h
 by_cases c2:0≤a0
 ·rw [if_pos c2] at H
  have c2b0:=eq_true c2
  have c2b1:decide (0≤a0)=true:=decide_eq_true c2
  clear c2
  by_cases c3:(a0:Int).toNat≤35184372088832
  ·rw [if_pos c3] at H
   have c3b0:=eq_true c3
   have c3b1:decide ((a0:Int).toNat≤35184372088832)=true:=decide_eq_true c3
   clear c3
   obtain ⟨oF,wO⟩:∃ y_:List Int,y_=(List.replicate (a0:Int).toNat 0):=⟨_,rfl⟩
   replace H:(dM.l0 k oF (oF.length:Int) 0)=some r:=by first|(rw [wO];with_reducible exact H)|(have gT:=(Option.bind_some _ _).symm.trans H;rw [wO];with_reducible exact gT)|(have gT:=(Option.bind_some _ _).symm.trans H;with_reducible exact gT)|with_reducible exact H|(rw [wO];exact H)|exact H
   have Hf:=aa.mk wO
   clear wO
   have H':=aa.mk H
   clear H
   go_enter Try.func130,Try.ntmps130
   go_wp2_with (first|((with_reducible refine bF (N:=6) rfl ?_);refine Kd.p8 (Kd.int .i64) _ 3 rfl (N:=6) rfl 130 _ _ rfl a0 rfl rfl Try.underlying130 (.int .i64 0) 8 info3 rfl (by decide) (by omega) 0 (ok:=fun _=>True) (okp:=fun _=>True) rfl (fun _ hk=>hk) trivial (of_decide_eq_true (by assumption)) (Nat.le_trans (Nat.mul_le_mul_right _ (of_decide_eq_true (by assumption):a0.toNat≤35184372088832)) (by omega)) (Below.refl _ _) (Nat.le_refl _) ?_;intro abB w4 Ql hb hg_ hnew_;clear hg_ hnew_;(first|rw [← Hf.out] at Ql|(simp only [Int.reduceToNat] at Ql;rw [← Hf.out] at Ql));have br:=aa.mk (Kd.eH Ql (az (by repeat (first|(with_reducible first|exact HB.out|apply ae|apply ab|apply af)|exact HB.out))));have bt:=aa.mk (aE (by repeat (first|(with_reducible first|exact HB.out|apply ae|apply ab|apply af)|exact HB.out)) hb);clear HB;have Hg:=br;have HB:=bt;clear br bt;clear hb Ql;obtain ⟨Ao6,YP,YQ⟩:=Kd.cA Hg.out;subst YQ))
   go_loopg [9] k (fun kq v9 w'=>∃ (pN:List Int) (iz:Int),v9= .int .i64 iz∧aa (dM.l0 kq pN (oF.length:Int) iz=some r)∧aa (kq≤k)∧aa (Kd.R (Kd.int .i64) 3 w' w.heap.size (fun _=>True) (.slice Ao6 oF.length YP) pN)∧aa (Below w.heap.size w w'))
   case atStart=>exact ⟨(oF),(0),(by first|rfl|(simp;done)|(simp [*];done)),H',⟨Nat.le_refl _⟩,⟨by (with_reducible repeat (first|apply Kd.aw|apply Kd.av|apply Kd.aA));exact Hg.out⟩,⟨by repeat (first|(with_reducible first|exact HB.out|apply ae|apply ab|apply af)|exact HB.out)⟩⟩
   case round=>
    clear H'
    try clear c1
    try clear c2
    try clear c2b0
    try clear c2b1
    try clear p2
    try clear c3
    try clear c3b0
    try clear c3b1
    obtain ⟨pN,iz,rfl,HA,lw,HO_3,HB⟩:=hrel
    have fU:=(Kd.bf HO_3.out).1
    rw [fU] at HO_3
    (try simp only [fU])
    cases gk with
    |zero=>exact absurd HA.out (by simp [dM.l0])
    |succ k1=>
     have H:=HA.out
     clear HA
     simp only [dM.l0] at H
     by_cases c7:iz<(oF.length:Int)
     ·rw [if_pos c7] at H
      have c7b0:decide (iz<(oF.length:Int))=true:=decide_eq_true c7
      (try (have c7b0r:=c7b0;simp only [fU] at c7b0r))
      clear c7
      by_cases c8:0≤iz
      ·rw [if_pos c8] at H
       have c8b0:decide (0≤iz)=true:=decide_eq_true c8
       clear c8
       by_cases c9:iz<(pN.length:Int)
       ·rw [if_pos c9] at H
        have c9b0:decide (iz<(pN.length:Int))=true:=decide_eq_true c9
        (try (have c9b0r:=c9b0;simp only [fU] at c9b0r))
        clear c9
        obtain ⟨Hh,wP⟩:∃ y_:List Int,y_=(pN.set (iz:Int).toNat iz):=⟨_,rfl⟩
        replace H:(dM.l0 k1 Hh (oF.length:Int) (wrap64 (iz+1)))=some r:=by first|(rw [wP];with_reducible exact H)|(have gT:=(Option.bind_some _ _).symm.trans H;rw [wP];with_reducible exact gT)|(have gT:=(Option.bind_some _ _).symm.trans H;with_reducible exact gT)|with_reducible exact H|(rw [wP];exact H)|exact H
        have Nr:=aa.mk wP
        clear wP
        have H':=aa.mk H
        clear H
        have Nh:0≤(iz:Int):=of_decide_eq_true (by assumption)
        have Nk:(iz:Int)<((pN.length:Int):Int):=of_decide_eq_true (by assumption)
        obtain ⟨yU,Bf,sJ,Hd,Nl,YS,He⟩:=Kd.mP HO_3.out (by first|omega|(have hz_:=(Kd.bf HO_3.out).1;omega))
        (first|cases sJ|(injection sJ with ea_ en_ ec_;(first|subst ea_|(injection ea_ with ea_;subst ea_));subst ec_;clear en_))
        have Nm:=aa.mk Hd
        have YT:=aa.mk He
        clear Hd Nl He
        obtain ⟨Nn,Np⟩:=Kd.jq 0 HO_3.out (iz:Int) Nh Nk
        replace Nh:=eq_true Nh
        replace Nk:=eq_true Nk
        have CG:=Kd.l6 HO_3.out (iz:Int) iz
        go_wp2_with (first|((with_reducible refine iM (t:=3) (p:=15) rfl ?_);refine hU (t:=3) (p:=15) (v:= ?vo_w12) (w1:=(wr.setCell ⟨yU,(iz:Int).toNat,none⟩ (.int .i64 iz))) ?hg ?ho ?hn ?hr ?_;(case ho=>rfl);(case hg=>rfl);(case hn=>rfl);(case hr=>first|(go_simp;done)|(go_simp;rfl));intro yd hw;have hg:wr.grownBy yd (some yU):=(by rw [hw];exact CG.2);have hp_:Kd.R (Kd.int .i64) 3 yd w.heap.size (fun _=>True) (.slice (some ⟨yU,0,none⟩) pN.length YP) Hh:=(by rw [hw,Nr.out];exact CG.1);clear CG;have br:=aa.mk (hp_);have bt:=aa.mk ((by rw [hw];exact ai (HB.out) Nm.out:Below w.heap.size w yd));clear HO_3;clear HB;have HO_3:=br;have HB:=bt;clear br bt;clear hg hw hp_))
        (try simp only [← fU])
        go_roundg k1
        case measure=>have:=lw.out;omega
        case rel=>exact ⟨(Hh),(wrap64 (iz+1)),(by first|rfl|(simp;done)|(simp [*];done)),H',⟨by have:=lw.out;omega⟩,⟨by (try simp only [fU]);(with_reducible repeat (first|apply Kd.aw|apply Kd.av|apply Kd.aA));exact HO_3.out⟩,⟨by repeat (first|(with_reducible first|exact HB.out|apply ae|apply ab|apply af)|exact HB.out)⟩⟩
       rw [if_neg c9] at H
       exact absurd H (by simp)
      rw [if_neg c8] at H
      exact absurd H (by simp)
     rw [if_neg c7] at H
     have c7b0:decide (iz<(oF.length:Int))=false:=decide_eq_false c7
     (try (have c7b0r:=c7b0;simp only [fU] at c7b0r))
     clear c7
     obtain rfl:=Option.some.inj H
     go_wp2
     go_ret
     exact ⟨_,by first|rfl|(simp [bB,bC]<;>rfl)|(simp [*,bB,bC]<;>rfl),by (with_reducible repeat (first|apply Kd.aw|apply Kd.av|apply Kd.aA));exact HO_3.out,by repeat (first|(with_reducible first|exact HB.out|apply ae|apply ab|apply af)|exact HB.out)⟩
  rw [if_neg c3] at H
  exact absurd H (by simp)
 rw [if_neg c2] at H
 exact absurd H (by simp)
end Go.Proofs.Ytbkjplomoegbdaa.PB
end
section
namespace Go.Proofs.Ytbkjplomoegbdaa.UF
open Go.RowKit Go.Proofs.Ytbkjplomoegbdaa.PB Go.Proofs.YtbkjplomoegbdaaW.bO Go.Proofs.YtbkjplomoegbdaaW.dA Go.Proofs.YtbkjplomoegbdaaW.dG
def at_ (g:List Int) (i:Nat):Nat:=(g.getD i 0).toNat
def WF (g:List Int):Prop:=∀ i,i<g.length→0≤g.getD i 0∧g.getD i 0≤(i:Int)
theorem WF.le {g:List Int} (h:WF g) {i:Nat} (hi:i<g.length):at_ g i≤i:=by have:=h i hi;unfold at_;omega
theorem WF.eq {g:List Int} (h:WF g) {i:Nat} (hi:i<g.length):g.getD i 0=(at_ g i:Int):=by have:=h i hi;unfold at_;omega
def root (g:List Int) (i:Nat):Nat:=if _h:at_ g i<i then root g (at_ g i) else i
termination_by i
theorem DM (g:List Int) (i:Nat):root g i≤i:=by
  induction i using Nat.strongRecOn with
  |_ i ih=>
    rw [root]
    split
    · rename_i h;exact Nat.le_trans (ih _ h) (Nat.le_of_lt h)
    · exact Nat.le_refl _
theorem Bi {g:List Int} (h:WF g):∀ i,i<g.length→at_ g (root g i)=root g i:=by
  intro i
  induction i using Nat.strongRecOn with
  |_ i ih=>
    intro hi
    rw [root]
    split
    · rename_i hl;exact ih _ hl (by omega)
    · have:=h.le hi;omega
theorem om {g:List Int} (h:WF g) {i:Nat} (hi:i<g.length):root g (at_ g i)=root g i:=by
  by_cases hl:at_ g i<i
  · conv=>rhs;rw [root,dif_pos hl]
  · have:at_ g i=i:=by have:=h.le hi;omega
    rw [this]
theorem mq {g:List Int} {i:Nat} (h:at_ g i=i):root g i=i:=by rw [root,dif_neg (by omega)]
theorem Hi (g:List Int) (i j:Nat) (v:Int) (hi:i<g.length):at_ (g.set i v) j=if i=j then v.toNat else at_ g j:=by
  unfold at_
  simp only [List.getD_eq_getElem?_getD,List.getElem?_set]
  split
  · rfl
  · rfl
theorem WF.set {g:List Int} (h:WF g) {i v:Nat} (hi:i<g.length) (hv:v≤i):WF (g.set i (v:Int)):=by
  intro j hj
  have hj':j<g.length:=by simpa using hj
  have:=h j hj'
  simp only [List.getD_eq_getElem?_getD,List.getElem?_set] at this ⊢
  split
  · rename_i e;subst e;simp;omega
  · exact this
theorem wQ {g:List Int} (h:WF g) {i:Nat} (hi:i<g.length):∀ j,j<g.length→root (g.set i ((at_ g (at_ g i):Nat):Int)) j=root g j:=by
  have h1:=h.le hi
  have h2:=h.le (i:=at_ g i) (by omega)
  intro j
  induction j using Nat.strongRecOn with
  |_ j ih=>
    intro hj
    have hs:=h.le hj
    rw [root,Hi _ _ _ _ hi]
    by_cases e:i=j
    · subst e
      rw [if_pos rfl,Int.toNat_natCast]
      by_cases hl:at_ g i<i
      · rw [dif_pos (by omega),ih _ (by omega) (by omega),om h (by omega),om h hi]
      · have e1:at_ g i=i:=by omega
        rw [dif_neg (by rw [e1,e1];omega),mq e1]
    · rw [if_neg e]
      split
      · rename_i hl
        rw [ih _ hl (by omega),om h hj]
      · conv=>rhs;rw [root,dif_neg (by omega)]
theorem yV:∀ (i:Nat) (g:List Int),WF g→i<g.length→
    ∃ g',Ev (fun k=>bW.l0 k g (i:Int)) ((root g i:Nat),g')∧WF g'∧g'.length=g.length∧∀ j,j<g.length→root g' j=root g j:=by
  intro i
  induction i using Nat.strongRecOn with
  |_ i ih=>
    intro g h hi
    have h1:=h.le hi
    have e1:rd g (i:Int)=(at_ g i:Int):=by unfold rd;rw [Int.toNat_natCast];exact h.eq hi
    by_cases hl:at_ g i<i
    · have h2:=h.le (i:=at_ g i) (by omega)
      have e2:rd g (at_ g i:Int)=(at_ g (at_ g i):Int):=by unfold rd;rw [Int.toNat_natCast];exact h.eq (by omega)
      obtain ⟨g',hev,w,hl',hr⟩:=ih (at_ g (at_ g i)) (by omega) (g.set i ((at_ g (at_ g i):Nat):Int)) (h.set hi (by omega)) (by simp;omega)
      refine ⟨g', ?_,w,by simpa using hl',fun j hj=>by rw [hr j (by simpa using hj),wQ h hi j hj]⟩
      refine Ev.step (f:=fun k=>bW.l0 k (g.set i ((at_ g (at_ g i):Nat):Int)) ((at_ g (at_ g i):Nat):Int)) (fun k=> ?_) ?_
      · have e4:rd (g.set i ((at_ g (at_ g i):Nat):Int)) (i:Int)=((at_ g (at_ g i):Nat):Int):=by
          unfold rd;rw [Int.toNat_natCast];simp [List.getD_eq_getElem?_getD,hi]
        simp only [bW.l0]
        rw [if_pos (by omega),if_pos (by omega),if_neg (by rw [e1];omega),if_pos (by rw [e1];omega),if_pos (by rw [e1];omega),Option.bind_some,e1,e2,Int.toNat_natCast,e4]
      · have:root (g.set i ((at_ g (at_ g i):Nat):Int)) (at_ g (at_ g i))=root g i:=by
          rw [wQ h hi _ (by omega),om h (by omega),om h hi]
        rw [this] at hev
        exact hev
    · have e3:at_ g i=i:=by omega
      refine ⟨g, ?_,h,rfl,fun _ _=>rfl⟩
      rw [mq e3]
      refine Ev.of (k:=1) (fun k=>bW.wI k _ _) ?_
      simp only [bW.l0]
      rw [if_pos (by omega),if_pos (by omega),if_pos (by rw [e1];omega)]
theorem FD {g:List Int} (h:WF g) {a b:Nat} (_ha:a<g.length) (hb:b<g.length) (hab:a≤b) (fa:at_ g a=a) (fb:at_ g b=b):
    ∀ j,j<g.length→root (g.set b ((a:Nat):Int)) j=if root g j=b then a else root g j:=by
  intro j
  induction j using Nat.strongRecOn with
  |_ j ih=>
    intro hj
    have hs:=h.le hj
    rw [root,Hi _ _ _ _ hb]
    by_cases e:b=j
    · subst e
      rw [if_pos rfl,Int.toNat_natCast,mq fb,if_pos rfl]
      by_cases hl:a<b
      · rw [dif_pos hl,ih a hl (by omega),mq fa]
        split<;>rfl
      · rw [dif_neg hl];omega
    · rw [if_neg e]
      split
      · rename_i hl
        rw [ih _ hl (by omega),om h hj]
      · have e2:at_ g j=j:=by omega
        rw [mq e2,if_neg (fun h=>e h.symm)]
theorem Ns (a b:Nat):mx (a:Int) (b:Int)=((max a b:Nat):Int):=by unfold mx;split<;>omega
theorem Nt (a b:Nat):mn (a:Int) (b:Int)=((min a b:Nat):Int):=by unfold mn;split<;>omega
theorem tw (g:List Int) (h:WF g) (i k:Nat) (hi:i<g.length) (hk:k<g.length):
    ∃ g',Ev (fun n=>jO.f n g (i:Int) (k:Int)) ((root g i:Int) !=(root g k:Int),g')∧WF g'∧g'.length=g.length∧
      ∀ j,j<g.length→root g' j=if root g j=max (root g i) (root g k) then min (root g i) (root g k) else root g j:=by
  obtain ⟨g1,Nu,w1,l1,r1⟩:=yV i g h hi
  obtain ⟨g2,Qm,w2,l2,r2⟩:=yV k g1 w1 (by omega)
  have rr:∀ j,j<g.length→root g2 j=root g j:=fun j hj=>by rw [r2 j (by omega),r1 j hj]
  have li:=DM g i
  have lk:=DM g k
  have e1:=Bi w2 i (by omega)
  have e2:=Bi w2 k (by omega)
  rw [rr i hi] at e1
  rw [rr k hk] at e2
  have em:at_ g2 (max (root g i) (root g k))=max (root g i) (root g k):=by
    rcases Nat.le_total (root g i) (root g k) with c|c
    · rw [Nat.max_eq_right c];exact e2
    · rw [Nat.max_eq_left c];exact e1
  have en:at_ g2 (min (root g i) (root g k))=min (root g i) (root g k):=by
    rcases Nat.le_total (root g i) (root g k) with c|c
    · rw [Nat.min_eq_left c];exact e1
    · rw [Nat.min_eq_right c];exact e2
  refine ⟨g2.set (max (root g i) (root g k)) ((min (root g i) (root g k):Nat):Int), ?_,w2.set (by omega) (by omega),by simp;omega,fun j hj=> ?_⟩
  · have mh:root g1 k=root g k:=r1 k hk
    rw [mh] at Qm
    refine Ev.congr (f:=fun n=>(bW.l0 n g (i:Int)).bind fun x=>(bW.l0 n x.2 (k:Int)).bind fun y=>(if 0≤(mx x.1 y.1) then (if (mx x.1 y.1)<(g.length:Int) then (some ((x.1 !=y.1),(y.2.set ((mx x.1 y.1):Int).toNat (mn x.1 y.1)))) else (none)) else (none))) (fun n=>rfl) ?_
    refine Ev.bind Nu (Ev.bind Qm ?_)
    simp only [Ns,Nt]
    rw [if_pos (by omega),if_pos (by omega),Int.toNat_natCast]
    exact Ev.now _
  · rw [FD w2 (a:=min (root g i) (root g k)) (b:=max (root g i) (root g k)) (by omega) (by omega) (by omega) en em j (by omega),rr j hj]
def Bj (n:Nat):List Int:=(List.range n).map (fun (i:Nat)=>(i:Int))
theorem tz (n i:Nat) (h:i<n):(Bj n).getD i 0=(i:Int):=by
  unfold Bj
  simp [List.getD_eq_getElem?_getD,h]
theorem mU (n:Nat):(Bj n).length=n:=by simp [Bj]
theorem Nv (n:Nat):WF (Bj n):=by
  intro i hi
  rw [mU] at hi
  rw [tz n i hi]
  omega
theorem Hj (n i:Nat) (h:i<n):root (Bj n) i=i:=mq (by unfold at_;rw [tz n i h];simp)
theorem Hk (n:Nat) (hn:n≤35184372088832):∀ (d i:Nat) (x:List Int),i+d=n→x.length=n→(∀ j,j<i→x.getD j 0=(j:Int))→
    Ev (fun k=>dM.l0 k x (n:Int) (i:Int)) (Bj n):=by
  intro d
  induction d with
  |zero=>
    intro i x hi hx hj
    refine Ev.of (k:=1) (fun k=>dM.wI k _ _ _) ?_
    simp only [dM.l0]
    rw [if_neg (by omega)]
    congr 1
    refine List.ext_getElem (by rw [hx,mU]) fun j h1 h2=> ?_
    have:=hj j (by omega)
    simp [List.getD_eq_getElem?_getD,h1] at this
    rw [this]
    simp [Bj]
  |succ d ih=>
    intro i x hi hx hj
    refine Ev.step (f:=fun k=>dM.l0 k (x.set i (i:Int)) (n:Int) ((i+1:Nat):Int)) (fun k=> ?_) (ih (i+1) _ (by omega) (by simpa using hx) ?_)
    · simp only [dM.l0]
      rw [if_pos (by omega),if_pos (by omega),if_pos (by omega),Int.toNat_natCast]
      congr 1
      unfold wrap64
      omega
    · intro j hj'
      simp only [List.getD_eq_getElem?_getD,List.getElem?_set]
      split
      · rename_i e;subst e;rw [if_pos (by omega)];rfl
      · have:=hj j (by omega)
        simpa [List.getD_eq_getElem?_getD] using this
theorem Hl (n:Nat) (hn:n≤35184372088832):Ev (fun k=>dM.f k (n:Int)) (Bj n):=by
  refine Ev.congr (f:=fun k=>dM.l0 k (List.replicate n 0) (n:Int) 0) (fun k=> ?_) (Hk n hn n 0 _ (by omega) (by simp) (fun j hj=>by omega))
  unfold dM.f
  rw [if_pos (by omega),if_pos (by omega),Int.toNat_natCast]
  simp
end Go.Proofs.Ytbkjplomoegbdaa.UF
end
section
namespace Go.Proofs.Ytbkjplomoegbdaa.PB
open Go.RowKit Go.Proofs.YtbkjplomoegbdaaW.bO Go.Proofs.YtbkjplomoegbdaaW.dA Go.Proofs.YtbkjplomoegbdaaW.dG
attribute [local go_sem] iQ iR jM jN gW gX iS iT
set_option linter.unusedVariables false
set_option linter.unusedSimpArgs false
def cH.l0:Nat→List Int→Int→Int→Int→Option (Int)
 |0,_,_,_,_=>none
 |k+1,x0,x1,x7,x8=>if x8<x7 then (if 0≤x8 then (if x8<(x0.length:Int) then (if x1=(rd x0 x8) then (some x8) else (cH.l0 k x0 x1 x7 (wrap64 (x8+1)))) else (none)) else (none)) else (some (-1))
def cH.f (k:Nat) (l0:List Int) (a1:Int):Option (Int):=cH.l0 k l0 a1 (l0.length:Int) 0
set_option maxHeartbeats 8000000 in
set_option maxRecDepth 100000 in
theorem cH.calls (k:Nat) (A0:Option Addr) (c0:Nat) (l0:List Int) (a1:Int) (r:Int) (w:World) (hr0:Kd.C (Kd.int .i64) w A0 l0.length l0) (hc0:l0.length≤c0) (h:cH.f k l0 a1=some r):
  Calls Try.prog 108 #[.slice A0 l0.length c0,.int .i64 a1] w fun e w'=>e= .returned (.int .i64 r)∧dD w w':=by
 have xJ:=aa.mk hr0
 have Fu:=aa.mk hc0
 clear hr0 hc0
 have H:(cH.l0 k l0 a1 (l0.length:Int) 0)=some r:=h
 clear h
 have H':=aa.mk H
 clear H
 go_enter Try.func108,Try.ntmps108
 go_wp2
 go_loopg [8] k (fun kq v8 w'=>∃ (mV:Int),v8= .int .i64 mV∧aa (cH.l0 kq l0 a1 (l0.length:Int) mV=some r)∧aa (kq≤k)∧dD w w')
 case atStart=>exact ⟨(0),(by first|rfl|(simp;done)|(simp [*];done)),H',⟨Nat.le_refl _⟩,by repeat (first|exact dD.refl _|apply dD.step)⟩
 case round=>
  clear H'
  try clear c1
  try clear p2
  obtain ⟨mV,rfl,HA,lw,⟨m1,rfl⟩⟩:=hrel
  cases gk with
  |zero=>exact absurd HA.out (by simp [cH.l0])
  |succ k1=>
   have H:=HA.out
   clear HA
   simp only [cH.l0] at H
   by_cases c3:mV<(l0.length:Int)
   ·rw [if_pos c3] at H
    have c3b0:decide (mV<(l0.length:Int))=true:=decide_eq_true c3
    clear c3
    by_cases c4:0≤mV
    ·rw [if_pos c4] at H
     have c4b0:decide (0≤mV)=true:=decide_eq_true c4
     clear c4
     by_cases c5:mV<(l0.length:Int)
     ·rw [if_pos c5] at H
      have c5b0:decide (mV<(l0.length:Int))=true:=decide_eq_true c5
      clear c5
      by_cases c6:a1=(rd l0 mV)
      ·rw [if_pos c6] at H
       have c6b0:(a1==(rd l0 mV))=true:=beq_iff_eq.mpr c6
       have c6b1:(a1 !=(rd l0 mV))=false:=bne_eq_false_iff_eq.mpr c6
       clear c6
       obtain rfl:=Option.some.inj H
       have CH:0≤(mV:Int):=of_decide_eq_true (by assumption)
       have CJ:mV<(l0.length:Int):=of_decide_eq_true (by assumption)
       obtain ⟨Qn,Nw,JI⟩:=Kd.dN xJ.out mV CH CJ
       cases Nw
       replace CH:=eq_true CH
       replace CJ:=eq_true CJ
       go_wp2
       go_ret
       exact ⟨by first|rfl|(simp;done)|(simp [*];done),by repeat (first|exact dD.refl _|apply dD.step)⟩
      rw [if_neg c6] at H
      have c6b0:(a1==(rd l0 mV))=false:=beq_eq_false_iff_ne.mpr c6
      have c6b1:(a1 !=(rd l0 mV))=true:=bne_iff_ne.mpr c6
      have H':=aa.mk H
      clear H
      have CH:0≤(mV:Int):=of_decide_eq_true (by assumption)
      have CJ:mV<(l0.length:Int):=of_decide_eq_true (by assumption)
      obtain ⟨Qn,Nw,JI⟩:=Kd.dN xJ.out mV CH CJ
      cases Nw
      replace CH:=eq_true CH
      replace CJ:=eq_true CJ
      go_wp2
      go_roundg k1
      case measure=>have:=lw.out;omega
      case rel=>exact ⟨(wrap64 (mV+1)),(by first|rfl|(simp;done)|(simp [*];done)),H',⟨by have:=lw.out;omega⟩,by repeat (first|exact dD.refl _|apply dD.step)⟩
     rw [if_neg c5] at H
     exact absurd H (by simp)
    rw [if_neg c4] at H
    exact absurd H (by simp)
   rw [if_neg c3] at H
   have c3b0:decide (mV<(l0.length:Int))=false:=decide_eq_false c3
   clear c3
   obtain rfl:=Option.some.inj H
   go_wp2
   go_ret
   exact ⟨by first|rfl|(simp;done)|(simp [*];done),by repeat (first|exact dD.refl _|apply dD.step)⟩
end Go.Proofs.Ytbkjplomoegbdaa.PB
end
