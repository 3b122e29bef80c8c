/- Parts of the proof of CyclesSums, gathered by a program of this claim out of texts that it or the kit's print wrote: lemmas alone, no condition of their own. -/
import Derived.Test.YtbkjplomoegbdaaCcs15
namespace Go.Proofs.Ytbkjplomoegbdaa.PB
open Go.RowKit Go.Proofs.YtbkjplomoegbdaaW.bO Go.Proofs.YtbkjplomoegbdaaW.dA Go.Proofs.YtbkjplomoegbdaaW.dG
attribute [local go_sem] iQ iR jM jN gW gX iS iT
set_option linter.unusedVariables false
set_option linter.unusedSimpArgs false
def aV.l0:Nat→List Int→List (oW)→Int→Int→List (hO)→List (eu)→Option ((List (oW)) × Int)
 |0,_,_,_,_,_,_=>none
 |k+1,x1,x6,x7,zA,zB,rU=>if x7<(rU.length:Int) then ((cP.f k x1 x7).bind fun KF=>(if KF=true then (aV.l0 k x1 x6 (wrap64 (x7+1)) zA zB rU) else (if 0≤x7 then ((fk.f zA zB rU x1 ((aC rU x7).f2) ((aC rU x7).f1)).bind fun pw=>((some (([x7]:List Int):List Int)).bind fun q8=>(if q8.length+pw.1.length<17592186044416 then ((some (([1]:List Int):List Int)).bind fun oN=>(if oN.length+pw.2.1.length<17592186044416 then (if x6.length<2932031007402 then (aV.l0 k x1 (x6++[(⟨(q8++pw.1),(oN++pw.2.1)⟩:oW)]) (wrap64 (x7+1)) zA zB rU) else (none)) else (none))) else (none)))) else (none)))) else (some (x6,0))
def aV.f (k:Nat) (aI:Int) (aD:List (hO)) (au:List (eu)) (l1:List Int):Option ((List (oW)) × Int):=(gp.f aI aD au l1).bind fun FY=>(if FY=true then (aV.l0 k l1 ([]:List (oW)) 0 aI aD au) else (some (([]:List (oW)),1)))
def aV.T8:Bool × List (List Nat × List Nat):=(true,[([],[]),([],[]),([],[]),([2],[2]),([],[]),([3,4],[3,4]),([5],[5]),([6],[6]),([],[]),([8],[8]),([],[]),([9,10],[9,10]),([11],[11]),([12],[12]),([0,1,7,13],[0,1,7,13]),([14],[14]),([15],[15]),([15],[15]),([15],[15]),([16,14,0,1,2,3,4,5,6,7,8,9,10,11,12,13,14,15,16],[16]),([17,19,0,1,2,3,4,5,6,7,8,9,10,11,12,13,14,15,16,17,19],[17]),([18,20,0,1,2,3,4,5,6,7,8,9,10,11,12,13,14,15,16,17,18,19,20],[18])])
def aV.B8:List Nat:=[0,0,0,4,0,28,60,124,0,256,0,1792,3840,7936,16383,32767,65535,65535,65535,131071,786431,2097151]
theorem aV.ZJ:jX .any (opsOf Try.f45 8)=aV.T8:=by kernel_rfl
theorem aV.Q2:gU aV.T8.2 aV.B8=true:=by kernel_rfl
set_option maxHeartbeats 8000000 in
set_option maxRecDepth 100000 in
theorem aV.calls (k:Nat) (aI:Int) (bh:Option Addr) (bi:Nat) (aD:List (hO)) (bu:Option Addr) (aW:Nat) (au:List (eu)) (A1:Option Addr) (c1:Nat) (l1:List Int) (r1:List (oW)) (r2:Int) (w:World) (eI:Kd.C oS w bh aD.length aD) (eS:aD.length≤bi) (eC:Kd.C nD w bu au.length au) (eT:au.length≤aW) (mh:Kd.C (Kd.int .i64) w A1 l1.length l1) (oA:l1.length≤c1) (h:aV.f k aI aD au l1=some (r1,r2)):
  Calls Try.prog 45 #[.agg #[.int .i64 aI,.slice bh aD.length bi,.slice bu au.length aW],.slice A1 l1.length c1] w fun e w'=>∃ uo:Value,e= .returned (.tuple #[uo,.int .i64 r2])∧Kd.S Ji 41 w' w.heap.size (fun _=>True) uo r1∧Below w.heap.size w w':=by
 have nu:=Try.underlying26
 have Bu:=Try.underlying41
 have fA:=aa.mk eI
 have fB:=aa.mk eS
 clear eI eS
 have ez:=aa.mk eC
 have fC:=aa.mk eT
 clear eC eT
 have lA:=aa.mk mh
 have pK:=aa.mk oA
 clear mh oA
 have HB:=aa.mk (Below.refl w.heap.size w)
 have H:((gp.f aI aD au l1).bind fun FY=>(if FY=true then (aV.l0 k l1 ([]:List (oW)) 0 aI aD au) else (some (([]:List (oW)),1))))=some (r1,r2):=h
 clear h
 replace H:=Option.bind_eq_some_iff.mp H
 obtain ⟨FY,AB,H⟩:=H
 replace H:(if FY=true then (aV.l0 k l1 ([]:List (oW)) 0 aI aD au) else (some (([]:List (oW)),1)))=some (r1,r2):=H
 have A3:=aa.mk AB
 clear AB
 by_cases c4:FY=true
 ·subst c4
  have H1:(aV.l0 k l1 ([]:List (oW)) 0 aI aD au)=some (r1,r2):=by rw [if_pos rfl] at H;exact H
  clear H
  have H:=H1
  clear H1
  have H':=aa.mk H
  clear H
  go_enter Try.func45,Try.ntmps45
  go_wp2_with (first|((with_reducible refine bF (N:=2) rfl ?_);refine bH ?hg (N:=2) ?hd (cs:=#[.int .i64 aI,.slice bh aD.length bi,.slice bu au.length aW]) (t:=26) ?hr ?_;(case hd=>rfl);(case hg=>rfl);(case hr=>first|(go_simp;done)|(go_simp;rfl));intro iW hg w5 hbox hb;have br:=aa.mk (aE (by repeat (first|(with_reducible first|exact HB.out|apply ae|apply ab|apply af)|exact HB.out)) hb);have bt:=aa.mk (hbox);have bA:=aa.mk ((by rw [hg];exact (az (by repeat (first|(with_reducible first|exact HB.out|apply ae|apply ab|apply af)|exact HB.out))):w.heap.size≤iW));have bK:=aa.mk ((by rw [hg];exact (az (by repeat (first|(with_reducible first|exact HB.out|apply ae|apply ab|apply af)|exact HB.out))):w.heap.size≤iW));clear HB;have HB:=br;have ep:=bt;have Q3:=bA;have lp:=bK;clear br bt bA bK;clear hb hbox hg;have xg:w5.cell? ⟨iW,0,none⟩=some (.int .i64 aI):=(ag ep.out 0).trans rfl;have xh:w5.cell? ⟨iW,1,none⟩=some (.slice bh aD.length bi):=(ag ep.out 1).trans rfl;have xj:w5.cell? ⟨iW,2,none⟩=some (.slice bu au.length aW):=(ag ep.out 2).trans rfl;have xk:=ah ep.out 0;have xl:=ah ep.out 1;have xm:=ah ep.out 2)|((with_reducible refine bY (f:=52) rfl ?_);refine er (some 13) rfl rfl Try.func52 (by kernel_rfl) rfl #[.agg #[.int .i64 aI,.slice bh aD.length bi,.slice bu au.length aW],.slice A1 l1.length c1] rfl (by (try simp only [List.map_toArray,List.map_cons,List.map_nil]);first|done|rfl|(simp only [List.length_drop,List.length_take];rfl)) ?_;(with_reducible refine (gp.calls aI _ _ aD _ _ au _ _ l1 true _ ?bS ?bT ?cJ ?cN ?du ?dw A3.out).mono ?_);(case bS=>repeat (first|exact (Kd.aN fA.out HB.out)|(with_reducible refine Kd.aT ?_ _)|(with_reducible refine Kd.aU ?_ _)|(with_reducible refine Kd.bk ?_)));(case bT=>exact fB.out);(case cJ=>repeat (first|exact (Kd.aN ez.out HB.out)|(with_reducible refine Kd.aT ?_ _)|(with_reducible refine Kd.aU ?_ _)|(with_reducible refine Kd.bk ?_)));(case cN=>exact fC.out);(case du=>repeat (first|exact (Kd.aN lA.out HB.out)|(with_reducible refine Kd.aT ?_ _)|(with_reducible refine Kd.aU ?_ _)|(with_reducible refine Kd.bk ?_)));(case dw=>exact pK.out);rintro e w7 ⟨rfl,hb⟩;refine ⟨_,rfl, ?_⟩;have br:=aa.mk (aH (g:=iW) (o:= .cells #[.int .i64 aI,.slice bh aD.length bi,.slice bu au.length aW] 26 (0,0)) (by (with_reducible repeat (first|refine ak ?_ _|refine aq ?_|refine aj ?_ _));exact ep.out) hb);have bt:=aa.mk (aE (by repeat (first|(with_reducible first|exact HB.out|apply ae|apply ab|apply af|refine ai ?_ lp.out)|exact HB.out)) hb);clear ep;clear HB;have ep:=br;have HB:=bt;clear br bt;(try clear hb);(try clear hb2);(try clear hk);(try clear hi)))
  go_loopg [6,7] k (fun kq v6 v7 w'=>∃ (iq:List (oW)) (dY:Int),v7= .int .i64 dY∧aa (aV.l0 kq l1 iq dY aI aD au=some (r1,r2))∧aa (kq≤k)∧aa (Kd.S Ji 41 w' w.heap.size (fun _=>True) v6 iq)∧aa (w'.heap[iW]? =some (.cells #[.int .i64 aI,(.slice bh aD.length bi),(.slice bu au.length aW)] 26 (0,0)))∧aa (Below w.heap.size w w'))
  case atStart=>exact ⟨(([]:List (oW))),(0),(by first|rfl|(simp;done)|(simp [*];done)),H',⟨Nat.le_refl _⟩,⟨by first|exact Kd.sy _ _ _ _ _|exact Kd.sA _ _ _ _ _|exact Kd.sB _ _ _ _ _|exact Kd.sr _ _ _ _ _|exact Kd.jE _ _ _ _ _⟩,⟨by (with_reducible repeat (first|refine ak ?_ _|refine aq ?_|refine aj ?_ _));exact ep.out⟩,⟨by repeat (first|(with_reducible first|exact HB.out|apply ae|apply ab|apply af|refine ai ?_ lp.out)|exact HB.out)⟩⟩
  case round=>
   clear H'
   try clear c1
   try clear p2
   try clear c4
   try clear c5
   try clear xg
   try clear xh
   try clear xj
   try clear xk
   try clear xl
   try clear xm
   obtain ⟨iq,dY,rfl,HA,lw,HO_6,ep,HB⟩:=hrel
   cases gk with
   |zero=>exact absurd HA.out (by simp [aV.l0])
   |succ k1=>
    have H:=HA.out
    clear HA
    simp only [aV.l0] at H
    by_cases c8:dY<(au.length:Int)
    ·rw [if_pos c8] at H
     have c8b0:decide (dY<(au.length:Int))=true:=decide_eq_true c8
     clear c8
     replace H:=Option.bind_eq_some_iff.mp H
     obtain ⟨KF,Q4,H⟩:=H
     replace H:(if KF=true then (aV.l0 k1 l1 iq (wrap64 (dY+1)) aI aD au) else (if 0≤dY then ((fk.f aI aD au l1 ((aC au dY).f2) ((aC au dY).f1)).bind fun pw=>((some (([dY]:List Int):List Int)).bind fun q8=>(if q8.length+pw.1.length<17592186044416 then ((some (([1]:List Int):List Int)).bind fun oN=>(if oN.length+pw.2.1.length<17592186044416 then (if iq.length<2932031007402 then (aV.l0 k1 l1 (iq++[(⟨(q8++pw.1),(oN++pw.2.1)⟩:oW)]) (wrap64 (dY+1)) aI aD au) else (none)) else (none))) else (none)))) else (none)))=some (r1,r2):=H
     have A9:=aa.mk Q4
     clear Q4
     by_cases uq:KF=true
     ·subst uq
      have H1:(aV.l0 k1 l1 iq (wrap64 (dY+1)) aI aD au)=some (r1,r2):=by rw [if_pos rfl] at H;exact H
      clear H
      have H:=H1
      clear H1
      have H':=aa.mk H
      clear H
      have kT:wr.cell? ⟨iW,0,none⟩=some (.int .i64 aI):=(ag ep.out 0).trans rfl
      have kU:wr.cell? ⟨iW,1,none⟩=some (.slice bh aD.length bi):=(ag ep.out 1).trans rfl
      have kV:wr.cell? ⟨iW,2,none⟩=some (.slice bu au.length aW):=(ag ep.out 2).trans rfl
      have kW:=ah ep.out 0
      have kX:=ah ep.out 1
      have kY:=ah ep.out 2
      go_wp2_with (first|((with_reducible refine bY (f:=96) rfl ?_);refine er (some 24) rfl rfl Try.func96 (by kernel_rfl) rfl #[.slice A1 l1.length c1,.int .i64 dY] rfl (by (try simp only [List.map_toArray,List.map_cons,List.map_nil]);first|done|rfl|(simp only [List.length_drop,List.length_take];rfl)) ?_;(with_reducible refine (cP.calls k1 _ _ l1 dY true _ ?bS ?bT A9.out).mono ?_);(case bS=>repeat (first|exact (Kd.aN lA.out HB.out)|(with_reducible refine Kd.aT ?_ _)|(with_reducible refine Kd.aU ?_ _)|(with_reducible refine Kd.bk ?_)));(case bT=>exact pK.out);rintro e w' ⟨rfl,⟨nd,rfl⟩⟩;refine ⟨_,rfl, ?_⟩))
      go_roundg k1
      case measure=>have:=lw.out;omega
      case rel=>exact ⟨(iq),(wrap64 (dY+1)),(by first|rfl|(simp;done)|(simp [*];done)),H',⟨by have:=lw.out;omega⟩,⟨by (with_reducible repeat (first|apply Kd.lQ|apply Kd.lR|apply Kd.mQ));exact HO_6.out⟩,⟨by (with_reducible repeat (first|refine ak ?_ _|refine aq ?_|refine aj ?_ _));exact ep.out⟩,⟨by repeat (first|(with_reducible first|exact HB.out|apply ae|apply ab|apply af|refine ai ?_ lp.out)|exact HB.out)⟩⟩
     replace uq:=Bool.eq_false_iff.mpr uq
     subst uq
     have H1:(if 0≤dY then ((fk.f aI aD au l1 ((aC au dY).f2) ((aC au dY).f1)).bind fun pw=>((some (([dY]:List Int):List Int)).bind fun q8=>(if q8.length+pw.1.length<17592186044416 then ((some (([1]:List Int):List Int)).bind fun oN=>(if oN.length+pw.2.1.length<17592186044416 then (if iq.length<2932031007402 then (aV.l0 k1 l1 (iq++[(⟨(q8++pw.1),(oN++pw.2.1)⟩:oW)]) (wrap64 (dY+1)) aI aD au) else (none)) else (none))) else (none)))) else (none))=some (r1,r2):=by rw [if_neg (show ¬(false=true) by decide)] at H;exact H
     clear H
     have H:=H1
     clear H1
     by_cases sZ:0≤dY
     ·rw [if_pos sZ] at H
      have c12b0:decide (0≤dY)=true:=decide_eq_true sZ
      clear sZ
      replace H:=Option.bind_eq_some_iff.mp H
      obtain ⟨⟨pT,oO,ZK⟩,HU,H⟩:=H
      replace H:((some (([dY]:List Int):List Int)).bind fun q8=>(if q8.length+pT.length<17592186044416 then ((some (([1]:List Int):List Int)).bind fun oN=>(if oN.length+oO.length<17592186044416 then (if iq.length<2932031007402 then (aV.l0 k1 l1 (iq++[(⟨(q8++pT),(oN++oO)⟩:oW)]) (wrap64 (dY+1)) aI aD au) else (none)) else (none))) else (none)))=some (r1,r2):=H
      have HV:=aa.mk HU
      clear HU
      obtain ⟨q8,BH⟩:∃ y_:List Int,y_=(([dY]:List Int)):=⟨_,rfl⟩
      replace H:(if q8.length+pT.length<17592186044416 then ((some (([1]:List Int):List Int)).bind fun oN=>(if oN.length+oO.length<17592186044416 then (if iq.length<2932031007402 then (aV.l0 k1 l1 (iq++[(⟨(q8++pT),(oN++oO)⟩:oW)]) (wrap64 (dY+1)) aI aD au) else (none)) else (none))) else (none))=some (r1,r2):=by first|(rw [BH];with_reducible exact H)|(have gT:=(Option.bind_some _ _).symm.trans H;rw [BH];with_reducible exact gT)|(have gT:=(Option.bind_some _ _).symm.trans H;with_reducible exact gT)|with_reducible exact H|(rw [BH];exact H)|exact H
      have L4:=aa.mk BH
      clear BH
      by_cases rR:q8.length+pT.length<17592186044416
      ·rw [if_pos rR] at H
       have Q5:=aa.mk rR
       clear rR
       obtain ⟨BI,BJ⟩:∃ y_:List Int,y_=(q8++pT):=⟨_,rfl⟩
       replace H:((some (([1]:List Int):List Int)).bind fun oN=>(if oN.length+oO.length<17592186044416 then (if iq.length<2932031007402 then (aV.l0 k1 l1 (iq++[(⟨BI,(oN++oO)⟩:oW)]) (wrap64 (dY+1)) aI aD au) else (none)) else (none)))=some (r1,r2):=by first|(rw [BJ];with_reducible exact H)|(have gT:=(Option.bind_some _ _).symm.trans H;rw [BJ];with_reducible exact gT)|(have gT:=(Option.bind_some _ _).symm.trans H;with_reducible exact gT)|with_reducible exact H|(rw [BJ];exact H)|exact H
       have Q6:=aa.mk BJ
       clear BJ
       obtain ⟨oN,BK⟩:∃ y_:List Int,y_=(([1]:List Int)):=⟨_,rfl⟩
       replace H:(if oN.length+oO.length<17592186044416 then (if iq.length<2932031007402 then (aV.l0 k1 l1 (iq++[(⟨BI,(oN++oO)⟩:oW)]) (wrap64 (dY+1)) aI aD au) else (none)) else (none))=some (r1,r2):=by first|(rw [BK];with_reducible exact H)|(have gT:=(Option.bind_some _ _).symm.trans H;rw [BK];with_reducible exact gT)|(have gT:=(Option.bind_some _ _).symm.trans H;with_reducible exact gT)|with_reducible exact H|(rw [BK];exact H)|exact H
       have L5:=aa.mk BK
       clear BK
       by_cases uu:oN.length+oO.length<17592186044416
       ·rw [if_pos uu] at H
        have Q7:=aa.mk uu
        clear uu
        obtain ⟨FZ,BL⟩:∃ y_:List Int,y_=(oN++oO):=⟨_,rfl⟩
        replace H:(if iq.length<2932031007402 then (aV.l0 k1 l1 (iq++[(⟨BI,FZ⟩:oW)]) (wrap64 (dY+1)) aI aD au) else (none))=some (r1,r2):=by first|(rw [BL];with_reducible exact H)|(have gT:=(Option.bind_some _ _).symm.trans H;rw [BL];with_reducible exact gT)|(have gT:=(Option.bind_some _ _).symm.trans H;with_reducible exact gT)|with_reducible exact H|(rw [BL];exact H)|exact H
        have Q8:=aa.mk BL
        clear BL
        by_cases sI:iq.length<2932031007402
        ·rw [if_pos sI] at H
         have Q9:=aa.mk sI
         clear sI
         obtain ⟨Ra,BM⟩:∃ y_:List (oW),y_=(iq++[(⟨BI,FZ⟩:oW)]):=⟨_,rfl⟩
         replace H:(aV.l0 k1 l1 Ra (wrap64 (dY+1)) aI aD au)=some (r1,r2):=by first|(rw [BM];with_reducible exact H)|(have gT:=(Option.bind_some _ _).symm.trans H;rw [BM];with_reducible exact gT)|(have gT:=(Option.bind_some _ _).symm.trans H;with_reducible exact gT)|with_reducible exact H|(rw [BM];exact H)|exact H
         have Rb:=aa.mk BM
         clear BM
         have H':=aa.mk H
         clear H
         have KG:wr.cell? ⟨iW,0,none⟩=some (.int .i64 aI):=(ag ep.out 0).trans rfl
         have KH:wr.cell? ⟨iW,1,none⟩=some (.slice bh aD.length bi):=(ag ep.out 1).trans rfl
         have KJ:wr.cell? ⟨iW,2,none⟩=some (.slice bu au.length aW):=(ag ep.out 2).trans rfl
         have KK:=ah ep.out 0
         have KL:=ah ep.out 1
         have KM:=ah ep.out 2
         try go_wp2_with (first|((with_reducible refine bY (f:=96) rfl ?_);refine er (some 24) rfl rfl Try.func96 (by kernel_rfl) rfl #[.slice A1 l1.length c1,.int .i64 dY] rfl (by (try simp only [List.map_toArray,List.map_cons,List.map_nil]);first|done|rfl|(simp only [List.length_drop,List.length_take];rfl)) ?_;(with_reducible refine (cP.calls k1 _ _ l1 dY false _ ?bS ?bT A9.out).mono ?_);(case bS=>repeat (first|exact (Kd.aN lA.out HB.out)|(with_reducible refine Kd.aT ?_ _)|(with_reducible refine Kd.aU ?_ _)|(with_reducible refine Kd.bk ?_)));(case bT=>exact pK.out);rintro e w' ⟨rfl,⟨nd,rfl⟩⟩;refine ⟨_,rfl, ?_⟩))
         (try (rw [mR wr];generalize hq_:World.drewN wr _=wr;have br:aa (Kd.S Ji 41 wr w.heap.size (fun _=>True) u6 iq):=⟨by rw [← hq_];exact (by (with_reducible repeat (first|apply Kd.lQ|apply Kd.lR|apply Kd.mQ));exact HO_6.out)⟩;have bt:aa (wr.heap[iW]? =some (.cells #[.int .i64 aI,.slice bh aD.length bi,.slice bu au.length aW] 26 (0,0))):=⟨by rw [← hq_];exact (by (with_reducible repeat (first|refine ak ?_ _|refine aq ?_|refine aj ?_ _));exact ep.out)⟩;have bA:aa (Below w.heap.size w wr):=⟨by rw [← hq_];exact (by repeat (first|(with_reducible first|exact HB.out|apply ae|apply ab|apply af|refine ai ?_ lp.out)|exact HB.out))⟩;clear HO_6 ep HB hq_;have HO_6:=br;have ep:=bt;have HB:=bA;clear br bt bA))
         have br:=aa.mk (Kd.mQ HO_6.out)
         have bt:=aa.mk (aq ep.out)
         have bA:=aa.mk (af HB.out)
         clear HO_6 ep HB
         have HO_6:=br;have ep:=bt;have HB:=bA
         clear br bt bA
         have NU:0≤(dY:Int):=of_decide_eq_true (by assumption)
         have NV:dY<(au.length:Int):=of_decide_eq_true (by assumption)
         obtain ⟨jn,ZL,tH,tI,tJ,tK,tL,tM⟩:=i9 ez.out dY NU NV
         have vL:=tM
         have vM:=tL
         have vN:=tK
         have vO:=tJ
         have vP:=tI
         have vQ:=tH
         cases ZL
         replace tH:=(HB.out.cell (World.block_lt_of_cell? w _ tH)).trans tH
         replace tI:=(HB.out.cell (World.block_lt_of_cell? w _ tI)).trans tI
         replace tJ:=(HB.out.cell (World.block_lt_of_cell? w _ tJ)).trans tJ
         replace tK:=(HB.out.cell (World.block_lt_of_cell? w _ tK)).trans tK
         replace tL:=(HB.out.cell (World.block_lt_of_cell? w _ tL)).trans tL
         replace tM:=(HB.out.cell (World.block_lt_of_cell? w _ tM)).trans tM
         replace NU:=eq_true NU
         replace NV:=eq_true NV
         have NW:0≤(dY:Int):=of_decide_eq_true (by assumption)
         have NX:dY<(au.length:Int):=of_decide_eq_true (by assumption)
         obtain ⟨Rc,ZM,tN,tO,tP,tQ,tR,tS⟩:=i9 ez.out dY NW NX
         have vR:=tS
         have vS:=tR
         have vT:=tQ
         have vU:=tP
         have vV:=tO
         have vW:=tN
         obtain rfl:jn=Rc:=(by injection ZM)
         replace tN:=(HB.out.cell (World.block_lt_of_cell? w _ tN)).trans tN
         replace tO:=(HB.out.cell (World.block_lt_of_cell? w _ tO)).trans tO
         replace tP:=(HB.out.cell (World.block_lt_of_cell? w _ tP)).trans tP
         replace tQ:=(HB.out.cell (World.block_lt_of_cell? w _ tQ)).trans tQ
         replace tR:=(HB.out.cell (World.block_lt_of_cell? w _ tR)).trans tR
         replace tS:=(HB.out.cell (World.block_lt_of_cell? w _ tS)).trans tS
         replace NW:=eq_true NW
         replace NX:=eq_true NX
         refine ju (n:=22) (S:=fun w'=>w'.cell? ⟨iW,0,none⟩=some (.int .i64 aI)∧w'.cell? ⟨iW,1,none⟩=some (.slice bh aD.length bi)∧w'.cell? ⟨iW,2,none⟩=some (.slice (some jn) au.length aW)∧w'.cell? (jn.add ((dY).toNat*6))=some (.int .i64 ((aC au dY).f0))∧w'.cell? ⟨(jn.add ((dY).toNat*6)).block,(jn.add ((dY).toNat*6)).off+1,none⟩=some (.int .i64 ((aC au dY).f1))∧w'.cell? ⟨(jn.add ((dY).toNat*6)).block,(jn.add ((dY).toNat*6)).off+2,none⟩=some (.int .i64 ((aC au dY).f2))∧w'.cell? ⟨(jn.add ((dY).toNat*6)).block,(jn.add ((dY).toNat*6)).off+3,none⟩=some (.int .i64 ((aC au dY).f3))∧w'.cell? ⟨(jn.add ((dY).toNat*6)).block,(jn.add ((dY).toNat*6)).off+4,none⟩=some (.int .i64 ((aC au dY).f4))∧w'.cell? ⟨(jn.add ((dY).toNat*6)).block,(jn.add ((dY).toNat*6)).off+5,none⟩=some (.int .i64 ((aC au dY).f5))∧w'.cell? (jn.add ((dY).toNat*6))=some (.int .i64 ((aC au dY).f0))∧w'.cell? ⟨(jn.add ((dY).toNat*6)).block,(jn.add ((dY).toNat*6)).off+1,none⟩=some (.int .i64 ((aC au dY).f1))∧w'.cell? ⟨(jn.add ((dY).toNat*6)).block,(jn.add ((dY).toNat*6)).off+2,none⟩=some (.int .i64 ((aC au dY).f2))∧w'.cell? ⟨(jn.add ((dY).toNat*6)).block,(jn.add ((dY).toNat*6)).off+3,none⟩=some (.int .i64 ((aC au dY).f3))∧w'.cell? ⟨(jn.add ((dY).toNat*6)).block,(jn.add ((dY).toNat*6)).off+4,none⟩=some (.int .i64 ((aC au dY).f4))∧w'.cell? ⟨(jn.add ((dY).toNat*6)).block,(jn.add ((dY).toNat*6)).off+5,none⟩=some (.int .i64 ((aC au dY).f5))) (ds:=[]) #[false,false,false,false,false,false,false,false,false,false,false,false,false,false,false,false,false,false,false,false,false,false] (by kernel_rfl) rfl rfl ⟨(ag ep.out 0).trans rfl,(ag ep.out 1).trans rfl,(ag ep.out 2).trans rfl,((HB.out.cell (World.block_lt_of_cell? w _ vQ)).trans vQ),((HB.out.cell (World.block_lt_of_cell? w _ vP)).trans vP),((HB.out.cell (World.block_lt_of_cell? w _ vO)).trans vO),((HB.out.cell (World.block_lt_of_cell? w _ vN)).trans vN),((HB.out.cell (World.block_lt_of_cell? w _ vM)).trans vM),((HB.out.cell (World.block_lt_of_cell? w _ vL)).trans vL),((HB.out.cell (World.block_lt_of_cell? w _ vW)).trans vW),((HB.out.cell (World.block_lt_of_cell? w _ vV)).trans vV),((HB.out.cell (World.block_lt_of_cell? w _ vU)).trans vU),((HB.out.cell (World.block_lt_of_cell? w _ vT)).trans vT),((HB.out.cell (World.block_lt_of_cell? w _ vS)).trans vS),((HB.out.cell (World.block_lt_of_cell? w _ vR)).trans vR)⟩ (fun hHeld=> ?_);refine fN aV.ZJ aV.Q2 (fun HT_ HW_=> ?_)
         generalize wr.drew=AR at HO_6 ep HB tH tI tJ tK tL tM tN tO tP tQ tR tS hHeld ⊢
         refine bP (i:=1) (N:=some 27) (v:= ?_) (a':= ?_) #[false,true,false,false,false,false,false,false,false,false,false,false,false,false,false,false,false,false,false,false,false,false] rfl rfl (bz HT_.out (by kernel_rfl)) (fun _ _ _ h=>h) (Or.inl ⟨by rfl, ?_⟩) ?_ ?_
         rotate_left
         ·intro w'
          go_simp
          with_reducible rfl
         rotate_left
         ·simp only [Act.put,dg,dh,di,aY,a9]
          rfl
         refine bP (i:=2) (N:=some 28) (v:= ?_) (a':= ?_) #[false,true,true,false,false,false,false,false,false,false,false,false,false,false,false,false,false,false,false,false,false,false] rfl rfl (bz HT_.out (by kernel_rfl)) (fun _ _ _ h=>h) (Or.inl ⟨by rfl, ?_⟩) ?_ ?_
         rotate_left
         ·intro w'
          go_simp
          with_reducible rfl
         rotate_left
         ·simp only [Act.put,dg,dh,di,aY,a9]
          rfl
         refine bP (i:=4) (N:=some 30) (v:= ?_) (a':= ?_) #[false,true,true,false,true,false,false,false,false,false,false,false,false,false,false,false,false,false,false,false,false,false] rfl rfl (bz HT_.out (by kernel_rfl)) (fun _ _ _ h=>h) (Or.inl ⟨by rfl, ?_⟩) ?_ ?_
         rotate_left
         ·intro w'
          go_simp
          with_reducible rfl
         rotate_left
         ·simp only [Act.put,dg,dh,di,aY,a9]
          rfl
         refine bP (i:=8) (N:=some 34) (v:= ?_) (a':= ?_) #[false,true,true,false,true,false,false,false,true,false,false,false,false,false,false,false,false,false,false,false,false,false] rfl rfl (bz HT_.out (by kernel_rfl)) (fun _ _ _ h=>h) (Or.inl ⟨by rfl, ?_⟩) ?_ ?_
         rotate_left
         ·intro w'
          go_simp
          with_reducible rfl
         rotate_left
         ·simp only [Act.put,dg,dh,di,aY,a9]
          rfl
         refine bP (i:=10) (N:=some 36) (v:= ?_) (a':= ?_) #[false,true,true,false,true,false,false,false,true,false,true,false,false,false,false,false,false,false,false,false,false,false] rfl rfl (bz HT_.out (by kernel_rfl)) (fun _ _ _ h=>h) (Or.inl ⟨by rfl, ?_⟩) ?_ ?_
         rotate_left
         ·intro w'
          go_simp
          with_reducible rfl
         rotate_left
         ·simp only [Act.put,dg,dh,di,aY,a9]
          rfl
         refine eL (i:=0) (N:=some 26) (v:= ?_) (a':= ?_) #[true,true,true,false,true,false,false,false,true,false,true,false,false,false,false,false,false,false,false,false,false,false] rfl rfl (cO HT_.out HW_.out (by kernel_rfl)) (fun _ _ _ h=>h) (Or.inl ⟨by rfl, ?_⟩) hHeld ?_ ?_
         rotate_left
         ·rintro w' ⟨s0,s1,s2,s3,s4,s5,s6,s7,s8,s9,I3,WG,s12,WH,WI⟩
          go_simp
          with_reducible rfl
         rotate_left
         ·simp only [Act.put,dg,dh,di,aY,a9]
          rfl
         refine eL (i:=3) (N:=some 29) (v:= ?_) (a':= ?_) #[true,true,true,true,true,false,false,false,true,false,true,false,false,false,false,false,false,false,false,false,false,false] rfl rfl (cO HT_.out HW_.out (by kernel_rfl)) (fun _ _ _ h=>h) (Or.inl ⟨by rfl, ?_⟩) hHeld ?_ ?_
         rotate_left
         ·rintro w' ⟨s0,s1,s2,s3,s4,s5,s6,s7,s8,s9,I3,WG,s12,WH,WI⟩
          go_simp
          with_reducible rfl
         rotate_left
         ·simp only [Act.put,dg,dh,di,aY,a9]
          rfl
         refine bP (i:=5) (N:=some 31) (v:= ?_) (a':= ?_) #[true,true,true,true,true,true,false,false,true,false,true,false,false,false,false,false,false,false,false,false,false,false] rfl rfl (bz HT_.out (by kernel_rfl)) (fun _ _ _ h=>h) (Or.inl ⟨by rfl, ?_⟩) ?_ ?_
         rotate_left
         ·intro w'
          go_simp
          with_reducible rfl
         rotate_left
         ·simp only [Act.put,dg,dh,di,aY,a9]
          rfl
         refine bP (i:=6) (N:=some 32) (v:= ?_) (a':= ?_) #[true,true,true,true,true,true,true,false,true,false,true,false,false,false,false,false,false,false,false,false,false,false] rfl rfl (bz HT_.out (by kernel_rfl)) (fun _ _ _ h=>h) (Or.inl ⟨by rfl, ?_⟩) ?_ ?_
         rotate_left
         ·intro w'
          go_simp
          with_reducible rfl
         rotate_left
         ·simp only [Act.put,dg,dh,di,aY,a9]
          rfl
         refine eL (i:=7) (N:=some 33) (v:= ?_) (a':= ?_) #[true,true,true,true,true,true,true,true,true,false,true,false,false,false,false,false,false,false,false,false,false,false] rfl rfl (cO HT_.out HW_.out (by kernel_rfl)) (fun _ _ _ h=>h) (Or.inl ⟨by rfl, ?_⟩) hHeld ?_ ?_
         rotate_left
         ·rintro w' ⟨s0,s1,s2,s3,s4,s5,s6,s7,s8,s9,I3,WG,s12,WH,WI⟩
          go_simp
          with_reducible rfl
         rotate_left
         ·simp only [Act.put,dg,dh,di,aY,a9]
          rfl
         refine eL (i:=9) (N:=some 35) (v:= ?_) (a':= ?_) #[true,true,true,true,true,true,true,true,true,true,true,false,false,false,false,false,false,false,false,false,false,false] rfl rfl (cO HT_.out HW_.out (by kernel_rfl)) (fun _ _ _ h=>h) (Or.inl ⟨by rfl, ?_⟩) hHeld ?_ ?_
         rotate_left
         ·rintro w' ⟨s0,s1,s2,s3,s4,s5,s6,s7,s8,s9,I3,WG,s12,WH,WI⟩
          go_simp
          with_reducible rfl
         rotate_left
         ·simp only [Act.put,dg,dh,di,aY,a9]
          rfl
         refine bP (i:=11) (N:=some 37) (v:= ?_) (a':= ?_) #[true,true,true,true,true,true,true,true,true,true,true,true,false,false,false,false,false,false,false,false,false,false] rfl rfl (bz HT_.out (by kernel_rfl)) (fun _ _ _ h=>h) (Or.inl ⟨by rfl, ?_⟩) ?_ ?_
         rotate_left
         ·intro w'
          go_simp
          with_reducible rfl
         rotate_left
         ·simp only [Act.put,dg,dh,di,aY,a9]
          rfl
         refine bP (i:=12) (N:=some 38) (v:= ?_) (a':= ?_) #[true,true,true,true,true,true,true,true,true,true,true,true,true,false,false,false,false,false,false,false,false,false] rfl rfl (bz HT_.out (by kernel_rfl)) (fun _ _ _ h=>h) (Or.inl ⟨by rfl, ?_⟩) ?_ ?_
         rotate_left
         ·intro w'
          go_simp
          with_reducible rfl
         rotate_left
         ·simp only [Act.put,dg,dh,di,aY,a9]
          rfl
         refine eL (i:=13) (N:=some 39) (v:= ?_) (a':= ?_) #[true,true,true,true,true,true,true,true,true,true,true,true,true,true,false,false,false,false,false,false,false,false] rfl rfl (cO HT_.out HW_.out (by kernel_rfl)) (fun _ _ _ h=>h) (Or.inl ⟨by rfl, ?_⟩) hHeld ?_ ?_
         rotate_left
         ·rintro w' ⟨s0,s1,s2,s3,s4,s5,s6,s7,s8,s9,I3,WG,s12,WH,WI⟩
          go_simp
          with_reducible rfl
         rotate_left
         ·simp only [Act.put,dg,dh,di,aY,a9]
          rfl
         refine iP (i:=14) (N:=some 40) #[true,true,true,true,true,true,true,true,true,true,true,true,true,true,true,false,false,false,false,false,false,false] rfl rfl (dZ HT_.out (by kernel_rfl)) (by decide) (fun K hK=> ?_)
         refine mA Try.func97 (by kernel_rfl) rfl #[.agg #[.int .i64 aI,.slice bh aD.length bi,.slice (some jn) au.length aW],.slice A1 l1.length c1,.int .i64 ((aC au dY).f2),.int .i64 ((aC au dY).f1)] (by rfl) rfl rfl (by (try simp only [List.map_toArray,List.map_cons,List.map_nil]);first|done|rfl|(simp only [List.length_drop,List.length_take];rfl)) ?_
         with_reducible refine (fk.calls aI _ _ aD _ _ au _ _ l1 ((aC au dY).f2) ((aC au dY).f1) pT oO ZK _ ?bS ?bT ?cJ ?cN ?du ?dw HV.out).mono ?_
         (case bS=>repeat (first|exact (Kd.aN fA.out HB.out)|(with_reducible refine Kd.aT ?_ _)|(with_reducible refine Kd.aU ?_ _)|(with_reducible refine Kd.bk ?_)))
         (case bT=>exact fB.out)
         (case cJ=>repeat (first|exact (Kd.aN ez.out HB.out)|(with_reducible refine Kd.aT ?_ _)|(with_reducible refine Kd.aU ?_ _)|(with_reducible refine Kd.bk ?_)))
         (case cN=>exact fC.out)
         (case du=>repeat (first|exact (Kd.aN lA.out HB.out)|(with_reducible refine Kd.aT ?_ _)|(with_reducible refine Kd.aU ?_ _)|(with_reducible refine Kd.bk ?_)))
         (case dw=>exact pK.out)
         rintro e Fw ⟨aed,NY,rfl,mN,qh,hb⟩
         refine ⟨_,rfl, ?_⟩
         have br:=aa.mk (Kd.qM (Kd.Gs (Kd.Gs (Kd.Pr (by (with_reducible repeat (first|apply Kd.lQ|apply Kd.lR|apply Kd.mQ));exact HO_6.out) hb) (Kd.iZ mN)) (Kd.iZ qh)) (fun _ h_=>h_.1))
         have bt:=aa.mk (Kd.eH mN (az (by repeat (first|(with_reducible first|exact HB.out|apply ae|apply ab|apply af|refine ai ?_ lp.out)|exact HB.out))))
         have bA:=aa.mk (Kd.eH qh (az (by repeat (first|(with_reducible first|exact HB.out|apply ae|apply ab|apply af|refine ai ?_ lp.out)|exact HB.out))))
         have bK:=aa.mk (aH (g:=iW) (o:= .cells #[.int .i64 aI,.slice bh aD.length bi,.slice (some jn) au.length aW] 26 (0,0)) (by (with_reducible repeat (first|refine ak ?_ _|refine aq ?_|refine aj ?_ _));exact ep.out) hb)
         have cL:=aa.mk (aE (by repeat (first|(with_reducible first|exact HB.out|apply ae|apply ab|apply af|refine ai ?_ lp.out)|exact HB.out)) hb)
         clear HO_6 ep HB
         have HO_6:=br;have lq:=bt;have lr:=bA;have ep:=bK;have HB:=cL
         clear br bt bA bK cL
         (try clear hb);(try clear hb2);(try clear hk);(try clear hi);(try clear mN);(try clear qh)
         refine hK.out _ _ ⟨(ag ep.out 0).trans rfl,(ag ep.out 1).trans rfl,(ag ep.out 2).trans rfl,((HB.out.cell (World.block_lt_of_cell? w _ vQ)).trans vQ),((HB.out.cell (World.block_lt_of_cell? w _ vP)).trans vP),((HB.out.cell (World.block_lt_of_cell? w _ vO)).trans vO),((HB.out.cell (World.block_lt_of_cell? w _ vN)).trans vN),((HB.out.cell (World.block_lt_of_cell? w _ vM)).trans vM),((HB.out.cell (World.block_lt_of_cell? w _ vL)).trans vL),((HB.out.cell (World.block_lt_of_cell? w _ vW)).trans vW),((HB.out.cell (World.block_lt_of_cell? w _ vV)).trans vV),((HB.out.cell (World.block_lt_of_cell? w _ vU)).trans vU),((HB.out.cell (World.block_lt_of_cell? w _ vT)).trans vT),((HB.out.cell (World.block_lt_of_cell? w _ vS)).trans vS),((HB.out.cell (World.block_lt_of_cell? w _ vR)).trans vR)⟩ (fun hHeld=> ?_)
         clear hK K
         refine eM (a':= ?_) ?_ ?_
         rotate_left
         ·show Act.put _ (some 40) _=_
          simp only [Act.put,dg,dh,di,aY,a9]
          rfl
         refine bP (i:=15) (N:=some 25) (v:= ?_) (a':= ?_) #[true,true,true,true,true,true,true,true,true,true,true,true,true,true,true,true,false,false,false,false,false,false] rfl rfl (bz HT_.out (by kernel_rfl)) (fun _ _ _ h=>h) (Or.inl ⟨by rfl, ?_⟩) ?_ ?_
         rotate_left
         ·intro w'
          go_simp
          with_reducible rfl
         rotate_left
         ·simp only [Act.put,dg,dh,di,aY,a9]
          rfl
         refine bP (i:=16) (N:=some 41) (v:= ?_) (a':= ?_) #[true,true,true,true,true,true,true,true,true,true,true,true,true,true,true,true,true,false,false,false,false,false] rfl rfl (bz HT_.out (by kernel_rfl)) (fun _ _ _ h=>h) (Or.inl ⟨by rfl, ?_⟩) ?_ ?_
         rotate_left
         ·intro w'
          go_simp
          with_reducible rfl
         rotate_left
         ·simp only [Act.put,dg,dh,di,aY,a9]
          rfl
         refine bP (i:=17) (N:=some 42) (v:= ?_) (a':= ?_) #[true,true,true,true,true,true,true,true,true,true,true,true,true,true,true,true,true,true,false,false,false,false] rfl rfl (bz HT_.out (by kernel_rfl)) (fun _ _ _ h=>h) (Or.inl ⟨by rfl, ?_⟩) ?_ ?_
         rotate_left
         ·intro w'
          go_simp
          with_reducible rfl
         rotate_left
         ·simp only [Act.put,dg,dh,di,aY,a9]
          rfl
         refine bP (i:=18) (N:=some 43) (v:= ?_) (a':= ?_) #[true,true,true,true,true,true,true,true,true,true,true,true,true,true,true,true,true,true,true,false,false,false] rfl rfl (bz HT_.out (by kernel_rfl)) (fun _ _ _ h=>h) (Or.inl ⟨by rfl, ?_⟩) ?_ ?_
         rotate_left
         ·intro w'
          go_simp
          with_reducible rfl
         rotate_left
         ·simp only [Act.put,dg,dh,di,aY,a9]
          rfl
         refine bP (i:=19) (N:=some 8) (v:= ?_) (a':= ?_) #[true,true,true,true,true,true,true,true,true,true,true,true,true,true,true,true,true,true,true,true,false,false] rfl rfl (bz HT_.out (by kernel_rfl)) (fun _ _ _ h=>h) (Or.inl ⟨by rfl, ?_⟩) ?_ ?_
         rotate_left
         ·intro w'
          go_simp
          with_reducible rfl
         rotate_left
         ·simp only [Act.put,dg,dh,di,aY,a9]
          rfl
         refine bP (i:=20) (N:=some 9) (v:= ?_) (a':= ?_) #[true,true,true,true,true,true,true,true,true,true,true,true,true,true,true,true,true,true,true,true,true,false] rfl rfl (bz HT_.out (by kernel_rfl)) (fun _ _ _ h=>h) (Or.inl ⟨by rfl, ?_⟩) ?_ ?_
         rotate_left
         ·intro w'
          go_simp
          with_reducible rfl
         rotate_left
         ·simp only [Act.put,dg,dh,di,aY,a9]
          rfl
         refine bP (i:=21) (N:=some 10) (v:= ?_) (a':= ?_) #[true,true,true,true,true,true,true,true,true,true,true,true,true,true,true,true,true,true,true,true,true,true] rfl rfl (bz HT_.out (by kernel_rfl)) (fun _ _ _ h=>h) (Or.inl ⟨by rfl, ?_⟩) ?_ ?_
         rotate_left
         ·intro w'
          go_simp
          with_reducible rfl
         rotate_left
         ·simp only [Act.put,dg,dh,di,aY,a9]
          rfl
         refine j1 (gD HT_.out (by kernel_rfl)) ?_
         try go_wp2_with (first|((with_reducible refine bF (N:=46) rfl ?_);refine Kd.qL (Kd.int .i64) _ 3 ?hg (N:=46) ?hd (xs:=([dY]:List Int)) (inner:=[.int .i64 dY]) (ok:=fun _=>True) (okp:=fun _=>True) ?hr ?hp (fun _ hk=>hk) trivial (Below.refl _ _) (Nat.le_refl _) (by simp) ?_;(case hd=>rfl);(case hg=>rfl);(case hr=>first|(go_simp;done)|(go_simp;rfl));(case hp=>exact (gH.one (show Kd.M (Kd.int .i64) _ _ _ dY [.int .i64 dY] from rfl) (gH.none _ _)));intro ZN AG BN hb hg_ hnew_;clear hg_ hnew_;(first|rw [← L4.out] at BN|(simp only [Int.reduceToNat] at BN;rw [← L4.out] at BN));have br:=aa.mk (Kd.Ap (by (with_reducible repeat (first|apply Kd.lQ|apply Kd.lR|apply Kd.mQ));exact HO_6.out) (Kd.iZ BN) hb);have bt:=aa.mk (Kd.kx (by (with_reducible repeat (first|apply Kd.aw|apply Kd.av|apply Kd.aA));exact lq.out) (Kd.iZ BN) hb);have bA:=aa.mk (Kd.kx (by (with_reducible repeat (first|apply Kd.aw|apply Kd.av|apply Kd.aA));exact lr.out) (Kd.iZ BN) hb);have bK:=aa.mk (Kd.eH (Kd.oy (Kd.oy BN (Kd.gq (by (with_reducible repeat (first|apply Kd.aw|apply Kd.av|apply Kd.aA));exact lq.out))) (Kd.gq (by (with_reducible repeat (first|apply Kd.aw|apply Kd.av|apply Kd.aA));exact lr.out))) (az (by repeat (first|(with_reducible first|exact HB.out|apply ae|apply ab|apply af|refine ai ?_ lp.out)|exact HB.out))));have cL:=aa.mk (aH (g:=iW) (o:= .cells #[.int .i64 aI,.slice bh aD.length bi,.slice (some jn) au.length aW] 26 (0,0)) (by (with_reducible repeat (first|refine ak ?_ _|refine aq ?_|refine aj ?_ _));exact ep.out) hb);have dc:=aa.mk (aE (by repeat (first|(with_reducible first|exact HB.out|apply ae|apply ab|apply af|refine ai ?_ lp.out)|exact HB.out)) hb);clear HO_6;clear lq;clear lr;clear ep;clear HB;have HO_6:=br;have lq:=bt;have lr:=bA;have Ia:=bK;have ep:=cL;have HB:=dc;clear br bt bA bK cL dc;clear hb BN;obtain ⟨qR,qT,Fx⟩:=Kd.cA lq.out;subst Fx)|((with_reducible refine gr (b:= .append) (xs:=#[.tmp 46,.tmp 47]) rfl ?_);at_builtin;refine Kd.su (Kd.int .i64) (w0:=w) w.heap.size rfl (.tmp 46) (.tmp 47) 22 3 (.int .i64 0) 8 rfl Try.underlying22 info3 rfl (by decide) (by omega) ZN q8 pT _ _ _ (fun k_=>some k_≠(.slice qR pT.length qT:Value).ownBlock∧some k_≠(NY:Value).ownBlock) (fun _=>False) rfl rfl ?aO ?aR (fun _ _ h=>h) (fun _ h=>h.elim) ?aF ?aB ?aS ?aL ?_;(case aR=>repeat (first|exact (Kd.bf lq.out).2.2|(with_reducible refine Kd.aT ?_ _)|(with_reducible refine Kd.aU ?_ _)|(with_reducible refine Kd.bk ?_)));(case aB=>exact (by repeat (first|(with_reducible first|exact HB.out|apply ae|apply ab|apply af|refine ai ?_ lp.out)|exact HB.out)));(case aF=>exact (fun k_ hk=>⟨Kd.eR (Kd.gq (by (with_reducible repeat (first|apply Kd.aw|apply Kd.av|apply Kd.aA));exact lq.out)) k_ hk,Kd.eR (Kd.gq (by (with_reducible repeat (first|apply Kd.aw|apply Kd.av|apply Kd.aA));exact lr.out)) k_ hk⟩));(case aO=>exact (by (with_reducible repeat (first|apply Kd.aw|apply Kd.av|apply Kd.aA));exact Kd.bN Ia.out (fun _ hk=>⟨hk.1.2,hk.2⟩)));(case aS=>exact (az (by repeat (first|(with_reducible first|exact HB.out|apply ae|apply ab|apply af|refine ai ?_ lp.out)|exact HB.out))));(case aL=>have:=Q5.out;omega);intro KN Ju ho hb hg hat;rw [← Q6.out] at ho;have br:=aa.mk (Kd.Du (ok:=(fun k_=>some k_≠(.slice qR pT.length qT:Value).ownBlock∧some k_≠(NY:Value).ownBlock)) (by (with_reducible repeat (first|apply Kd.lQ|apply Kd.lR|apply Kd.mQ));exact Kd.qM HO_6.out (fun _ hk=>⟨⟨hk.1.1.2,hk.1.2⟩,hk.2⟩)) hg hat);have bt:=aa.mk (dq (g:=iW) (o:= .cells #[.int .i64 aI,.slice bh aD.length bi,.slice (some jn) au.length aW] 26 (0,0)) (by (with_reducible repeat (first|refine ak ?_ _|refine aq ?_|refine aj ?_ _));exact ep.out) hg (Kd.mz Ia.out ep.out (by decide)));have bA:=aa.mk (Kd.il (ok:=(fun k_=>some k_≠(NY:Value).ownBlock)) (by (with_reducible repeat (first|apply Kd.aw|apply Kd.av|apply Kd.aA));exact lq.out) hg hat);have bK:=aa.mk (Kd.il (ok:=(fun k_=>some k_≠(.slice qR pT.length qT:Value).ownBlock)) (by (with_reducible repeat (first|apply Kd.aw|apply Kd.av|apply Kd.aA));exact lr.out) hg hat);have cL:=aa.mk (hb);have dc:=aa.mk (ho);clear HO_6;clear ep;clear lq;clear lr;clear HB;clear Ia;have HO_6:=br;have ep:=bt;have lq:=bA;have lr:=bK;have HB:=cL;have qC:=dc;clear br bt bA bK cL dc;clear ho hb hg hat)|((with_reducible refine bF (N:=49) rfl ?_);refine Kd.qL (Kd.int .i64) _ 3 ?hg (N:=49) ?hd (xs:=([1]:List Int)) (inner:=[.int .i64 1]) (ok:=fun _=>True) (okp:=fun _=>True) ?hr ?hp (fun _ hk=>hk) trivial (Below.refl _ _) (Nat.le_refl _) (by simp) ?_;(case hd=>rfl);(case hg=>rfl);(case hr=>first|(go_simp;done)|(go_simp;rfl));(case hp=>exact (gH.one (show Kd.M (Kd.int .i64) _ _ _ 1 [.int .i64 1] from rfl) (gH.none _ _)));intro ZO Rd zC hb hg_ hnew_;clear hg_ hnew_;(first|rw [← L5.out] at zC|(simp only [Int.reduceToNat] at zC;rw [← L5.out] at zC));have br:=aa.mk (Kd.Ap (by (with_reducible repeat (first|apply Kd.lQ|apply Kd.lR|apply Kd.mQ));exact HO_6.out) (Kd.iZ zC) hb);have bt:=aa.mk (Kd.kx (by (with_reducible repeat (first|apply Kd.aw|apply Kd.av|apply Kd.aA));exact lq.out) (Kd.iZ zC) hb);have bA:=aa.mk (Kd.kx (by (with_reducible repeat (first|apply Kd.aw|apply Kd.av|apply Kd.aA));exact lr.out) (Kd.iZ zC) hb);have bK:=aa.mk (Kd.kx (by (with_reducible repeat (first|apply Kd.aw|apply Kd.av|apply Kd.aA));exact qC.out) (Kd.iZ zC) hb);have cL:=aa.mk (Kd.eH (Kd.oy (Kd.oy (Kd.oy zC (Kd.gq (by (with_reducible repeat (first|apply Kd.aw|apply Kd.av|apply Kd.aA));exact lq.out))) (Kd.gq (by (with_reducible repeat (first|apply Kd.aw|apply Kd.av|apply Kd.aA));exact lr.out))) (Kd.gq (by (with_reducible repeat (first|apply Kd.aw|apply Kd.av|apply Kd.aA));exact qC.out))) (az (by repeat (first|(with_reducible first|exact HB.out|apply ae|apply ab|apply af|refine ai ?_ lp.out)|exact HB.out))));have dc:=aa.mk (aH (g:=iW) (o:= .cells #[.int .i64 aI,.slice bh aD.length bi,.slice (some jn) au.length aW] 26 (0,0)) (by (with_reducible repeat (first|refine ak ?_ _|refine aq ?_|refine aj ?_ _));exact ep.out) hb);have dQ:=aa.mk (aE (by repeat (first|(with_reducible first|exact HB.out|apply ae|apply ab|apply af|refine ai ?_ lp.out)|exact HB.out)) hb);clear HO_6;clear lq;clear lr;clear qC;clear ep;clear HB;have HO_6:=br;have lq:=bt;have lr:=bA;have qC:=bK;have Ib:=cL;have ep:=dc;have HB:=dQ;clear br bt bA bK cL dc dQ;clear hb zC;obtain ⟨zD,zE,ZP⟩:=Kd.cA lr.out;subst ZP)|((with_reducible refine gr (b:= .append) (xs:=#[.tmp 49,.tmp 50]) rfl ?_);at_builtin;refine Kd.su (Kd.int .i64) (w0:=w) w.heap.size rfl (.tmp 49) (.tmp 50) 22 3 (.int .i64 0) 8 rfl Try.underlying22 info3 rfl (by decide) (by omega) ZO oN oO _ _ _ (fun k_=>some k_≠(.slice qR pT.length qT:Value).ownBlock∧some k_≠(.slice zD oO.length zE:Value).ownBlock∧some k_≠(KN:Value).ownBlock) (fun _=>False) rfl rfl ?aO ?aR (fun _ _ h=>h) (fun _ h=>h.elim) ?aF ?aB ?aS ?aL ?_;(case aR=>repeat (first|exact (Kd.bf lr.out).2.2|(with_reducible refine Kd.aT ?_ _)|(with_reducible refine Kd.aU ?_ _)|(with_reducible refine Kd.bk ?_)));(case aB=>exact (by repeat (first|(with_reducible first|exact HB.out|apply ae|apply ab|apply af|refine ai ?_ lp.out)|exact HB.out)));(case aF=>exact (fun k_ hk=>⟨Kd.eR (Kd.gq (by (with_reducible repeat (first|apply Kd.aw|apply Kd.av|apply Kd.aA));exact lq.out)) k_ hk,Kd.eR (Kd.gq (by (with_reducible repeat (first|apply Kd.aw|apply Kd.av|apply Kd.aA));exact lr.out)) k_ hk,Kd.eR (Kd.gq (by (with_reducible repeat (first|apply Kd.aw|apply Kd.av|apply Kd.aA));exact qC.out)) k_ hk⟩));(case aO=>exact (by (with_reducible repeat (first|apply Kd.aw|apply Kd.av|apply Kd.aA));exact Kd.bN Ib.out (fun _ hk=>⟨hk.1.1.2,⟨hk.1.2,hk.2⟩⟩)));(case aS=>exact (az (by repeat (first|(with_reducible first|exact HB.out|apply ae|apply ab|apply af|refine ai ?_ lp.out)|exact HB.out))));(case aL=>have:=Q7.out;omega);intro aee qA ho hb hg hat;rw [← Q8.out] at ho;have br:=aa.mk (Kd.Du (ok:=(fun k_=>some k_≠(.slice qR pT.length qT:Value).ownBlock∧some k_≠(.slice zD oO.length zE:Value).ownBlock∧some k_≠(KN:Value).ownBlock)) (by (with_reducible repeat (first|apply Kd.lQ|apply Kd.lR|apply Kd.mQ));exact Kd.qM HO_6.out (fun _ hk=>⟨⟨hk.1.1.1,⟨hk.1.1.2,hk.1.2⟩⟩,hk.2⟩)) hg hat);have bt:=aa.mk (dq (g:=iW) (o:= .cells #[.int .i64 aI,.slice bh aD.length bi,.slice (some jn) au.length aW] 26 (0,0)) (by (with_reducible repeat (first|refine ak ?_ _|refine aq ?_|refine aj ?_ _));exact ep.out) hg (Kd.mz Ib.out ep.out (by decide)));have bA:=aa.mk (Kd.il (ok:=(fun k_=>some k_≠(.slice zD oO.length zE:Value).ownBlock∧some k_≠(KN:Value).ownBlock)) (by (with_reducible repeat (first|apply Kd.aw|apply Kd.av|apply Kd.aA));exact lq.out) hg hat);have bK:=aa.mk (Kd.il (ok:=(fun k_=>some k_≠(.slice qR pT.length qT:Value).ownBlock∧some k_≠(KN:Value).ownBlock)) (by (with_reducible repeat (first|apply Kd.aw|apply Kd.av|apply Kd.aA));exact lr.out) hg hat);have cL:=aa.mk (Kd.il (ok:=(fun k_=>some k_≠(.slice qR pT.length qT:Value).ownBlock∧some k_≠(.slice zD oO.length zE:Value).ownBlock)) (by (with_reducible repeat (first|apply Kd.aw|apply Kd.av|apply Kd.aA));exact qC.out) hg hat);have dc:=aa.mk (hb);have dQ:=aa.mk (ho);clear HO_6;clear ep;clear lq;clear lr;clear qC;clear HB;clear Ib;have HO_6:=br;have ep:=bt;have lq:=bA;have lr:=bK;have qC:=cL;have HB:=dc;have EM:=dQ;clear br bt bA bK cL dc dQ;clear ho hb hg hat;obtain ⟨iF,iG,NZ⟩:=Kd.cA EM.out;subst NZ;obtain ⟨kZ,lc,M4⟩:=Kd.cA qC.out;subst M4)|((with_reducible refine gr (b:= .append) (xs:=#[.tmp 44,.tmp 53]) rfl ?_);at_builtin;refine Kd.Gu Ji (w0:=w) w.heap.size rfl (.tmp 44) (.tmp 53) 52 41 (.agg #[(.slice none 0 0),(.slice none 0 0)]) 48 rfl Try.underlying52 MG rfl (by decide) (by omega) u6 iq (⟨BI,FZ⟩:oW) [.slice kZ BI.length lc,.slice iF FZ.length iG] (fun k_=>some k_≠(.slice qR pT.length qT:Value).ownBlock∧some k_≠(.slice zD oO.length zE:Value).ownBlock) (fun k_=>some k_=(.slice kZ BI.length lc:Value).ownBlock∨some k_=(.slice iF FZ.length iG:Value).ownBlock) rfl rfl ?aP (fun k_ hk_=>hk_.elim (fun h_=>((Kd.bN (ok':=fun k_=>((fun k_=>some k_≠(.slice qR pT.length qT:Value).ownBlock∧some k_≠(.slice zD oO.length zE:Value).ownBlock)) k_∧some k_≠(u6:Value).ownBlock) (Kd.pI (qC.out) (Kd.rC HO_6.out) (by decide)) (fun k_ hk=>⟨⟨hk.1.1.1,hk.1.1.2⟩,hk.2⟩))).1 k_ h_.symm) (fun h_=>((Kd.bN (ok':=fun k_=>((fun k_=>some k_≠(.slice qR pT.length qT:Value).ownBlock∧some k_≠(.slice zD oO.length zE:Value).ownBlock)) k_∧some k_≠(u6:Value).ownBlock) (Kd.pI (EM.out) (Kd.rC HO_6.out) (by decide)) (fun k_ hk=>⟨⟨hk.1.1,hk.1.2.1⟩,hk.2⟩))).1 k_ h_.symm)) ?aF ?aO ?aB ?aS ?aL ?_;(case aP=>exact Jj _ _ _ (⟨BI,FZ⟩:oW) (Kd.bN (Kd.ng rfl (Kd.bN (ok':=fun k_=>((fun k_=>some k_≠(.slice qR pT.length qT:Value).ownBlock∧some k_≠(.slice zD oO.length zE:Value).ownBlock)) k_∧some k_≠(u6:Value).ownBlock) (Kd.pI (qC.out) (Kd.rC HO_6.out) (by decide)) (fun k_ hk=>⟨⟨hk.1.1.1,hk.1.1.2⟩,hk.2⟩))) (fun _ h_=>Or.inl h_)) (Kd.bN (Kd.ng rfl (Kd.bN (ok':=fun k_=>((fun k_=>some k_≠(.slice qR pT.length qT:Value).ownBlock∧some k_≠(.slice zD oO.length zE:Value).ownBlock)) k_∧some k_≠(u6:Value).ownBlock) (Kd.pI (EM.out) (Kd.rC HO_6.out) (by decide)) (fun k_ hk=>⟨⟨hk.1.1,hk.1.2.1⟩,hk.2⟩))) (fun _ h_=>Or.inr (h_))));(case aB=>exact (by repeat (first|(with_reducible first|exact HB.out|apply ae|apply ab|apply af|refine ai ?_ lp.out)|exact HB.out)));(case aF=>exact (fun k_ hk=>⟨Kd.eR (Kd.gq (by (with_reducible repeat (first|apply Kd.aw|apply Kd.av|apply Kd.aA));exact lq.out)) k_ hk,Kd.eR (Kd.gq (by (with_reducible repeat (first|apply Kd.aw|apply Kd.av|apply Kd.aA));exact lr.out)) k_ hk⟩));(case aO=>exact (by (with_reducible repeat (first|apply Kd.lQ|apply Kd.lR|apply Kd.mQ));exact Kd.qM HO_6.out (fun k_ hk=>⟨⟨hk.1.1,hk.1.2.1⟩,fun e_=>e_.elim (fun h_=>hk.1.2.2 h_) (fun h_=>hk.2 h_)⟩)));(case aS=>exact (az (by repeat (first|(with_reducible first|exact HB.out|apply ae|apply ab|apply af|refine ai ?_ lp.out)|exact HB.out))));(case aL=>have:=Q9.out;omega);intro aef vm ho hb hg hat;rw [← Rb.out] at ho;have br:=aa.mk (dq (g:=iW) (o:= .cells #[.int .i64 aI,.slice bh aD.length bi,.slice (some jn) au.length aW] 26 (0,0)) (by (with_reducible repeat (first|refine ak ?_ _|refine aq ?_|refine aj ?_ _));exact ep.out) hg (Kd.Yi HO_6.out ep.out (by decide)));have bt:=aa.mk (Kd.te (by (with_reducible repeat (first|apply Kd.aw|apply Kd.av|apply Kd.aA));exact lq.out) (Kd.rC (by (with_reducible repeat (first|apply Kd.lQ|apply Kd.lR|apply Kd.mQ));exact HO_6.out)) (by decide) hg);have bA:=aa.mk (Kd.te (by (with_reducible repeat (first|apply Kd.aw|apply Kd.av|apply Kd.aA));exact lr.out) (Kd.rC (by (with_reducible repeat (first|apply Kd.lQ|apply Kd.lR|apply Kd.mQ));exact HO_6.out)) (by decide) hg);have bK:=aa.mk (hb);have cL:=aa.mk (ho);clear ep;clear lq;clear lr;clear HB;clear HO_6;clear qC;clear EM;have ep:=br;have lq:=bt;have lr:=bA;have HB:=bK;have Re:=cL;clear br bt bA bK cL;clear ho hb hg hat))
         go_roundg k1
         case measure=>have:=lw.out;omega
         case rel=>exact ⟨(Ra),(wrap64 (dY+1)),(by first|rfl|(simp;done)|(simp [*];done)),H',⟨by have:=lw.out;omega⟩,⟨by (with_reducible repeat (first|apply Kd.lQ|apply Kd.lR|apply Kd.mQ));exact Kd.qM Re.out (fun _ hk=>trivial)⟩,⟨by (with_reducible repeat (first|refine ak ?_ _|refine aq ?_|refine aj ?_ _));exact ep.out⟩,⟨by repeat (first|(with_reducible first|exact HB.out|apply ae|apply ab|apply af|refine ai ?_ lp.out)|exact HB.out)⟩⟩
        rw [if_neg sI] at H
        exact absurd H (by simp)
       rw [if_neg uu] at H
       exact absurd H (by simp)
      rw [if_neg rR] at H
      exact absurd H (by simp)
     rw [if_neg sZ] at H
     exact absurd H (by simp)
    rw [if_neg c8] at H
    have c8b0:decide (dY<(au.length:Int))=false:=decide_eq_false c8
    clear c8
    simp only [Option.some.injEq,Prod.mk.injEq] at H
    obtain ⟨rfl,rfl⟩:=H
    have rV:wr.cell? ⟨iW,0,none⟩=some (.int .i64 aI):=(ag ep.out 0).trans rfl
    have rW:wr.cell? ⟨iW,1,none⟩=some (.slice bh aD.length bi):=(ag ep.out 1).trans rfl
    have rX:wr.cell? ⟨iW,2,none⟩=some (.slice bu au.length aW):=(ag ep.out 2).trans rfl
    have rY:=ah ep.out 0
    have rZ:=ah ep.out 1
    have r7:=ah ep.out 2
    go_wp2
    go_ret2
    exact ⟨_,by first|rfl|(simp [bB,bC]<;>rfl)|(simp [*,bB,bC]<;>rfl),by (with_reducible repeat (first|apply Kd.lQ|apply Kd.lR|apply Kd.mQ));exact HO_6.out,by repeat (first|(with_reducible first|exact HB.out|apply ae|apply ab|apply af|refine ai ?_ lp.out)|exact HB.out)⟩
 replace c4:=Bool.eq_false_iff.mpr c4
 subst c4
 have H1:(some (([]:List (oW)),1))=some (r1,r2):=by rw [if_neg (show ¬(false=true) by decide)] at H;exact H
 clear H
 have H:=H1
 clear H1
 simp only [Option.some.injEq,Prod.mk.injEq] at H
 obtain ⟨rfl,rfl⟩:=H
 go_enter Try.func45,Try.ntmps45
 go_wp2_with (first|((with_reducible refine bF (N:=2) rfl ?_);refine bH ?hg (N:=2) ?hd (cs:=#[.int .i64 aI,.slice bh aD.length bi,.slice bu au.length aW]) (t:=26) ?hr ?_;(case hd=>rfl);(case hg=>rfl);(case hr=>first|(go_simp;done)|(go_simp;rfl));intro iW hg Ic hbox hb;have br:=aa.mk (aE (by repeat (first|(with_reducible first|exact HB.out|apply ae|apply ab|apply af)|exact HB.out)) hb);have bt:=aa.mk (hbox);have bA:=aa.mk ((by rw [hg];exact (az (by repeat (first|(with_reducible first|exact HB.out|apply ae|apply ab|apply af)|exact HB.out))):w.heap.size≤iW));have bK:=aa.mk ((by rw [hg];exact (az (by repeat (first|(with_reducible first|exact HB.out|apply ae|apply ab|apply af)|exact HB.out))):w.heap.size≤iW));clear HB;have HB:=br;have ep:=bt;have Q3:=bA;have lp:=bK;clear br bt bA bK;clear hb hbox hg;have zi:Ic.cell? ⟨iW,0,none⟩=some (.int .i64 aI):=(ag ep.out 0).trans rfl;have zj:Ic.cell? ⟨iW,1,none⟩=some (.slice bh aD.length bi):=(ag ep.out 1).trans rfl;have zk:Ic.cell? ⟨iW,2,none⟩=some (.slice bu au.length aW):=(ag ep.out 2).trans rfl;have zl:=ah ep.out 0;have zm:=ah ep.out 1;have zn:=ah ep.out 2)|((with_reducible refine bY (f:=52) rfl ?_);refine er (some 13) rfl rfl Try.func52 (by kernel_rfl) rfl #[.agg #[.int .i64 aI,.slice bh aD.length bi,.slice bu au.length aW],.slice A1 l1.length c1] rfl (by (try simp only [List.map_toArray,List.map_cons,List.map_nil]);first|done|rfl|(simp only [List.length_drop,List.length_take];rfl)) ?_;(with_reducible refine (gp.calls aI _ _ aD _ _ au _ _ l1 false _ ?bS ?bT ?cJ ?cN ?du ?dw A3.out).mono ?_);(case bS=>repeat (first|exact (Kd.aN fA.out HB.out)|(with_reducible refine Kd.aT ?_ _)|(with_reducible refine Kd.aU ?_ _)|(with_reducible refine Kd.bk ?_)));(case bT=>exact fB.out);(case cJ=>repeat (first|exact (Kd.aN ez.out HB.out)|(with_reducible refine Kd.aT ?_ _)|(with_reducible refine Kd.aU ?_ _)|(with_reducible refine Kd.bk ?_)));(case cN=>exact fC.out);(case du=>repeat (first|exact (Kd.aN lA.out HB.out)|(with_reducible refine Kd.aT ?_ _)|(with_reducible refine Kd.aU ?_ _)|(with_reducible refine Kd.bk ?_)));(case dw=>exact pK.out);rintro e oR ⟨rfl,hb⟩;refine ⟨_,rfl, ?_⟩;have br:=aa.mk (aH (g:=iW) (o:= .cells #[.int .i64 aI,.slice bh aD.length bi,.slice bu au.length aW] 26 (0,0)) (by (with_reducible repeat (first|refine ak ?_ _|refine aq ?_|refine aj ?_ _));exact ep.out) hb);have bt:=aa.mk (aE (by repeat (first|(with_reducible first|exact HB.out|apply ae|apply ab|apply af|refine ai ?_ lp.out)|exact HB.out)) hb);clear ep;clear HB;have ep:=br;have HB:=bt;clear br bt;(try clear hb);(try clear hb2);(try clear hk);(try clear hi)))
 go_ret2
 exact ⟨_,by first|rfl|(simp [bB,bC]<;>rfl)|(simp [*,bB,bC]<;>rfl),by first|exact Kd.sy _ _ _ _ _|exact Kd.sA _ _ _ _ _|exact Kd.sB _ _ _ _ _|exact Kd.sr _ _ _ _ _|exact Kd.jE _ _ _ _ _,by repeat (first|(with_reducible first|exact HB.out|apply ae|apply ab|apply af|refine ai ?_ lp.out)|exact HB.out)⟩
end Go.Proofs.Ytbkjplomoegbdaa.PB
