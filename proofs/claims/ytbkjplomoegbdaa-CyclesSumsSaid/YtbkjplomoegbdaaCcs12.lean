/- Parts of the proof of CyclesSums, gathered by a program of this claim out of texts that it or the kit's print wrote: lemmas alone, no condition of their own. -/
import Derived.Test.YtbkjplomoegbdaaCcs11
namespace Go.Proofs.Ytbkjplomoegbdaa.PB
open Go.RowKit Go.Proofs.YtbkjplomoegbdaaW.bO Go.Proofs.YtbkjplomoegbdaaW.dA Go.Proofs.YtbkjplomoegbdaaW.dG
attribute [local go_sem] iQ iR jM jN gW gX iS iT
set_option linter.unusedVariables false
set_option linter.unusedSimpArgs false
mutual
def aM.l0:Nat→List Int→Int→Int→Int→List (hO)→List (eu)→Option (List Int)
 |0,_,_,_,_,_,_=>none
 |k+1,x3,x19,x20,ni,n8,iu=>if x20<x19 then (if 0≤x20 then (if x20<(x3.length:Int) then (aM.l0 k (x3.set (x20:Int).toNat x20) x19 (wrap64 (x20+1)) ni n8 iu) else (none)) else (none)) else (if 0≤(iu.length:Int) then (if ((iu.length:Int):Int).toNat≤281474976710656 then (aM.l1 k x3 (List.replicate ((iu.length:Int):Int).toNat false) 0 ni n8 iu) else (none)) else (none))
def aM.l1:Nat→List Int→List Bool→Int→Int→List (hO)→List (eu)→Option (List Int)
 |0,_,_,_,_,_,_=>none
 |k+1,x3,x5,x6,ni,n8,iu=>if x6<ni then (aM.l2 k x3 x5 x6 0 ni n8 iu) else (aM.l3 k x5 ([]:List Int) (x5.length:Int) 0)
def aM.l2:Nat→List Int→List Bool→Int→Int→Int→List (hO)→List (eu)→Option (List Int)
 |0,_,_,_,_,_,_,_=>none
 |k+1,x3,x5,x6,x7,ni,n8,iu=>if x7<(iu.length:Int) then (if 0≤x7 then (if (wrap64 (((aC iu x7).f4) - ((aC iu x7).f3)))=x6 then ((cm.f k x3 ((aC iu x7).f0) ((aC iu x7).f1) ((aC iu x7).f2) ((aC iu x7).f3) ((aC iu x7).f4) ((aC iu x7).f5)).bind fun xd=>(if xd.1=true then (if x7<(x5.length:Int) then (aM.l2 k xd.2 (x5.set (x7:Int).toNat true) x6 (wrap64 (x7+1)) ni n8 iu) else (none)) else (aM.l2 k xd.2 x5 x6 (wrap64 (x7+1)) ni n8 iu))) else (aM.l2 k x3 x5 x6 (wrap64 (x7+1)) ni n8 iu)) else (none)) else (aM.l1 k x3 x5 (wrap64 (x6+1)) ni n8 iu)
def aM.l3:Nat→List Bool→List Int→Int→Int→Option (List Int)
 |0,_,_,_,_=>none
 |k+1,x5,x9,x66,NG=>if NG<x66 then (if 0≤NG then (if NG<(x5.length:Int) then (if uf false x5 NG=true then (if x9.length<17592186044416 then (aM.l3 k x5 (x9++[NG]) x66 (wrap64 (NG+1))) else (none)) else (aM.l3 k x5 x9 x66 (wrap64 (NG+1)))) else (none)) else (none)) else (some x9)
end
def aM.f (k:Nat) (aI:Int) (aD:List (hO)) (au:List (eu)):Option (List Int):=(aQ.f k aI aD au).bind fun Bx=>(if Bx=true then (if 0≤(aD.length:Int) then (if ((aD.length:Int):Int).toNat≤35184372088832 then ((some (List.replicate ((aD.length:Int):Int).toNat 0:List Int)).bind fun pG=>(aM.l0 k pG (pG.length:Int) 0 aI aD au)) else (none)) else (none)) else (some ([]:List Int)))
set_option maxHeartbeats 8000000 in
set_option maxRecDepth 100000 in
theorem aM.calls (k:Nat) (aI:Int) (bh:Option Addr) (bi:Nat) (aD:List (hO)) (bu:Option Addr) (aW:Nat) (au:List (eu)) (r:List Int) (w:World) (eI:Kd.C oS w bh aD.length aD) (eS:aD.length≤bi) (eC:Kd.C nD w bu au.length au) (eT:au.length≤aW) (h:aM.f k aI aD au=some r):
  Calls Try.prog 32 #[.agg #[.int .i64 aI,.slice bh aD.length bi,.slice bu au.length aW]] w fun e w'=>∃ uo:Value,e= .returned (uo)∧Kd.R (Kd.int .i64) 3 w' w.heap.size (fun _=>True) uo r∧Below w.heap.size w w':=by
 have nu:=Try.underlying26
 have sj:=Try.underlying36
 have fA:=aa.mk eI
 have fB:=aa.mk eS
 clear eI eS
 have ez:=aa.mk eC
 have fC:=aa.mk eT
 clear eC eT
 have HB:=aa.mk (Below.refl w.heap.size w)
 have H:((aQ.f k aI aD au).bind fun Bx=>(if Bx=true then (if 0≤(aD.length:Int) then (if ((aD.length:Int):Int).toNat≤35184372088832 then ((some (List.replicate ((aD.length:Int):Int).toNat 0:List Int)).bind fun pG=>(aM.l0 k pG (pG.length:Int) 0 aI aD au)) else (none)) else (none)) else (some ([]:List Int))))=some r:=h
 clear h
 replace H:=Option.bind_eq_some_iff.mp H
 obtain ⟨Bx,LF,H⟩:=H
 replace H:(if Bx=true then (if 0≤(aD.length:Int) then (if ((aD.length:Int):Int).toNat≤35184372088832 then ((some (List.replicate ((aD.length:Int):Int).toNat 0:List Int)).bind fun pG=>(aM.l0 k pG (pG.length:Int) 0 aI aD au)) else (none)) else (none)) else (some ([]:List Int)))=some r:=H
 have A2:=aa.mk LF
 clear LF
 by_cases c3:Bx=true
 ·subst c3
  have H1:(if 0≤(aD.length:Int) then (if ((aD.length:Int):Int).toNat≤35184372088832 then ((some (List.replicate ((aD.length:Int):Int).toNat 0:List Int)).bind fun pG=>(aM.l0 k pG (pG.length:Int) 0 aI aD au)) else (none)) else (none))=some r:=by rw [if_pos rfl] at H;exact H
  clear H
  have H:=H1
  clear H1
  by_cases c4:0≤(aD.length:Int)
  ·rw [if_pos c4] at H
   have c4b0:=eq_true c4
   have c4b1:decide (0≤(aD.length:Int))=true:=decide_eq_true c4
   clear c4
   by_cases c5:((aD.length:Int):Int).toNat≤35184372088832
   ·rw [if_pos c5] at H
    have c5b0:=eq_true c5
    have c5b1:decide (((aD.length:Int):Int).toNat≤35184372088832)=true:=decide_eq_true c5
    clear c5
    obtain ⟨pG,Bz⟩:∃ y_:List Int,y_=(List.replicate ((aD.length:Int):Int).toNat 0):=⟨_,rfl⟩
    replace H:(aM.l0 k pG (pG.length:Int) 0 aI aD au)=some r:=by first|(rw [Bz];with_reducible exact H)|(have gT:=(Option.bind_some _ _).symm.trans H;rw [Bz];with_reducible exact gT)|(have gT:=(Option.bind_some _ _).symm.trans H;with_reducible exact gT)|with_reducible exact H|(rw [Bz];exact H)|exact H
    have LV:=aa.mk Bz
    clear Bz
    have H':=aa.mk H
    clear H
    go_enter Try.func32,Try.ntmps32
    go_wp2_with (first|((with_reducible refine bF (N:=1) rfl ?_);refine bH ?hg (N:=1) ?hd (cs:=#[.int .i64 aI,.slice bh aD.length bi,.slice bu au.length aW]) (t:=26) ?hr ?_;(case hd=>rfl);(case hg=>rfl);(case hr=>first|(go_simp;done)|(go_simp;rfl));intro eN hg w6 hbox hb;have br:=aa.mk (aE (by repeat (first|(with_reducible first|exact HB.out|apply ae|apply ab|apply af)|exact HB.out)) hb);have bt:=aa.mk (hbox);have bA:=aa.mk ((by rw [hg];exact (az (by repeat (first|(with_reducible first|exact HB.out|apply ae|apply ab|apply af)|exact HB.out))):w.heap.size≤eN));have bK:=aa.mk ((by rw [hg];exact (az (by repeat (first|(with_reducible first|exact HB.out|apply ae|apply ab|apply af)|exact HB.out))):w.heap.size≤eN));clear HB;have HB:=br;have cE:=bt;have QA:=bA;have iB:=bK;clear br bt bA bK;clear hb hbox hg;have mX:w6.cell? ⟨eN,0,none⟩=some (.int .i64 aI):=(ag cE.out 0).trans rfl;have mY:w6.cell? ⟨eN,1,none⟩=some (.slice bh aD.length bi):=(ag cE.out 1).trans rfl;have mZ:w6.cell? ⟨eN,2,none⟩=some (.slice bu au.length aW):=(ag cE.out 2).trans rfl;have m5:=ah cE.out 0;have m6:=ah cE.out 1;have m7:=ah cE.out 2)|((with_reducible refine bY (f:=85) rfl ?_);refine er (some 12) rfl rfl Try.func85 (by kernel_rfl) rfl #[.agg #[.int .i64 aI,.slice bh aD.length bi,.slice bu au.length aW]] rfl (by (try simp only [List.map_toArray,List.map_cons,List.map_nil]);first|done|rfl|(simp only [List.length_drop,List.length_take];rfl)) ?_;(with_reducible refine (aQ.calls k aI _ _ aD _ _ au true _ ?bS ?bT ?cJ ?cN A2.out).mono ?_);(case bS=>repeat (first|exact (Kd.aN fA.out HB.out)|(with_reducible refine Kd.aT ?_ _)|(with_reducible refine Kd.aU ?_ _)|(with_reducible refine Kd.bk ?_)));(case bT=>exact fB.out);(case cJ=>repeat (first|exact (Kd.aN ez.out HB.out)|(with_reducible refine Kd.aT ?_ _)|(with_reducible refine Kd.aU ?_ _)|(with_reducible refine Kd.bk ?_)));(case cN=>exact fC.out);rintro e w8 ⟨rfl,hb⟩;refine ⟨_,rfl, ?_⟩;have br:=aa.mk (aH (g:=eN) (o:= .cells #[.int .i64 aI,.slice bh aD.length bi,.slice bu au.length aW] 26 (0,0)) (by (with_reducible repeat (first|refine ak ?_ _|refine aq ?_|refine aj ?_ _));exact cE.out) hb);have bt:=aa.mk (aE (by repeat (first|(with_reducible first|exact HB.out|apply ae|apply ab|apply af|refine ai ?_ iB.out)|exact HB.out)) hb);clear cE;clear HB;have cE:=br;have HB:=bt;clear br bt;(try clear hb);(try clear hb2);(try clear hk);(try clear hi);have jP:w8.cell? ⟨eN,0,none⟩=some (.int .i64 aI):=(ag cE.out 0).trans rfl;have jQ:w8.cell? ⟨eN,1,none⟩=some (.slice bh aD.length bi):=(ag cE.out 1).trans rfl;have j9:w8.cell? ⟨eN,2,none⟩=some (.slice bu au.length aW):=(ag cE.out 2).trans rfl;have ke:=ah cE.out 0;have jR:=ah cE.out 1;have kg:=ah cE.out 2)|((with_reducible refine bF (N:=17) rfl ?_);refine Kd.p8 (Kd.int .i64) _ 3 rfl (N:=17) rfl 22 _ _ rfl (aD.length:Int) rfl rfl Try.underlying22 (.int .i64 0) 8 info3 rfl (by decide) (by omega) 0 (ok:=fun _=>True) (okp:=fun _=>True) rfl (fun _ hk=>hk) trivial (of_decide_eq_true (by assumption)) (Nat.le_trans (Nat.mul_le_mul_right _ (of_decide_eq_true (by assumption):(aD.length:Int).toNat≤35184372088832)) (by omega)) (Below.refl _ _) (Nat.le_refl _) ?_;intro adV oC wE hb hg_ hnew_;clear hg_ hnew_;(first|rw [← LV.out] at wE|(simp only [Int.reduceToNat] at wE;rw [← LV.out] at wE));have br:=aa.mk (Kd.eH wE (az (by repeat (first|(with_reducible first|exact HB.out|apply ae|apply ab|apply af|refine ai ?_ iB.out)|exact HB.out))));have bt:=aa.mk (aH (g:=eN) (o:= .cells #[.int .i64 aI,.slice bh aD.length bi,.slice bu au.length aW] 26 (0,0)) (by (with_reducible repeat (first|refine ak ?_ _|refine aq ?_|refine aj ?_ _));exact cE.out) hb);have bA:=aa.mk (aE (by repeat (first|(with_reducible first|exact HB.out|apply ae|apply ab|apply af|refine ai ?_ iB.out)|exact HB.out)) hb);clear cE;clear HB;have LW:=br;have cE:=bt;have HB:=bA;clear br bt bA;clear hb wE;obtain ⟨wF,ut,MP⟩:=Kd.cA LW.out;subst MP))
    go_loopg [20] k (fun kq Zm w'=>∃ (pN:List Int) (j4:Int),Zm= .int .i64 j4∧aa (aM.l0 kq pN (pG.length:Int) j4 aI aD au=some r)∧aa (kq≤k)∧aa (Kd.R (Kd.int .i64) 3 w' w.heap.size (fun _=>True) (.slice wF pG.length ut) pN)∧aa (w'.heap[eN]? =some (.cells #[.int .i64 aI,(.slice bh aD.length bi),(.slice bu au.length aW)] 26 (0,0)))∧aa (Below w.heap.size w w'))
    case atStart=>exact ⟨(pG),(0),(by first|rfl|(simp;done)|(simp [*];done)),H',⟨Nat.le_refl _⟩,⟨by (with_reducible repeat (first|apply Kd.aw|apply Kd.av|apply Kd.aA));exact LW.out⟩,⟨by (with_reducible repeat (first|refine ak ?_ _|refine aq ?_|refine aj ?_ _));exact cE.out⟩,⟨by repeat (first|(with_reducible first|exact HB.out|apply ae|apply ab|apply af|refine ai ?_ iB.out)|exact HB.out)⟩⟩
    case round=>
     clear H'
     try clear p2
     try clear c3
     try clear c4
     try clear c4b0
     try clear c4b1
     try clear c5
     try clear c5b0
     try clear c5b1
     try clear c8
     try clear mX
     try clear mY
     try clear mZ
     try clear jP
     try clear jQ
     try clear j9
     try clear m5
     try clear m6
     try clear m7
     try clear ke
     try clear jR
     try clear kg
     obtain ⟨pN,j4,rfl,HA,lw,HO_3,cE,HB⟩:=hrel
     have fU:=(Kd.bf HO_3.out).1
     rw [fU] at HO_3
     (try simp only [fU])
     (try simp only [fU] at cE)
     cases gk with
     |zero=>exact absurd HA.out (by simp [aM.l0])
     |succ k1=>
      have H:=HA.out
      clear HA
      simp only [aM.l0] at H
      by_cases oh:j4<(pG.length:Int)
      ·rw [if_pos oh] at H
       have c13b0:decide (j4<(pG.length:Int))=true:=decide_eq_true oh
       (try (have c13b0r:=c13b0;simp only [fU] at c13b0r))
       clear oh
       by_cases rR:0≤j4
       ·rw [if_pos rR] at H
        have c14b0:decide (0≤j4)=true:=decide_eq_true rR
        clear rR
        by_cases uu:j4<(pN.length:Int)
        ·rw [if_pos uu] at H
         have c15b0:decide (j4<(pN.length:Int))=true:=decide_eq_true uu
         (try (have c15b0r:=c15b0;simp only [fU] at c15b0r))
         clear uu
         obtain ⟨NH,BA⟩:∃ y_:List Int,y_=(pN.set (j4:Int).toNat j4):=⟨_,rfl⟩
         replace H:(aM.l0 k1 NH (pG.length:Int) (wrap64 (j4+1)) aI aD au)=some r:=by first|(rw [BA];with_reducible exact H)|(have gT:=(Option.bind_some _ _).symm.trans H;rw [BA];with_reducible exact gT)|(have gT:=(Option.bind_some _ _).symm.trans H;with_reducible exact gT)|with_reducible exact H|(rw [BA];exact H)|exact H
         have QB:=aa.mk BA
         clear BA
         have H':=aa.mk H
         clear H
         have J2:0≤(j4:Int):=of_decide_eq_true (by assumption)
         have J3:(j4:Int)<((pN.length:Int):Int):=of_decide_eq_true (by assumption)
         obtain ⟨NI,YZ,JO,QC,Zo,adW,QD⟩:=Kd.mP HO_3.out (by first|omega|(have hz_:=(Kd.bf HO_3.out).1;omega))
         (first|cases JO|(injection JO with ea_ en_ ec_;(first|subst ea_|(injection ea_ with ea_;subst ea_));subst ec_;clear en_))
         have Zp:=aa.mk QC
         have adX:=aa.mk QD
         clear QC Zo QD
         obtain ⟨C4,Zq⟩:=Kd.jq 0 HO_3.out (j4:Int) J2 J3
         replace J2:=eq_true J2
         replace J3:=eq_true J3
         have NJ:=Kd.l6 HO_3.out (j4:Int) j4
         go_wp2_with (first|((with_reducible refine iM (t:=3) (p:=26) rfl ?_);refine hU (t:=3) (p:=26) (v:= ?vo_w18) (w1:=(wr.setCell ⟨NI,(j4:Int).toNat,none⟩ (.int .i64 j4))) ?hg ?ho ?hn ?hr ?_;(case ho=>rfl);(case hg=>rfl);(case hn=>rfl);(case hr=>first|(go_simp;done)|(go_simp;rfl));intro AR hw;have hg:wr.grownBy AR (some NI):=(by rw [hw];exact NJ.2);have hp_:Kd.R (Kd.int .i64) 3 AR w.heap.size (fun _=>True) (.slice (some ⟨NI,0,none⟩) pN.length ut) NH:=(by rw [hw,QB.out];exact NJ.1);clear NJ;have br:=aa.mk (hp_);have bt:=aa.mk (dq (g:=eN) (o:= .cells #[.int .i64 aI,.slice bh aD.length bi,.slice bu au.length aW] 26 (0,0)) (by (with_reducible repeat (first|refine ak ?_ _|refine aq ?_|refine aj ?_ _));exact cE.out) hg (Kd.mz HO_3.out cE.out (by decide)));have bA:=aa.mk ((by rw [hw];exact ai (HB.out) Zp.out:Below w.heap.size w AR));clear HO_3;clear cE;clear HB;have HO_3:=br;have cE:=bt;have HB:=bA;clear br bt bA;clear hg hw hp_))
         (try simp only [← fU])
         go_roundg k1
         case measure=>have:=lw.out;omega
         case rel=>exact ⟨(NH),(wrap64 (j4+1)),(by first|rfl|(simp;done)|(simp [*];done)),H',⟨by have:=lw.out;omega⟩,⟨by (try simp only [fU]);(with_reducible repeat (first|apply Kd.aw|apply Kd.av|apply Kd.aA));exact HO_3.out⟩,⟨by (try simp only [fU]);(with_reducible repeat (first|refine ak ?_ _|refine aq ?_|refine aj ?_ _));exact cE.out⟩,⟨by repeat (first|(with_reducible first|exact HB.out|apply ae|apply ab|apply af|refine ai ?_ iB.out)|exact HB.out)⟩⟩
        rw [if_neg uu] at H
        exact absurd H (by simp)
       rw [if_neg rR] at H
       exact absurd H (by simp)
      rw [if_neg oh] at H
      have c13b0:decide (j4<(pG.length:Int))=false:=decide_eq_false oh
      (try (have c13b0r:=c13b0;simp only [fU] at c13b0r))
      clear oh
      by_cases Af:0≤(au.length:Int)
      ·rw [if_pos Af] at H
       have c19b0:=eq_true Af
       have c19b1:decide (0≤(au.length:Int))=true:=decide_eq_true Af
       clear Af
       by_cases Ag:((au.length:Int):Int).toNat≤281474976710656
       ·rw [if_pos Ag] at H
        have c20b0:=eq_true Ag
        have c20b1:decide (((au.length:Int):Int).toNat≤281474976710656)=true:=decide_eq_true Ag
        clear Ag
        obtain ⟨QE,BB⟩:∃ y_:List Bool,y_=(List.replicate ((au.length:Int):Int).toNat false):=⟨_,rfl⟩
        replace H:(aM.l1 k1 pN QE 0 aI aD au)=some r:=by first|(rw [BB];with_reducible exact H)|(have gT:=(Option.bind_some _ _).symm.trans H;rw [BB];with_reducible exact gT)|(have gT:=(Option.bind_some _ _).symm.trans H;with_reducible exact gT)|with_reducible exact H|(rw [BB];exact H)|exact H
        have LX:=aa.mk BB
        clear BB
        have H':=aa.mk H
        clear H
        have vF:wr.cell? ⟨eN,0,none⟩=some (.int .i64 aI):=(ag cE.out 0).trans rfl
        have vG:wr.cell? ⟨eN,1,none⟩=some (.slice bh aD.length bi):=(ag cE.out 1).trans rfl
        have vH:wr.cell? ⟨eN,2,none⟩=some (.slice bu au.length aW):=(ag cE.out 2).trans rfl
        have vI:=ah cE.out 0
        have vJ:=ah cE.out 1
        have vK:=ah cE.out 2
        go_wp2_with (first|((with_reducible refine bF (N:=31) rfl ?_);refine Kd.p8 Kd.bool _ 4 rfl (N:=31) rfl 31 _ _ rfl (au.length:Int) rfl rfl Try.underlying31 (.bool false) 1 Lu rfl (by decide) (by omega) false (ok:=fun _=>True) (okp:=fun _=>True) rfl (fun _ hk=>hk) trivial (of_decide_eq_true (by assumption)) (Nat.le_trans (Nat.mul_le_mul_right _ (of_decide_eq_true (by assumption):(au.length:Int).toNat≤281474976710656)) (by omega)) (Below.refl _ _) (Nat.le_refl _) ?_;intro J4 Ju HW hb hg_ hnew_;clear hg_ hnew_;(first|rw [← LX.out] at HW|(simp only [Int.reduceToNat] at HW;rw [← LX.out] at HW));have br:=aa.mk (Kd.aZ (by (with_reducible repeat (first|apply Kd.aw|apply Kd.av|apply Kd.aA));exact HO_3.out) hb);have bt:=aa.mk (Kd.eH HW (az (by repeat (first|(with_reducible first|exact HB.out|apply ae|apply ab|apply af|refine ai ?_ iB.out)|exact HB.out))));have bA:=aa.mk (aH (g:=eN) (o:= .cells #[.int .i64 aI,.slice bh aD.length bi,.slice bu au.length aW] 26 (0,0)) (by (with_reducible repeat (first|refine ak ?_ _|refine aq ?_|refine aj ?_ _));exact cE.out) hb);have bK:=aa.mk (aE (by repeat (first|(with_reducible first|exact HB.out|apply ae|apply ab|apply af|refine ai ?_ iB.out)|exact HB.out)) hb);clear HO_3;clear cE;clear HB;have HO_3:=br;have QF:=bt;have cE:=bA;have HB:=bK;clear br bt bA bK;clear hb HW))
        go_loopg [6] k1 (fun kq v6 w'=>∃ (dH:List Int) (iV:List Bool) (qJ:Int),v6= .int .i64 qJ∧aa (aM.l1 kq dH iV qJ aI aD au=some r)∧aa (kq≤k1)∧aa (Kd.R (Kd.int .i64) 3 w' w.heap.size (fun _=>True) (.slice wF pN.length ut) dH)∧aa (Kd.R Kd.bool 4 w' w.heap.size (fun _=>True) J4 iV)∧aa (w'.heap[eN]? =some (.cells #[.int .i64 aI,(.slice bh aD.length bi),(.slice bu au.length aW)] 26 (0,0)))∧aa (Below w.heap.size w w'))
        case atStart=>exact ⟨(pN),(QE),(0),(by first|rfl|(simp;done)|(simp [*];done)),H',⟨Nat.le_refl _⟩,⟨by (try simp only [fU]);(with_reducible repeat (first|apply Kd.aw|apply Kd.av|apply Kd.aA));exact HO_3.out⟩,⟨by (try simp only [fU]);(with_reducible repeat (first|apply Kd.aw|apply Kd.av|apply Kd.aA));exact QF.out⟩,⟨by (try simp only [fU]);(with_reducible repeat (first|refine ak ?_ _|refine aq ?_|refine aj ?_ _));exact cE.out⟩,⟨by repeat (first|(with_reducible first|exact HB.out|apply ae|apply ab|apply af|refine ai ?_ iB.out)|exact HB.out)⟩⟩
        case round=>
         clear H'
         try clear c1
         try clear p1
         try clear q1
         try clear hx1
         try clear hf1
         try clear c2
         try clear p2
         try clear c3
         try clear c4
         try clear c4b0
         try clear c4b1
         try clear c5
         try clear c5b0
         try clear c5b1
         try clear p6
         try clear c8
         try clear oh
         try clear c13b0
         try clear rR
         try clear c14b0
         try clear uu
         try clear c15b0
         try clear J2
         try clear J3
         try clear QG
         try clear QH
         try clear Af
         try clear c19b0
         try clear c19b1
         try clear Ag
         try clear c20b0
         try clear c20b1
         try clear vF
         try clear vG
         try clear vH
         try clear mX
         try clear mY
         try clear mZ
         try clear jP
         try clear jQ
         try clear j9
         try clear vI
         try clear vJ
         try clear vK
         try clear m5
         try clear m6
         try clear m7
         try clear ke
         try clear jR
         try clear kg
         try clear C4
         try clear J2
         try clear p2
         try clear J3
         obtain ⟨dH,iV,qJ,rfl,HA,wG,HO_3,HO_5,cE,HB⟩:=hrel
         have iC:=(Kd.bf HO_3.out).1
         rw [iC] at HO_3
         (try simp only [iC])
         (try simp only [iC] at cE)
         (try simp only [iC] at HO_5)
         cases gk with
         |zero=>exact absurd HA.out (by simp [aM.l1])
         |succ k2=>
          have H:=HA.out
          clear HA
          simp only [aM.l1] at H
          by_cases LY:qJ<aI
          ·rw [if_pos LY] at H
           have c24b0:decide (qJ<aI)=true:=decide_eq_true LY
           clear LY
           have H':=aa.mk H
           clear H
           have zo:wr.cell? ⟨eN,0,none⟩=some (.int .i64 aI):=(ag cE.out 0).trans rfl
           have zp:wr.cell? ⟨eN,1,none⟩=some (.slice bh aD.length bi):=(ag cE.out 1).trans rfl
           have zq:wr.cell? ⟨eN,2,none⟩=some (.slice bu au.length aW):=(ag cE.out 2).trans rfl
           have zr:=ah cE.out 0
           have zt:=ah cE.out 1
           have zu:=ah cE.out 2
           go_wp2
           go_loopg [7] k2 (fun kq v7 w'=>∃ (sP:List Int) (pR:List Bool) (cX:Int),v7= .int .i64 cX∧aa (aM.l2 kq sP pR qJ cX aI aD au=some r)∧aa (kq≤k2)∧aa (Kd.R (Kd.int .i64) 3 w' w.heap.size (fun _=>True) (.slice wF dH.length ut) sP)∧aa (Kd.R Kd.bool 4 w' w.heap.size (fun _=>True) J4 pR)∧aa (w'.heap[eN]? =some (.cells #[.int .i64 aI,(.slice bh aD.length bi),(.slice bu au.length aW)] 26 (0,0)))∧aa (Below w.heap.size w w'))
           case atStart=>exact ⟨(dH),(iV),(0),(by first|rfl|(simp;done)|(simp [*];done)),H',⟨Nat.le_refl _⟩,⟨by (try simp only [fU]);(try simp only [iC]);(with_reducible repeat (first|apply Kd.aw|apply Kd.av|apply Kd.aA));exact HO_3.out⟩,⟨by (try simp only [fU]);(try simp only [iC]);(with_reducible repeat (first|apply Kd.aw|apply Kd.av|apply Kd.aA));exact HO_5.out⟩,⟨by (try simp only [fU]);(try simp only [iC]);(with_reducible repeat (first|refine ak ?_ _|refine aq ?_|refine aj ?_ _));exact cE.out⟩,⟨by repeat (first|(with_reducible first|exact HB.out|apply ae|apply ab|apply af|refine ai ?_ iB.out)|exact HB.out)⟩⟩
           case round=>
            clear H'
            try clear c1
            try clear p1
            try clear q1
            try clear hx1
            try clear hf1
            try clear c2
            try clear p2
            try clear c3
            try clear c4
            try clear c4b0
            try clear c4b1
            try clear c5
            try clear c5b0
            try clear c5b1
            try clear p6
            try clear c8
            try clear oh
            try clear c13b0
            try clear rR
            try clear c14b0
            try clear uu
            try clear c15b0
            try clear J2
            try clear J3
            try clear QG
            try clear QH
            try clear Af
            try clear c19b0
            try clear c19b1
            try clear Ag
            try clear c20b0
            try clear c20b1
            try clear LY
            try clear c24b0
            try clear vF
            try clear vG
            try clear vH
            try clear zo
            try clear zp
            try clear zq
            try clear mX
            try clear mY
            try clear mZ
            try clear jP
            try clear jQ
            try clear j9
            try clear vI
            try clear vJ
            try clear vK
            try clear zr
            try clear zt
            try clear zu
            try clear m5
            try clear m6
            try clear m7
            try clear ke
            try clear jR
            try clear kg
            try clear C4
            try clear p1
            try clear J2
            try clear p2
            try clear p6
            try clear q1
            try clear J3
            obtain ⟨sP,pR,cX,rfl,HA,EK,HO_3,HO_5,cE,HB⟩:=hrel
            have kS:=(Kd.bf HO_3.out).1
            rw [kS] at HO_3
            (try simp only [kS])
            (try simp only [kS] at cE)
            (try simp only [kS] at HO_5)
            cases gk with
            |zero=>exact absurd HA.out (by simp [aM.l2])
            |succ k3=>
             have H:=HA.out
             clear HA
             simp only [aM.l2] at H
             by_cases Jy:cX<(au.length:Int)
             ·rw [if_pos Jy] at H
              have c26b0:decide (cX<(au.length:Int))=true:=decide_eq_true Jy
              (try (have c26b0r:=c26b0;simp only [fU,iC,kS] at c26b0r))
              clear Jy
              by_cases M5:0≤cX
              ·rw [if_pos M5] at H
               have c27b0:decide (0≤cX)=true:=decide_eq_true M5
               clear M5
               by_cases LZ:(wrap64 (((aC au cX).f4) - ((aC au cX).f3)))=qJ
               ·rw [if_pos LZ] at H
                have c28b0:((wrap64 (((aC au cX).f4) - ((aC au cX).f3)))==qJ)=true:=beq_iff_eq.mpr LZ
                have c28b1:((wrap64 (((aC au cX).f4) - ((aC au cX).f3))) !=qJ)=false:=bne_eq_false_iff_eq.mpr LZ
                clear LZ
                replace H:=Option.bind_eq_some_iff.mp H
                obtain ⟨⟨QI,zw⟩,QJ,H⟩:=H
                replace H:(if QI=true then (if cX<(pR.length:Int) then (aM.l2 k3 zw (pR.set (cX:Int).toNat true) qJ (wrap64 (cX+1)) aI aD au) else (none)) else (aM.l2 k3 zw pR qJ (wrap64 (cX+1)) aI aD au))=some r:=H
                have A29:=aa.mk QJ
                clear QJ
                by_cases QK:QI=true
                ·subst QK
                 have H1:(if cX<(pR.length:Int) then (aM.l2 k3 zw (pR.set (cX:Int).toNat true) qJ (wrap64 (cX+1)) aI aD au) else (none))=some r:=by rw [if_pos rfl] at H;exact H
                 clear H
                 have H:=H1
                 clear H1
                 by_cases O4:cX<(pR.length:Int)
                 ·rw [if_pos O4] at H
                  have c31b0:decide (cX<(pR.length:Int))=true:=decide_eq_true O4
                  (try (have c31b0r:=c31b0;simp only [fU,iC,kS] at c31b0r))
                  clear O4
                  obtain ⟨NK,BC⟩:∃ y_:List Bool,y_=(pR.set (cX:Int).toNat true):=⟨_,rfl⟩
                  replace H:(aM.l2 k3 zw NK qJ (wrap64 (cX+1)) aI aD au)=some r:=by first|(rw [BC];with_reducible exact H)|(have gT:=(Option.bind_some _ _).symm.trans H;rw [BC];with_reducible exact gT)|(have gT:=(Option.bind_some _ _).symm.trans H;with_reducible exact gT)|with_reducible exact H|(rw [BC];exact H)|exact H
                  have QL:=aa.mk BC
                  clear BC
                  have H':=aa.mk H
                  clear H
                  have zi:wr.cell? ⟨eN,0,none⟩=some (.int .i64 aI):=(ag cE.out 0).trans rfl
                  have zj:wr.cell? ⟨eN,1,none⟩=some (.slice bh aD.length bi):=(ag cE.out 1).trans rfl
                  have zk:wr.cell? ⟨eN,2,none⟩=some (.slice bu au.length aW):=(ag cE.out 2).trans rfl
                  have zl:=ah cE.out 0
                  have zm:=ah cE.out 1
                  have zn:=ah cE.out 2
                  have vp:0≤(cX:Int):=of_decide_eq_true (by assumption)
                  have vq:cX<(au.length:Int):=of_decide_eq_true (by assumption)
                  obtain ⟨pd,H0,lV,lW,lX,lY,lZ,l4⟩:=i9 ez.out cX vp vq
                  cases H0
                  replace lV:=(HB.out.cell (World.block_lt_of_cell? w _ lV)).trans lV
                  replace lW:=(HB.out.cell (World.block_lt_of_cell? w _ lW)).trans lW
                  replace lX:=(HB.out.cell (World.block_lt_of_cell? w _ lX)).trans lX
                  replace lY:=(HB.out.cell (World.block_lt_of_cell? w _ lY)).trans lY
                  replace lZ:=(HB.out.cell (World.block_lt_of_cell? w _ lZ)).trans lZ
                  replace l4:=(HB.out.cell (World.block_lt_of_cell? w _ l4)).trans l4
                  replace vp:=eq_true vp
                  replace vq:=eq_true vq
                  go_wp2_with (first|((with_reducible refine bF (N:=8) rfl ?_);refine bH ?hg (N:=8) ?hd (cs:=#[.int .i64 0,.int .i64 0,.int .i64 0,.int .i64 0,.int .i64 0,.int .i64 0]) (t:=36) ?hr ?_;(case hd=>rfl);(case hg=>rfl);(case hr=>first|(go_simp;done)|(go_simp;rfl));intro dF hg oR hbox hb;have br:=aa.mk (Kd.aZ (by (with_reducible repeat (first|apply Kd.aw|apply Kd.av|apply Kd.aA));exact HO_3.out) hb);have bt:=aa.mk (Kd.aZ (by (with_reducible repeat (first|apply Kd.aw|apply Kd.av|apply Kd.aA));exact HO_5.out) hb);have bA:=aa.mk (aH (g:=eN) (o:= .cells #[.int .i64 aI,.slice bh aD.length bi,.slice (some pd) au.length aW] 26 (0,0)) (by (with_reducible repeat (first|refine ak ?_ _|refine aq ?_|refine aj ?_ _));exact cE.out) hb);have bK:=aa.mk (aE (by repeat (first|(with_reducible first|exact HB.out|apply ae|apply ab|apply af|refine ai ?_ iB.out)|exact HB.out)) hb);have cL:=aa.mk (hbox);have dc:=aa.mk ((by rw [hg];exact (az (by repeat (first|(with_reducible first|exact HB.out|apply ae|apply ab|apply af|refine ai ?_ iB.out)|exact HB.out))):w.heap.size≤dF));have dQ:=aa.mk ((by rw [hg];exact (az (by repeat (first|(with_reducible first|exact HB.out|apply ae|apply ab|apply af|refine ai ?_ iB.out)|exact HB.out))):w.heap.size≤dF));have gL:=aa.mk ((by rw [hg];exact Nat.ne_of_lt (cn (g:=eN) (o:= .cells #[.int .i64 aI,.slice bh aD.length bi,.slice (some pd) au.length aW] 26 (0,0)) (by (with_reducible repeat (first|refine ak ?_ _|refine aq ?_|refine aj ?_ _));exact cE.out)):eN≠dF));have hY:=aa.mk ((by rw [hg];exact Nat.ne_of_gt (cn (g:=eN) (o:= .cells #[.int .i64 aI,.slice bh aD.length bi,.slice (some pd) au.length aW] 26 (0,0)) (by (with_reducible repeat (first|refine ak ?_ _|refine aq ?_|refine aj ?_ _));exact cE.out)):dF≠eN));clear HO_3;clear HO_5;clear cE;clear HB;have HO_3:=br;have HO_5:=bt;have cE:=bA;have HB:=bK;have dU:=cL;have L0:=dc;have tF:=dQ;have fH:=gL;have pS:=hY;clear br bt bA bK cL dc dQ gL hY;clear hb hbox hg;have yh:=pS.out;have yj:=fH.out;have o4:oR.cell? ⟨dF,0,none⟩=some (.int .i64 0):=(ag dU.out 0).trans rfl;have o5:oR.cell? ⟨dF,1,none⟩=some (.int .i64 0):=(ag dU.out 1).trans rfl;have o6:oR.cell? ⟨dF,2,none⟩=some (.int .i64 0):=(ag dU.out 2).trans rfl;have J5:oR.cell? ⟨dF,3,none⟩=some (.int .i64 0):=(ag dU.out 3).trans rfl;have J6:oR.cell? ⟨dF,4,none⟩=some (.int .i64 0):=(ag dU.out 4).trans rfl;have J7:oR.cell? ⟨dF,5,none⟩=some (.int .i64 0):=(ag dU.out 5).trans rfl;have o7:=ah dU.out 0;have o8:=ah dU.out 1;have o9:=ah dU.out 2;have J8:=ah dU.out 3;have J9:=ah dU.out 4;have Ka:=ah dU.out 5)|((with_reducible refine iM (t:=36) (p:=8) rfl ?_);refine hU (t:=36) (p:=8) (v:= ?vo_w37) (w1:=((((((oR.setCell ⟨dF,0,none⟩ (.int .i64 ((aC au cX).f0))).setCell ⟨dF,1,none⟩ (.int .i64 ((aC au cX).f1))).setCell ⟨dF,2,none⟩ (.int .i64 ((aC au cX).f2))).setCell ⟨dF,3,none⟩ (.int .i64 ((aC au cX).f3))).setCell ⟨dF,4,none⟩ (.int .i64 ((aC au cX).f4))).setCell ⟨dF,5,none⟩ (.int .i64 ((aC au cX).f5)))) ?hg ?ho ?hn ?hr ?_;(case ho=>rfl);(case hg=>rfl);(case hn=>rfl);(case hr=>first|(go_simp;done)|(go_simp;rfl));intro xR hw;have br:aa (Kd.R (Kd.int .i64) 3 xR w.heap.size (fun _=>True) (.slice wF sP.length ut) sP):=⟨(by rw [hw];exact (by (with_reducible repeat (first|apply Kd.aw|apply Kd.av|apply Kd.aA));exact Kd.bN (Kd.cg (p:=⟨dF,5,none⟩) (Kd.cg (p:=⟨dF,4,none⟩) (Kd.cg (p:=⟨dF,3,none⟩) (Kd.cg (p:=⟨dF,2,none⟩) (Kd.cg (p:=⟨dF,1,none⟩) (Kd.cg (p:=⟨dF,0,none⟩) (Kd.dL HO_3.out dU.out (by decide)) (fun _ hk=>hk.2) (.int .i64 ((aC au cX).f0))) (fun _ hk=>hk.2) (.int .i64 ((aC au cX).f1))) (fun _ hk=>hk.2) (.int .i64 ((aC au cX).f2))) (fun _ hk=>hk.2) (.int .i64 ((aC au cX).f3))) (fun _ hk=>hk.2) (.int .i64 ((aC au cX).f4))) (fun _ hk=>hk.2) (.int .i64 ((aC au cX).f5))) (fun _ hk=>trivial)))⟩;have bt:aa (Kd.R Kd.bool 4 xR w.heap.size (fun _=>True) J4 pR):=⟨(by rw [hw];exact (by (with_reducible repeat (first|apply Kd.aw|apply Kd.av|apply Kd.aA));exact Kd.bN (Kd.cg (p:=⟨dF,5,none⟩) (Kd.cg (p:=⟨dF,4,none⟩) (Kd.cg (p:=⟨dF,3,none⟩) (Kd.cg (p:=⟨dF,2,none⟩) (Kd.cg (p:=⟨dF,1,none⟩) (Kd.cg (p:=⟨dF,0,none⟩) (Kd.dL HO_5.out dU.out (by decide)) (fun _ hk=>hk.2) (.int .i64 ((aC au cX).f0))) (fun _ hk=>hk.2) (.int .i64 ((aC au cX).f1))) (fun _ hk=>hk.2) (.int .i64 ((aC au cX).f2))) (fun _ hk=>hk.2) (.int .i64 ((aC au cX).f3))) (fun _ hk=>hk.2) (.int .i64 ((aC au cX).f4))) (fun _ hk=>hk.2) (.int .i64 ((aC au cX).f5))) (fun _ hk=>trivial)))⟩;have bA:aa (xR.heap[eN]? =some (.cells #[.int .i64 aI,.slice bh aD.length bi,.slice (some pd) au.length aW] 26 (0,0))):=⟨(by rw [hw];exact (by (with_reducible repeat (first|refine ak ?_ _|refine aq ?_|refine aj ?_ _));refine cI ?_ fH.out _;(with_reducible repeat (first|refine ak ?_ _|refine aq ?_|refine aj ?_ _));refine cI ?_ fH.out _;(with_reducible repeat (first|refine ak ?_ _|refine aq ?_|refine aj ?_ _));refine cI ?_ fH.out _;(with_reducible repeat (first|refine ak ?_ _|refine aq ?_|refine aj ?_ _));refine cI ?_ fH.out _;(with_reducible repeat (first|refine ak ?_ _|refine aq ?_|refine aj ?_ _));refine cI ?_ fH.out _;(with_reducible repeat (first|refine ak ?_ _|refine aq ?_|refine aj ?_ _));refine cI ?_ fH.out _;(with_reducible repeat (first|refine ak ?_ _|refine aq ?_|refine aj ?_ _));exact cE.out))⟩;have bK:aa (xR.heap[dF]? =some (.cells #[.int .i64 ((aC au cX).f0),.int .i64 ((aC au cX).f1),.int .i64 ((aC au cX).f2),.int .i64 ((aC au cX).f3),.int .i64 ((aC au cX).f4),.int .i64 ((aC au cX).f5)] 36 (0,0))):=⟨(by rw [hw];exact (by (with_reducible repeat (first|refine ak ?_ _|refine aq ?_|refine aj ?_ _));refine df (cs:=#[.int .i64 ((aC au cX).f0),.int .i64 ((aC au cX).f1),.int .i64 ((aC au cX).f2),.int .i64 ((aC au cX).f3),.int .i64 ((aC au cX).f4),.int .i64 0]) ?_ 5 _ rfl;(with_reducible repeat (first|refine ak ?_ _|refine aq ?_|refine aj ?_ _));refine df (cs:=#[.int .i64 ((aC au cX).f0),.int .i64 ((aC au cX).f1),.int .i64 ((aC au cX).f2),.int .i64 ((aC au cX).f3),.int .i64 0,.int .i64 0]) ?_ 4 _ rfl;(with_reducible repeat (first|refine ak ?_ _|refine aq ?_|refine aj ?_ _));refine df (cs:=#[.int .i64 ((aC au cX).f0),.int .i64 ((aC au cX).f1),.int .i64 ((aC au cX).f2),.int .i64 0,.int .i64 0,.int .i64 0]) ?_ 3 _ rfl;(with_reducible repeat (first|refine ak ?_ _|refine aq ?_|refine aj ?_ _));refine df (cs:=#[.int .i64 ((aC au cX).f0),.int .i64 ((aC au cX).f1),.int .i64 0,.int .i64 0,.int .i64 0,.int .i64 0]) ?_ 2 _ rfl;(with_reducible repeat (first|refine ak ?_ _|refine aq ?_|refine aj ?_ _));refine df (cs:=#[.int .i64 ((aC au cX).f0),.int .i64 0,.int .i64 0,.int .i64 0,.int .i64 0,.int .i64 0]) ?_ 1 _ rfl;(with_reducible repeat (first|refine ak ?_ _|refine aq ?_|refine aj ?_ _));refine df (cs:=#[.int .i64 0,.int .i64 0,.int .i64 0,.int .i64 0,.int .i64 0,.int .i64 0]) ?_ 0 _ rfl;(with_reducible repeat (first|refine ak ?_ _|refine aq ?_|refine aj ?_ _));exact dU.out))⟩;have cL:aa (Below w.heap.size w xR):=⟨(by rw [hw];exact (by repeat (first|(with_reducible first|exact HB.out|apply ae|apply ab|apply af|refine ai ?_ iB.out|refine ai ?_ tF.out)|exact HB.out)))⟩;clear hw;clear HO_3;clear HO_5;clear cE;clear dU;clear HB;have HO_3:=br;have HO_5:=bt;have cE:=bA;have dU:=bK;have HB:=cL;clear br bt bA bK cL;have Kb:xR.cell? ⟨dF,0,none⟩=some (.int .i64 ((aC au cX).f0)):=(ag dU.out 0).trans rfl;have Ke:xR.cell? ⟨dF,1,none⟩=some (.int .i64 ((aC au cX).f1)):=(ag dU.out 1).trans rfl;have Kf:xR.cell? ⟨dF,2,none⟩=some (.int .i64 ((aC au cX).f2)):=(ag dU.out 2).trans rfl;have Kg:xR.cell? ⟨dF,3,none⟩=some (.int .i64 ((aC au cX).f3)):=(ag dU.out 3).trans rfl;have Kh:xR.cell? ⟨dF,4,none⟩=some (.int .i64 ((aC au cX).f4)):=(ag dU.out 4).trans rfl;have Ki:xR.cell? ⟨dF,5,none⟩=some (.int .i64 ((aC au cX).f5)):=(ag dU.out 5).trans rfl;have Kj:=ah dU.out 0;have Kk:=ah dU.out 1;have Kl:=ah dU.out 2;have Km:=ah dU.out 3;have Kn:=ah dU.out 4;have Ko:=ah dU.out 5)|(go_at_call 86;(with_reducible refine (cm.calls k3 (fun k_=>some k_=(.slice wF sP.length ut:Value).ownBlock) (.slice wF sP.length ut) sP ((aC au cX).f0) ((aC au cX).f1) ((aC au cX).f2) ((aC au cX).f3) ((aC au cX).f4) ((aC au cX).f5) true zw w _ ?bS ?bT A29.out).mono ?_);(case bS=>repeat (first|(with_reducible first|exact HB.out|apply ae|apply ab|apply af|refine ai ?_ iB.out|refine ai ?_ tF.out)|exact HB.out));(case bT=>exact Kd.ng rfl HO_3.out);rintro e oM ⟨rfl,hy0,hb,hkp⟩;have br:=aa.mk (Kd.qN rfl hy0 (fun k_ e_=>HO_3.out.1 k_ e_));have bt:=aa.mk (Kd.bN (ok':=fun k_=>True) (Kd.Dx ((Kd.pI HO_5.out (Kd.ry HO_3.out) (by decide))) hkp (fun k_ hk_ hs_=>(hk_.2) hs_)) (fun k_ hk_=>trivial));have bA:=aa.mk (nr (by (with_reducible repeat (first|refine ak ?_ _|refine aq ?_|refine aj ?_ _));exact cE.out) hkp (fun hs_=>(fun e_=>(Kd.mz HO_3.out cE.out (by decide)) e_) hs_));have bK:=aa.mk (nr (by (with_reducible repeat (first|refine ak ?_ _|refine aq ?_|refine aj ?_ _));exact dU.out) hkp (fun hs_=>(fun e_=>(Kd.mz HO_3.out dU.out (by decide)) e_) hs_));have cL:=aa.mk (hb);clear HO_3;clear HO_5;clear cE;clear dU;clear HB;have HO_3:=br;have HO_5:=bt;have cE:=bA;have dU:=bK;have HB:=cL;clear br bt bA bK cL;(try clear hb);(try clear hkp);(try clear hy0);have QM:0≤(cX:Int):=of_decide_eq_true (by assumption);have QN:(cX:Int)<((pR.length:Int):Int):=of_decide_eq_true (by assumption);obtain ⟨Kp,QO,QP,QQ,Zr,adY,QR⟩:=Kd.mP HO_5.out (by first|omega|(have hz_:=(Kd.bf HO_5.out).1;omega));(first|cases QP|(injection QP with ea_ en_ ec_;(first|subst ea_|(injection ea_ with ea_;subst ea_));subst ec_;clear en_));have Zs:=aa.mk QQ;have adZ:=aa.mk QR;clear QQ Zr QR;obtain ⟨NL,Zt⟩:=Kd.jq false HO_5.out (cX:Int) QM QN;replace QM:=eq_true QM;replace QN:=eq_true QN;obtain ⟨abY,abZ⟩:=Kd.jq false HO_5.out (cX:Int) (of_decide_eq_true (by assumption)) (of_decide_eq_true (by assumption));have NM:=Kd.l6 HO_5.out (cX:Int) true)|((with_reducible refine iM (t:=4) (p:=64) rfl ?_);refine hU (t:=4) (p:=64) (v:= ?vo_w41) (w1:=(oM.setCell ⟨Kp,(cX:Int).toNat,none⟩ (.bool true))) ?hg ?ho ?hn ?hr ?_;(case ho=>rfl);(case hg=>rfl);(case hn=>rfl);(case hr=>first|(go_simp;done)|(go_simp;rfl));intro Zu hw;have hg:oM.grownBy Zu (some Kp):=(by rw [hw];exact NM.2);have hp_:Kd.R Kd.bool 4 Zu w.heap.size (fun _=>True) (.slice (some ⟨Kp,0,none⟩) pR.length QO) NK:=(by rw [hw,QL.out];exact NM.1);clear NM;have br:=aa.mk (Kd.te (v:=(.slice (some ⟨Kp,0,none⟩) pR.length QO)) (by (with_reducible repeat (first|apply Kd.aw|apply Kd.av|apply Kd.aA));exact HO_3.out) (Kd.ry HO_5.out) (by decide) hg);have bt:=aa.mk (hp_);have bA:=aa.mk (dq (g:=eN) (o:= .cells #[.int .i64 aI,.slice bh aD.length bi,.slice (some pd) au.length aW] 26 (0,0)) (by (with_reducible repeat (first|refine ak ?_ _|refine aq ?_|refine aj ?_ _));exact cE.out) hg (Kd.mz HO_5.out cE.out (by decide)));have bK:=aa.mk (dq (g:=dF) (o:= .cells #[.int .i64 ((aC au cX).f0),.int .i64 ((aC au cX).f1),.int .i64 ((aC au cX).f2),.int .i64 ((aC au cX).f3),.int .i64 ((aC au cX).f4),.int .i64 ((aC au cX).f5)] 36 (0,0)) (by (with_reducible repeat (first|refine ak ?_ _|refine aq ?_|refine aj ?_ _));exact dU.out) hg (Kd.mz HO_5.out dU.out (by decide)));have cL:=aa.mk ((by rw [hw];exact ai (HB.out) Zs.out:Below w.heap.size w Zu));clear HO_3;clear HO_5;clear cE;clear dU;clear HB;have HO_3:=br;have HO_5:=bt;have cE:=bA;have dU:=bK;have HB:=cL;clear br bt bA bK cL;clear hg hw hp_))
                  (try simp only [← kS])
                  go_roundg k3
                  case measure=>have:=lw.out;have:=wG.out;have:=EK.out;omega
                  case rel=>exact ⟨(zw),(NK),(wrap64 (cX+1)),(by first|rfl|(simp;done)|(simp [*];done)),H',⟨by have:=lw.out;have:=wG.out;have:=EK.out;omega⟩,⟨by (try simp only [fU]);(try simp only [iC]);(try simp only [kS]);(with_reducible repeat (first|apply Kd.aw|apply Kd.av|apply Kd.aA));exact HO_3.out⟩,⟨by (try simp only [fU]);(try simp only [iC]);(try simp only [kS]);(with_reducible repeat (first|apply Kd.aw|apply Kd.av|apply Kd.aA));exact HO_5.out⟩,⟨by (try simp only [fU]);(try simp only [iC]);(try simp only [kS]);(with_reducible repeat (first|refine ak ?_ _|refine aq ?_|refine aj ?_ _));exact cE.out⟩,⟨by repeat (first|(with_reducible first|exact HB.out|apply ae|apply ab|apply af|refine ai ?_ iB.out|refine ai ?_ tF.out)|exact HB.out)⟩⟩
                 rw [if_neg O4] at H
                 exact absurd H (by simp)
                replace QK:=Bool.eq_false_iff.mpr QK
                subst QK
                have H1:(aM.l2 k3 zw pR qJ (wrap64 (cX+1)) aI aD au)=some r:=by rw [if_neg (show ¬(false=true) by decide)] at H;exact H
                clear H
                have H:=H1
                clear H1
                have H':=aa.mk H
                clear H
                have DX:wr.cell? ⟨eN,0,none⟩=some (.int .i64 aI):=(ag cE.out 0).trans rfl
                have DY:wr.cell? ⟨eN,1,none⟩=some (.slice bh aD.length bi):=(ag cE.out 1).trans rfl
                have DZ:wr.cell? ⟨eN,2,none⟩=some (.slice bu au.length aW):=(ag cE.out 2).trans rfl
                have D0:=ah cE.out 0
                have D1:=ah cE.out 1
                have D2:=ah cE.out 2
                have vp:0≤(cX:Int):=of_decide_eq_true (by assumption)
                have vq:cX<(au.length:Int):=of_decide_eq_true (by assumption)
                obtain ⟨pd,H0,lV,lW,lX,lY,lZ,l4⟩:=i9 ez.out cX vp vq
                cases H0
                replace lV:=(HB.out.cell (World.block_lt_of_cell? w _ lV)).trans lV
                replace lW:=(HB.out.cell (World.block_lt_of_cell? w _ lW)).trans lW
                replace lX:=(HB.out.cell (World.block_lt_of_cell? w _ lX)).trans lX
                replace lY:=(HB.out.cell (World.block_lt_of_cell? w _ lY)).trans lY
                replace lZ:=(HB.out.cell (World.block_lt_of_cell? w _ lZ)).trans lZ
                replace l4:=(HB.out.cell (World.block_lt_of_cell? w _ l4)).trans l4
                replace vp:=eq_true vp
                replace vq:=eq_true vq
                go_wp2_with (first|((with_reducible refine bF (N:=8) rfl ?_);refine bH ?hg (N:=8) ?hd (cs:=#[.int .i64 0,.int .i64 0,.int .i64 0,.int .i64 0,.int .i64 0,.int .i64 0]) (t:=36) ?hr ?_;(case hd=>rfl);(case hg=>rfl);(case hr=>first|(go_simp;done)|(go_simp;rfl));intro dF hg z8 hbox hb;have br:=aa.mk (Kd.aZ (by (with_reducible repeat (first|apply Kd.aw|apply Kd.av|apply Kd.aA));exact HO_3.out) hb);have bt:=aa.mk (Kd.aZ (by (with_reducible repeat (first|apply Kd.aw|apply Kd.av|apply Kd.aA));exact HO_5.out) hb);have bA:=aa.mk (aH (g:=eN) (o:= .cells #[.int .i64 aI,.slice bh aD.length bi,.slice (some pd) au.length aW] 26 (0,0)) (by (with_reducible repeat (first|refine ak ?_ _|refine aq ?_|refine aj ?_ _));exact cE.out) hb);have bK:=aa.mk (aE (by repeat (first|(with_reducible first|exact HB.out|apply ae|apply ab|apply af|refine ai ?_ iB.out)|exact HB.out)) hb);have cL:=aa.mk (hbox);have dc:=aa.mk ((by rw [hg];exact (az (by repeat (first|(with_reducible first|exact HB.out|apply ae|apply ab|apply af|refine ai ?_ iB.out)|exact HB.out))):w.heap.size≤dF));have dQ:=aa.mk ((by rw [hg];exact (az (by repeat (first|(with_reducible first|exact HB.out|apply ae|apply ab|apply af|refine ai ?_ iB.out)|exact HB.out))):w.heap.size≤dF));have gL:=aa.mk ((by rw [hg];exact Nat.ne_of_lt (cn (g:=eN) (o:= .cells #[.int .i64 aI,.slice bh aD.length bi,.slice (some pd) au.length aW] 26 (0,0)) (by (with_reducible repeat (first|refine ak ?_ _|refine aq ?_|refine aj ?_ _));exact cE.out)):eN≠dF));have hY:=aa.mk ((by rw [hg];exact Nat.ne_of_gt (cn (g:=eN) (o:= .cells #[.int .i64 aI,.slice bh aD.length bi,.slice (some pd) au.length aW] 26 (0,0)) (by (with_reducible repeat (first|refine ak ?_ _|refine aq ?_|refine aj ?_ _));exact cE.out)):dF≠eN));clear HO_3;clear HO_5;clear cE;clear HB;have HO_3:=br;have HO_5:=bt;have cE:=bA;have HB:=bK;have dU:=cL;have L0:=dc;have tF:=dQ;have fH:=gL;have pS:=hY;clear br bt bA bK cL dc dQ gL hY;clear hb hbox hg;have LS:=pS.out;have LU:=fH.out;have D3:z8.cell? ⟨dF,0,none⟩=some (.int .i64 0):=(ag dU.out 0).trans rfl;have D4:z8.cell? ⟨dF,1,none⟩=some (.int .i64 0):=(ag dU.out 1).trans rfl;have D5:z8.cell? ⟨dF,2,none⟩=some (.int .i64 0):=(ag dU.out 2).trans rfl;have D6:z8.cell? ⟨dF,3,none⟩=some (.int .i64 0):=(ag dU.out 3).trans rfl;have D7:z8.cell? ⟨dF,4,none⟩=some (.int .i64 0):=(ag dU.out 4).trans rfl;have D8:z8.cell? ⟨dF,5,none⟩=some (.int .i64 0):=(ag dU.out 5).trans rfl;have D9:=ah dU.out 0;have Ea:=ah dU.out 1;have Eb:=ah dU.out 2;have Ec:=ah dU.out 3;have Ed:=ah dU.out 4;have Ee:=ah dU.out 5)|((with_reducible refine iM (t:=36) (p:=8) rfl ?_);refine hU (t:=36) (p:=8) (v:= ?vo_w46) (w1:=((((((z8.setCell ⟨dF,0,none⟩ (.int .i64 ((aC au cX).f0))).setCell ⟨dF,1,none⟩ (.int .i64 ((aC au cX).f1))).setCell ⟨dF,2,none⟩ (.int .i64 ((aC au cX).f2))).setCell ⟨dF,3,none⟩ (.int .i64 ((aC au cX).f3))).setCell ⟨dF,4,none⟩ (.int .i64 ((aC au cX).f4))).setCell ⟨dF,5,none⟩ (.int .i64 ((aC au cX).f5)))) ?hg ?ho ?hn ?hr ?_;(case ho=>rfl);(case hg=>rfl);(case hn=>rfl);(case hr=>first|(go_simp;done)|(go_simp;rfl));intro H2 hw;have br:aa (Kd.R (Kd.int .i64) 3 H2 w.heap.size (fun _=>True) (.slice wF sP.length ut) sP):=⟨(by rw [hw];exact (by (with_reducible repeat (first|apply Kd.aw|apply Kd.av|apply Kd.aA));exact Kd.bN (Kd.cg (p:=⟨dF,5,none⟩) (Kd.cg (p:=⟨dF,4,none⟩) (Kd.cg (p:=⟨dF,3,none⟩) (Kd.cg (p:=⟨dF,2,none⟩) (Kd.cg (p:=⟨dF,1,none⟩) (Kd.cg (p:=⟨dF,0,none⟩) (Kd.dL HO_3.out dU.out (by decide)) (fun _ hk=>hk.2) (.int .i64 ((aC au cX).f0))) (fun _ hk=>hk.2) (.int .i64 ((aC au cX).f1))) (fun _ hk=>hk.2) (.int .i64 ((aC au cX).f2))) (fun _ hk=>hk.2) (.int .i64 ((aC au cX).f3))) (fun _ hk=>hk.2) (.int .i64 ((aC au cX).f4))) (fun _ hk=>hk.2) (.int .i64 ((aC au cX).f5))) (fun _ hk=>trivial)))⟩;have bt:aa (Kd.R Kd.bool 4 H2 w.heap.size (fun _=>True) J4 pR):=⟨(by rw [hw];exact (by (with_reducible repeat (first|apply Kd.aw|apply Kd.av|apply Kd.aA));exact Kd.bN (Kd.cg (p:=⟨dF,5,none⟩) (Kd.cg (p:=⟨dF,4,none⟩) (Kd.cg (p:=⟨dF,3,none⟩) (Kd.cg (p:=⟨dF,2,none⟩) (Kd.cg (p:=⟨dF,1,none⟩) (Kd.cg (p:=⟨dF,0,none⟩) (Kd.dL HO_5.out dU.out (by decide)) (fun _ hk=>hk.2) (.int .i64 ((aC au cX).f0))) (fun _ hk=>hk.2) (.int .i64 ((aC au cX).f1))) (fun _ hk=>hk.2) (.int .i64 ((aC au cX).f2))) (fun _ hk=>hk.2) (.int .i64 ((aC au cX).f3))) (fun _ hk=>hk.2) (.int .i64 ((aC au cX).f4))) (fun _ hk=>hk.2) (.int .i64 ((aC au cX).f5))) (fun _ hk=>trivial)))⟩;have bA:aa (H2.heap[eN]? =some (.cells #[.int .i64 aI,.slice bh aD.length bi,.slice (some pd) au.length aW] 26 (0,0))):=⟨(by rw [hw];exact (by (with_reducible repeat (first|refine ak ?_ _|refine aq ?_|refine aj ?_ _));refine cI ?_ fH.out _;(with_reducible repeat (first|refine ak ?_ _|refine aq ?_|refine aj ?_ _));refine cI ?_ fH.out _;(with_reducible repeat (first|refine ak ?_ _|refine aq ?_|refine aj ?_ _));refine cI ?_ fH.out _;(with_reducible repeat (first|refine ak ?_ _|refine aq ?_|refine aj ?_ _));refine cI ?_ fH.out _;(with_reducible repeat (first|refine ak ?_ _|refine aq ?_|refine aj ?_ _));refine cI ?_ fH.out _;(with_reducible repeat (first|refine ak ?_ _|refine aq ?_|refine aj ?_ _));refine cI ?_ fH.out _;(with_reducible repeat (first|refine ak ?_ _|refine aq ?_|refine aj ?_ _));exact cE.out))⟩;have bK:aa (H2.heap[dF]? =some (.cells #[.int .i64 ((aC au cX).f0),.int .i64 ((aC au cX).f1),.int .i64 ((aC au cX).f2),.int .i64 ((aC au cX).f3),.int .i64 ((aC au cX).f4),.int .i64 ((aC au cX).f5)] 36 (0,0))):=⟨(by rw [hw];exact (by (with_reducible repeat (first|refine ak ?_ _|refine aq ?_|refine aj ?_ _));refine df (cs:=#[.int .i64 ((aC au cX).f0),.int .i64 ((aC au cX).f1),.int .i64 ((aC au cX).f2),.int .i64 ((aC au cX).f3),.int .i64 ((aC au cX).f4),.int .i64 0]) ?_ 5 _ rfl;(with_reducible repeat (first|refine ak ?_ _|refine aq ?_|refine aj ?_ _));refine df (cs:=#[.int .i64 ((aC au cX).f0),.int .i64 ((aC au cX).f1),.int .i64 ((aC au cX).f2),.int .i64 ((aC au cX).f3),.int .i64 0,.int .i64 0]) ?_ 4 _ rfl;(with_reducible repeat (first|refine ak ?_ _|refine aq ?_|refine aj ?_ _));refine df (cs:=#[.int .i64 ((aC au cX).f0),.int .i64 ((aC au cX).f1),.int .i64 ((aC au cX).f2),.int .i64 0,.int .i64 0,.int .i64 0]) ?_ 3 _ rfl;(with_reducible repeat (first|refine ak ?_ _|refine aq ?_|refine aj ?_ _));refine df (cs:=#[.int .i64 ((aC au cX).f0),.int .i64 ((aC au cX).f1),.int .i64 0,.int .i64 0,.int .i64 0,.int .i64 0]) ?_ 2 _ rfl;(with_reducible repeat (first|refine ak ?_ _|refine aq ?_|refine aj ?_ _));refine df (cs:=#[.int .i64 ((aC au cX).f0),.int .i64 0,.int .i64 0,.int .i64 0,.int .i64 0,.int .i64 0]) ?_ 1 _ rfl;(with_reducible repeat (first|refine ak ?_ _|refine aq ?_|refine aj ?_ _));refine df (cs:=#[.int .i64 0,.int .i64 0,.int .i64 0,.int .i64 0,.int .i64 0,.int .i64 0]) ?_ 0 _ rfl;(with_reducible repeat (first|refine ak ?_ _|refine aq ?_|refine aj ?_ _));exact dU.out))⟩;have cL:aa (Below w.heap.size w H2):=⟨(by rw [hw];exact (by repeat (first|(with_reducible first|exact HB.out|apply ae|apply ab|apply af|refine ai ?_ iB.out|refine ai ?_ tF.out)|exact HB.out)))⟩;clear hw;clear HO_3;clear HO_5;clear cE;clear dU;clear HB;have HO_3:=br;have HO_5:=bt;have cE:=bA;have dU:=bK;have HB:=cL;clear br bt bA bK cL;have Kq:H2.cell? ⟨dF,0,none⟩=some (.int .i64 ((aC au cX).f0)):=(ag dU.out 0).trans rfl;have Kr:H2.cell? ⟨dF,1,none⟩=some (.int .i64 ((aC au cX).f1)):=(ag dU.out 1).trans rfl;have Ks:H2.cell? ⟨dF,2,none⟩=some (.int .i64 ((aC au cX).f2)):=(ag dU.out 2).trans rfl;have Kt:H2.cell? ⟨dF,3,none⟩=some (.int .i64 ((aC au cX).f3)):=(ag dU.out 3).trans rfl;have Ku:H2.cell? ⟨dF,4,none⟩=some (.int .i64 ((aC au cX).f4)):=(ag dU.out 4).trans rfl;have Kv:H2.cell? ⟨dF,5,none⟩=some (.int .i64 ((aC au cX).f5)):=(ag dU.out 5).trans rfl;have Kw:=ah dU.out 0;have Kx:=ah dU.out 1;have Ky:=ah dU.out 2;have Kz:=ah dU.out 3;have KA:=ah dU.out 4;have KC:=ah dU.out 5)|(go_at_call 86;(with_reducible refine (cm.calls k3 (fun k_=>some k_=(.slice wF sP.length ut:Value).ownBlock) (.slice wF sP.length ut) sP ((aC au cX).f0) ((aC au cX).f1) ((aC au cX).f2) ((aC au cX).f3) ((aC au cX).f4) ((aC au cX).f5) false zw w _ ?bS ?bT A29.out).mono ?_);(case bS=>repeat (first|(with_reducible first|exact HB.out|apply ae|apply ab|apply af|refine ai ?_ iB.out|refine ai ?_ tF.out)|exact HB.out));(case bT=>exact Kd.ng rfl HO_3.out);rintro e w48 ⟨rfl,hy0,hb,hkp⟩;have br:=aa.mk (Kd.qN rfl hy0 (fun k_ e_=>HO_3.out.1 k_ e_));have bt:=aa.mk (Kd.bN (ok':=fun k_=>True) (Kd.Dx ((Kd.pI HO_5.out (Kd.ry HO_3.out) (by decide))) hkp (fun k_ hk_ hs_=>(hk_.2) hs_)) (fun k_ hk_=>trivial));have bA:=aa.mk (nr (by (with_reducible repeat (first|refine ak ?_ _|refine aq ?_|refine aj ?_ _));exact cE.out) hkp (fun hs_=>(fun e_=>(Kd.mz HO_3.out cE.out (by decide)) e_) hs_));have bK:=aa.mk (nr (by (with_reducible repeat (first|refine ak ?_ _|refine aq ?_|refine aj ?_ _));exact dU.out) hkp (fun hs_=>(fun e_=>(Kd.mz HO_3.out dU.out (by decide)) e_) hs_));have cL:=aa.mk (hb);clear HO_3;clear HO_5;clear cE;clear dU;clear HB;have HO_3:=br;have HO_5:=bt;have cE:=bA;have dU:=bK;have HB:=cL;clear br bt bA bK cL;(try clear hb);(try clear hkp);(try clear hy0)))
                (try simp only [← kS])
                go_roundg k3
                case measure=>have:=lw.out;have:=wG.out;have:=EK.out;omega
                case rel=>exact ⟨(zw),(pR),(wrap64 (cX+1)),(by first|rfl|(simp;done)|(simp [*];done)),H',⟨by have:=lw.out;have:=wG.out;have:=EK.out;omega⟩,⟨by (try simp only [fU]);(try simp only [iC]);(try simp only [kS]);(with_reducible repeat (first|apply Kd.aw|apply Kd.av|apply Kd.aA));exact HO_3.out⟩,⟨by (try simp only [fU]);(try simp only [iC]);(try simp only [kS]);(with_reducible repeat (first|apply Kd.aw|apply Kd.av|apply Kd.aA));exact HO_5.out⟩,⟨by (try simp only [fU]);(try simp only [iC]);(try simp only [kS]);(with_reducible repeat (first|refine ak ?_ _|refine aq ?_|refine aj ?_ _));exact cE.out⟩,⟨by repeat (first|(with_reducible first|exact HB.out|apply ae|apply ab|apply af|refine ai ?_ iB.out|refine ai ?_ tF.out)|exact HB.out)⟩⟩
               rw [if_neg LZ] at H
               have c28b0:((wrap64 (((aC au cX).f4) - ((aC au cX).f3)))==qJ)=false:=beq_eq_false_iff_ne.mpr LZ
               have c28b1:((wrap64 (((aC au cX).f4) - ((aC au cX).f3))) !=qJ)=true:=bne_iff_ne.mpr LZ
               have H':=aa.mk H
               clear H
               have yN:wr.cell? ⟨eN,0,none⟩=some (.int .i64 aI):=(ag cE.out 0).trans rfl
               have yO:wr.cell? ⟨eN,1,none⟩=some (.slice bh aD.length bi):=(ag cE.out 1).trans rfl
               have yP:wr.cell? ⟨eN,2,none⟩=some (.slice bu au.length aW):=(ag cE.out 2).trans rfl
               have yQ:=ah cE.out 0
               have yR:=ah cE.out 1
               have yS:=ah cE.out 2
               have vp:0≤(cX:Int):=of_decide_eq_true (by assumption)
               have vq:cX<(au.length:Int):=of_decide_eq_true (by assumption)
               obtain ⟨pd,H0,lV,lW,lX,lY,lZ,l4⟩:=i9 ez.out cX vp vq
               cases H0
               replace lV:=(HB.out.cell (World.block_lt_of_cell? w _ lV)).trans lV
               replace lW:=(HB.out.cell (World.block_lt_of_cell? w _ lW)).trans lW
               replace lX:=(HB.out.cell (World.block_lt_of_cell? w _ lX)).trans lX
               replace lY:=(HB.out.cell (World.block_lt_of_cell? w _ lY)).trans lY
               replace lZ:=(HB.out.cell (World.block_lt_of_cell? w _ lZ)).trans lZ
               replace l4:=(HB.out.cell (World.block_lt_of_cell? w _ l4)).trans l4
               replace vp:=eq_true vp
               replace vq:=eq_true vq
               go_wp2_with (first|((with_reducible refine bF (N:=8) rfl ?_);refine bH ?hg (N:=8) ?hd (cs:=#[.int .i64 0,.int .i64 0,.int .i64 0,.int .i64 0,.int .i64 0,.int .i64 0]) (t:=36) ?hr ?_;(case hd=>rfl);(case hg=>rfl);(case hr=>first|(go_simp;done)|(go_simp;rfl));intro dF hg z9 hbox hb;have br:=aa.mk (Kd.aZ (by (with_reducible repeat (first|apply Kd.aw|apply Kd.av|apply Kd.aA));exact HO_3.out) hb);have bt:=aa.mk (Kd.aZ (by (with_reducible repeat (first|apply Kd.aw|apply Kd.av|apply Kd.aA));exact HO_5.out) hb);have bA:=aa.mk (aH (g:=eN) (o:= .cells #[.int .i64 aI,.slice bh aD.length bi,.slice (some pd) au.length aW] 26 (0,0)) (by (with_reducible repeat (first|refine ak ?_ _|refine aq ?_|refine aj ?_ _));exact cE.out) hb);have bK:=aa.mk (aE (by repeat (first|(with_reducible first|exact HB.out|apply ae|apply ab|apply af|refine ai ?_ iB.out)|exact HB.out)) hb);have cL:=aa.mk (hbox);have dc:=aa.mk ((by rw [hg];exact (az (by repeat (first|(with_reducible first|exact HB.out|apply ae|apply ab|apply af|refine ai ?_ iB.out)|exact HB.out))):w.heap.size≤dF));have dQ:=aa.mk ((by rw [hg];exact (az (by repeat (first|(with_reducible first|exact HB.out|apply ae|apply ab|apply af|refine ai ?_ iB.out)|exact HB.out))):w.heap.size≤dF));have gL:=aa.mk ((by rw [hg];exact Nat.ne_of_lt (cn (g:=eN) (o:= .cells #[.int .i64 aI,.slice bh aD.length bi,.slice (some pd) au.length aW] 26 (0,0)) (by (with_reducible repeat (first|refine ak ?_ _|refine aq ?_|refine aj ?_ _));exact cE.out)):eN≠dF));have hY:=aa.mk ((by rw [hg];exact Nat.ne_of_gt (cn (g:=eN) (o:= .cells #[.int .i64 aI,.slice bh aD.length bi,.slice (some pd) au.length aW] 26 (0,0)) (by (with_reducible repeat (first|refine ak ?_ _|refine aq ?_|refine aj ?_ _));exact cE.out)):dF≠eN));clear HO_3;clear HO_5;clear cE;clear HB;have HO_3:=br;have HO_5:=bt;have cE:=bA;have HB:=bK;have dU:=cL;have L0:=dc;have tF:=dQ;have fH:=gL;have pS:=hY;clear br bt bA bK cL dc dQ gL hY;clear hb hbox hg;have Qy:=pS.out;have Qz:=fH.out;have Ej:z9.cell? ⟨dF,0,none⟩=some (.int .i64 0):=(ag dU.out 0).trans rfl;have Ek:z9.cell? ⟨dF,1,none⟩=some (.int .i64 0):=(ag dU.out 1).trans rfl;have El:z9.cell? ⟨dF,2,none⟩=some (.int .i64 0):=(ag dU.out 2).trans rfl;have Em:z9.cell? ⟨dF,3,none⟩=some (.int .i64 0):=(ag dU.out 3).trans rfl;have En:z9.cell? ⟨dF,4,none⟩=some (.int .i64 0):=(ag dU.out 4).trans rfl;have Eo:z9.cell? ⟨dF,5,none⟩=some (.int .i64 0):=(ag dU.out 5).trans rfl;have Ep:=ah dU.out 0;have Er:=ah dU.out 1;have Es:=ah dU.out 2;have Et:=ah dU.out 3;have Eu:=ah dU.out 4;have Ew:=ah dU.out 5))
               (try simp only [← kS])
               go_roundg k3
               case measure=>have:=lw.out;have:=wG.out;have:=EK.out;omega
               case rel=>exact ⟨(sP),(pR),(wrap64 (cX+1)),(by first|rfl|(simp;done)|(simp [*];done)),H',⟨by have:=lw.out;have:=wG.out;have:=EK.out;omega⟩,⟨by (try simp only [fU]);(try simp only [iC]);(try simp only [kS]);(with_reducible repeat (first|apply Kd.aw|apply Kd.av|apply Kd.aA));exact Kd.bN (Kd.cg (p:=⟨dF,5,none⟩) (Kd.cg (p:=⟨dF,4,none⟩) (Kd.cg (p:=⟨dF,3,none⟩) (Kd.cg (p:=⟨dF,2,none⟩) (Kd.cg (p:=⟨dF,1,none⟩) (Kd.cg (p:=⟨dF,0,none⟩) (Kd.dL HO_3.out dU.out (by decide)) (fun _ hk=>hk.2) (.int .i64 ((aC au cX).f0))) (fun _ hk=>hk.2) (.int .i64 ((aC au cX).f1))) (fun _ hk=>hk.2) (.int .i64 ((aC au cX).f2))) (fun _ hk=>hk.2) (.int .i64 ((aC au cX).f3))) (fun _ hk=>hk.2) (.int .i64 ((aC au cX).f4))) (fun _ hk=>hk.2) (.int .i64 ((aC au cX).f5))) (fun _ hk=>trivial)⟩,⟨by (try simp only [fU]);(try simp only [iC]);(try simp only [kS]);(with_reducible repeat (first|apply Kd.aw|apply Kd.av|apply Kd.aA));exact Kd.bN (Kd.cg (p:=⟨dF,5,none⟩) (Kd.cg (p:=⟨dF,4,none⟩) (Kd.cg (p:=⟨dF,3,none⟩) (Kd.cg (p:=⟨dF,2,none⟩) (Kd.cg (p:=⟨dF,1,none⟩) (Kd.cg (p:=⟨dF,0,none⟩) (Kd.dL HO_5.out dU.out (by decide)) (fun _ hk=>hk.2) (.int .i64 ((aC au cX).f0))) (fun _ hk=>hk.2) (.int .i64 ((aC au cX).f1))) (fun _ hk=>hk.2) (.int .i64 ((aC au cX).f2))) (fun _ hk=>hk.2) (.int .i64 ((aC au cX).f3))) (fun _ hk=>hk.2) (.int .i64 ((aC au cX).f4))) (fun _ hk=>hk.2) (.int .i64 ((aC au cX).f5))) (fun _ hk=>trivial)⟩,⟨by (try simp only [fU]);(try simp only [iC]);(try simp only [kS]);(with_reducible repeat (first|refine ak ?_ _|refine aq ?_|refine aj ?_ _));refine cI ?_ fH.out _;(with_reducible repeat (first|refine ak ?_ _|refine aq ?_|refine aj ?_ _));refine cI ?_ fH.out _;(with_reducible repeat (first|refine ak ?_ _|refine aq ?_|refine aj ?_ _));refine cI ?_ fH.out _;(with_reducible repeat (first|refine ak ?_ _|refine aq ?_|refine aj ?_ _));refine cI ?_ fH.out _;(with_reducible repeat (first|refine ak ?_ _|refine aq ?_|refine aj ?_ _));refine cI ?_ fH.out _;(with_reducible repeat (first|refine ak ?_ _|refine aq ?_|refine aj ?_ _));refine cI ?_ fH.out _;(with_reducible repeat (first|refine ak ?_ _|refine aq ?_|refine aj ?_ _));exact cE.out⟩,⟨by repeat (first|(with_reducible first|exact HB.out|apply ae|apply ab|apply af|refine ai ?_ iB.out|refine ai ?_ tF.out)|exact HB.out)⟩⟩
              rw [if_neg M5] at H
              exact absurd H (by simp)
             rw [if_neg Jy] at H
             have c26b0:decide (cX<(au.length:Int))=false:=decide_eq_false Jy
             (try (have c26b0r:=c26b0;simp only [fU,iC,kS] at c26b0r))
             clear Jy
             have H':=aa.mk H
             clear H
             have Ex:wr.cell? ⟨eN,0,none⟩=some (.int .i64 aI):=(ag cE.out 0).trans rfl
             have Ey:wr.cell? ⟨eN,1,none⟩=some (.slice bh aD.length bi):=(ag cE.out 1).trans rfl
             have Ez:wr.cell? ⟨eN,2,none⟩=some (.slice bu au.length aW):=(ag cE.out 2).trans rfl
             have EA:=ah cE.out 0
             have EB:=ah cE.out 1
             have EC:=ah cE.out 2
             go_wp2
             (try simp only [← iC,← kS])
             go_roundg k3
             case measure=>have:=lw.out;have:=wG.out;have:=EK.out;omega
             case rel=>exact ⟨(sP),(pR),(wrap64 (qJ+1)),(by first|rfl|(simp;done)|(simp [*];done)),H',⟨by have:=lw.out;have:=wG.out;have:=EK.out;omega⟩,⟨by (try simp only [fU]);(try simp only [iC]);(try simp only [kS]);(with_reducible repeat (first|apply Kd.aw|apply Kd.av|apply Kd.aA));exact HO_3.out⟩,⟨by (try simp only [fU]);(try simp only [iC]);(try simp only [kS]);(with_reducible repeat (first|apply Kd.aw|apply Kd.av|apply Kd.aA));exact HO_5.out⟩,⟨by (try simp only [fU]);(try simp only [iC]);(try simp only [kS]);(with_reducible repeat (first|refine ak ?_ _|refine aq ?_|refine aj ?_ _));exact cE.out⟩,⟨by repeat (first|(with_reducible first|exact HB.out|apply ae|apply ab|apply af|refine ai ?_ iB.out)|exact HB.out)⟩⟩
          rw [if_neg LY] at H
          have c24b0:decide (qJ<aI)=false:=decide_eq_false LY
          clear LY
          have H':=aa.mk H
          clear H
          have ED:wr.cell? ⟨eN,0,none⟩=some (.int .i64 aI):=(ag cE.out 0).trans rfl
          have EE:wr.cell? ⟨eN,1,none⟩=some (.slice bh aD.length bi):=(ag cE.out 1).trans rfl
          have EF:wr.cell? ⟨eN,2,none⟩=some (.slice bu au.length aW):=(ag cE.out 2).trans rfl
          have EH:=ah cE.out 0
          have EI:=ah cE.out 1
          have EJ:=ah cE.out 2
          obtain ⟨Zv,Zw,Zx⟩:=Kd.cA HO_5.out
          subst Zx
          go_wp2
          go_loopg [9,67] k2 (fun kq v9 v67 w'=>∃ (uA:List Int) (jB:Int),v67= .int .i64 jB∧aa (aM.l3 kq iV uA (iV.length:Int) jB=some r)∧aa (kq≤k2)∧aa (Kd.R Kd.bool 4 w' w.heap.size (fun _=>True) (.slice Zv iV.length Zw) iV)∧aa (Kd.R (Kd.int .i64) 3 w' w.heap.size (fun _=>True) v9 uA)∧aa (w'.heap[eN]? =some (.cells #[.int .i64 aI,(.slice bh aD.length bi),(.slice bu au.length aW)] 26 (0,0)))∧aa (Below w.heap.size w w'))
          case atStart=>exact ⟨(([]:List Int)),(0),(by first|rfl|(simp;done)|(simp [*];done)),H',⟨Nat.le_refl _⟩,⟨by (try simp only [fU]);(try simp only [iC]);(with_reducible repeat (first|apply Kd.aw|apply Kd.av|apply Kd.aA));exact HO_5.out⟩,⟨by (try simp only [fU]);(try simp only [iC]);first|exact Kd.jE _ _ _ _ _|exact Kd.sA _ _ _ _ _|exact Kd.sB _ _ _ _ _|exact Kd.sr _ _ _ _ _|exact Kd.sy _ _ _ _ _⟩,⟨by (try simp only [fU]);(try simp only [iC]);(with_reducible repeat (first|refine ak ?_ _|refine aq ?_|refine aj ?_ _));exact cE.out⟩,⟨by repeat (first|(with_reducible first|exact HB.out|apply ae|apply ab|apply af|refine ai ?_ iB.out)|exact HB.out)⟩⟩
          case round=>
           clear H'
           try clear c1
           try clear p1
           try clear q1
           try clear hx1
           try clear hf1
           try clear c2
           try clear p2
           try clear c3
           try clear p3
           try clear q3
           try clear Zy
           try clear hf3
           try clear c4
           try clear c4b0
           try clear c4b1
           try clear c5
           try clear c5b0
           try clear c5b1
           try clear p6
           try clear c8
           try clear oh
           try clear c13b0
           try clear rR
           try clear c14b0
           try clear uu
           try clear c15b0
           try clear J2
           try clear J3
           try clear QG
           try clear QH
           try clear Af
           try clear c19b0
           try clear c19b1
           try clear Ag
           try clear c20b0
           try clear c20b1
           try clear LY
           try clear c24b0
           try clear Jy
           try clear c26b0
           try clear M5
           try clear c27b0
           try clear LZ
           try clear c28b0
           try clear c28b1
           try clear QK
           try clear O4
           try clear c31b0
           try clear LH
           try clear QM
           try clear QN
           try clear ad4
           try clear ad5
           try clear NF
           try clear c44
           try clear c51
           try clear vF
           try clear vG
           try clear vH
           try clear zo
           try clear zp
           try clear zq
           try clear zi
           try clear zj
           try clear zk
           try clear o4
           try clear o5
           try clear o6
           try clear J5
           try clear J6
           try clear J7
           try clear Kb
           try clear Ke
           try clear Kf
           try clear Kg
           try clear Kh
           try clear Ki
           try clear DX
           try clear DY
           try clear DZ
           try clear D3
           try clear D4
           try clear D5
           try clear D6
           try clear D7
           try clear D8
           try clear Kq
           try clear Kr
           try clear Ks
           try clear Kt
           try clear Ku
           try clear Kv
           try clear yN
           try clear yO
           try clear yP
           try clear Ej
           try clear Ek
           try clear El
           try clear Em
           try clear En
           try clear Eo
           try clear Ex
           try clear Ey
           try clear Ez
           try clear ED
           try clear EE
           try clear EF
           try clear mX
           try clear mY
           try clear mZ
           try clear jP
           try clear jQ
           try clear j9
           try clear vI
           try clear vJ
           try clear vK
           try clear zr
           try clear zt
           try clear zu
           try clear zl
           try clear zm
           try clear zn
           try clear o7
           try clear o8
           try clear o9
           try clear J8
           try clear J9
           try clear Ka
           try clear Kj
           try clear Kk
           try clear Kl
           try clear Km
           try clear Kn
           try clear Ko
           try clear D0
           try clear D1
           try clear D2
           try clear D9
           try clear Ea
           try clear Eb
           try clear Ec
           try clear Ed
           try clear Ee
           try clear Kw
           try clear Kx
           try clear Ky
           try clear Kz
           try clear KA
           try clear KC
           try clear yQ
           try clear yR
           try clear yS
           try clear Ep
           try clear Er
           try clear Es
           try clear Et
           try clear Eu
           try clear Ew
           try clear EA
           try clear EB
           try clear EC
           try clear EH
           try clear EI
           try clear EJ
           try clear m5
           try clear m6
           try clear m7
           try clear ke
           try clear jR
           try clear kg
           try clear lV
           try clear lW
           try clear lX
           try clear lY
           try clear lZ
           try clear l4
           try clear C4
           try clear NL
           try clear p1
           try clear J2
           try clear vp
           try clear p2
           try clear QM
           try clear p6
           try clear q1
           try clear J3
           try clear vq
           try clear QN
           obtain ⟨uA,jB,rfl,HA,EK,HO_5,HO_9,cE,HB⟩:=hrel
           cases gk with
           |zero=>exact absurd HA.out (by simp [aM.l3])
           |succ k3=>
            have H:=HA.out
            clear HA
            simp only [aM.l3] at H
            by_cases Ge:jB<(iV.length:Int)
            ·rw [if_pos Ge] at H
             have c56b0:decide (jB<(iV.length:Int))=true:=decide_eq_true Ge
             (try (have c56b0r:=c56b0;simp only [fU,iC] at c56b0r))
             clear Ge
             by_cases I2:0≤jB
             ·rw [if_pos I2] at H
              have c57b0:decide (0≤jB)=true:=decide_eq_true I2
              clear I2
              by_cases WC:jB<(iV.length:Int)
              ·rw [if_pos WC] at H
               have c58b0:decide (jB<(iV.length:Int))=true:=decide_eq_true WC
               (try (have c58b0r:=c58b0;simp only [fU,iC] at c58b0r))
               clear WC
               obtain ⟨QS,H3⟩:∃ b_:Bool,b_=(uf false iV jB):=⟨_,rfl⟩
               replace H:(if QS=true then (if uA.length<17592186044416 then (aM.l3 k3 iV (uA++[jB]) (iV.length:Int) (wrap64 (jB+1))) else (none)) else (aM.l3 k3 iV uA (iV.length:Int) (wrap64 (jB+1))))=some r:=by rw [← H3] at H;exact H
               have L3:=aa.mk H3
               clear H3
               by_cases WD:QS=true
               ·subst WD
                have H1:(if uA.length<17592186044416 then (aM.l3 k3 iV (uA++[jB]) (iV.length:Int) (wrap64 (jB+1))) else (none))=some r:=by rw [if_pos rfl] at H;exact H
                clear H
                have H:=H1
                clear H1
                by_cases WE:uA.length<17592186044416
                ·rw [if_pos WE] at H
                 have QT:=aa.mk WE
                 clear WE
                 obtain ⟨QU,BD⟩:∃ y_:List Int,y_=(uA++[jB]):=⟨_,rfl⟩
                 replace H:(aM.l3 k3 iV QU (iV.length:Int) (wrap64 (jB+1)))=some r:=by first|(rw [BD];with_reducible exact H)|(have gT:=(Option.bind_some _ _).symm.trans H;rw [BD];with_reducible exact gT)|(have gT:=(Option.bind_some _ _).symm.trans H;with_reducible exact gT)|with_reducible exact H|(rw [BD];exact H)|exact H
                 have QV:=aa.mk BD
                 clear BD
                 have H':=aa.mk H
                 clear H
                 have C5:0≤(jB:Int):=of_decide_eq_true (by assumption)
                 have C6:jB<(iV.length:Int):=of_decide_eq_true (by assumption)
                 obtain ⟨QW,NN,zx⟩:=Kd.Dn (Kd.bf HO_5.out).2.2 jB C5 C6
                 (try rw [← L3.out] at zx)
                 cases NN
                 replace C5:=eq_true C5
                 replace C6:=eq_true C6
                 go_wp2_with (first|((with_reducible refine gr (b:= .append) (xs:=#[.tmp 74,.tmp 76]) rfl ?_);at_builtin;refine Kd.ox (Kd.int .i64) (w0:=w) w.heap.size rfl (.tmp 74) (.tmp 76) 22 3 (.int .i64 0) 8 rfl Try.underlying22 info3 rfl (by decide) (by omega) u9 uA jB [.int .i64 jB] (fun _=>True) (fun _=>False) rfl rfl ?aP (fun _ hk=>hk.elim) ?aF ?aO ?aB ?aS ?aL ?_;(case aP=>exact rfl);(case aB=>exact (by repeat (first|(with_reducible first|exact HB.out|apply ae|apply ab|apply af|refine ai ?_ iB.out)|exact HB.out)));(case aF=>exact (fun _ _=>trivial));(case aO=>exact (by (with_reducible repeat (first|apply Kd.aw|apply Kd.av|apply Kd.aA));exact HO_9.out));(case aS=>exact (az (by repeat (first|(with_reducible first|exact HB.out|apply ae|apply ab|apply af|refine ai ?_ iB.out)|exact HB.out))));(case aL=>have:=QT.out;omega);intro ad7 w62 ho hb hg hat;rw [← QV.out] at ho;have br:=aa.mk (Kd.te (by (with_reducible repeat (first|apply Kd.aw|apply Kd.av|apply Kd.aA));exact HO_5.out) (Kd.ry (by (with_reducible repeat (first|apply Kd.aw|apply Kd.av|apply Kd.aA));exact HO_9.out)) (by decide) hg);have bt:=aa.mk (dq (g:=eN) (o:= .cells #[.int .i64 aI,.slice bh aD.length bi,.slice bu au.length aW] 26 (0,0)) (by (with_reducible repeat (first|refine ak ?_ _|refine aq ?_|refine aj ?_ _));exact cE.out) hg (Kd.mz HO_9.out cE.out (by decide)));have bA:=aa.mk (hb);have bK:=aa.mk (ho);clear HO_5;clear cE;clear HB;clear HO_9;have HO_5:=br;have cE:=bt;have HB:=bA;have QX:=bK;clear br bt bA bK;clear ho hb hg hat))
                 go_roundg k3
                 case measure=>have:=lw.out;have:=wG.out;have:=EK.out;omega
                 case rel=>exact ⟨(QU),(wrap64 (jB+1)),(by first|rfl|(simp;done)|(simp [*];done)),H',⟨by have:=lw.out;have:=wG.out;have:=EK.out;omega⟩,⟨by (try simp only [fU]);(try simp only [iC]);(with_reducible repeat (first|apply Kd.aw|apply Kd.av|apply Kd.aA));exact HO_5.out⟩,⟨by (try simp only [fU]);(try simp only [iC]);(with_reducible repeat (first|apply Kd.aw|apply Kd.av|apply Kd.aA));exact QX.out⟩,⟨by (try simp only [fU]);(try simp only [iC]);(with_reducible repeat (first|refine ak ?_ _|refine aq ?_|refine aj ?_ _));exact cE.out⟩,⟨by repeat (first|(with_reducible first|exact HB.out|apply ae|apply ab|apply af|refine ai ?_ iB.out)|exact HB.out)⟩⟩
                rw [if_neg WE] at H
                exact absurd H (by simp)
               replace WD:=Bool.eq_false_iff.mpr WD
               subst WD
               have H1:(aM.l3 k3 iV uA (iV.length:Int) (wrap64 (jB+1)))=some r:=by rw [if_neg (show ¬(false=true) by decide)] at H;exact H
               clear H
               have H:=H1
               clear H1
               have H':=aa.mk H
               clear H
               have C5:0≤(jB:Int):=of_decide_eq_true (by assumption)
               have C6:jB<(iV.length:Int):=of_decide_eq_true (by assumption)
               obtain ⟨QW,NN,zx⟩:=Kd.Dn (Kd.bf HO_5.out).2.2 jB C5 C6
               (try rw [← L3.out] at zx)
               cases NN
               replace C5:=eq_true C5
               replace C6:=eq_true C6
               go_wp2
               go_roundg k3
               case measure=>have:=lw.out;have:=wG.out;have:=EK.out;omega
               case rel=>exact ⟨(uA),(wrap64 (jB+1)),(by first|rfl|(simp;done)|(simp [*];done)),H',⟨by have:=lw.out;have:=wG.out;have:=EK.out;omega⟩,⟨by (try simp only [fU]);(try simp only [iC]);(with_reducible repeat (first|apply Kd.aw|apply Kd.av|apply Kd.aA));exact HO_5.out⟩,⟨by (try simp only [fU]);(try simp only [iC]);(with_reducible repeat (first|apply Kd.aw|apply Kd.av|apply Kd.aA));exact HO_9.out⟩,⟨by (try simp only [fU]);(try simp only [iC]);(with_reducible repeat (first|refine ak ?_ _|refine aq ?_|refine aj ?_ _));exact cE.out⟩,⟨by repeat (first|(with_reducible first|exact HB.out|apply ae|apply ab|apply af|refine ai ?_ iB.out)|exact HB.out)⟩⟩
              rw [if_neg WC] at H
              exact absurd H (by simp)
             rw [if_neg I2] at H
             exact absurd H (by simp)
            rw [if_neg Ge] at H
            have c56b0:decide (jB<(iV.length:Int))=false:=decide_eq_false Ge
            (try (have c56b0r:=c56b0;simp only [fU,iC] at c56b0r))
            clear Ge
            obtain rfl:=Option.some.inj H
            go_wp2
            go_ret
            exact ⟨_,by first|rfl|(simp [bB,bC]<;>rfl)|(simp [*,bB,bC]<;>rfl),by (with_reducible repeat (first|apply Kd.aw|apply Kd.av|apply Kd.aA));exact HO_9.out,by repeat (first|(with_reducible first|exact HB.out|apply ae|apply ab|apply af|refine ai ?_ iB.out)|exact HB.out)⟩
       rw [if_neg Ag] at H
       exact absurd H (by simp)
      rw [if_neg Af] at H
      exact absurd H (by simp)
   rw [if_neg c5] at H
   exact absurd H (by simp)
  rw [if_neg c4] at H
  exact absurd H (by simp)
 replace c3:=Bool.eq_false_iff.mpr c3
 subst c3
 have H1:(some ([]:List Int))=some r:=by rw [if_neg (show ¬(false=true) by decide)] at H;exact H
 clear H
 have H:=H1
 clear H1
 obtain rfl:=Option.some.inj H
 go_enter Try.func32,Try.ntmps32
 go_wp2_with (first|((with_reducible refine bF (N:=1) rfl ?_);refine bH ?hg (N:=1) ?hd (cs:=#[.int .i64 aI,.slice bh aD.length bi,.slice bu au.length aW]) (t:=26) ?hr ?_;(case hd=>rfl);(case hg=>rfl);(case hr=>first|(go_simp;done)|(go_simp;rfl));intro eN hg Zz hbox hb;have br:=aa.mk (aE (by repeat (first|(with_reducible first|exact HB.out|apply ae|apply ab|apply af)|exact HB.out)) hb);have bt:=aa.mk (hbox);have bA:=aa.mk ((by rw [hg];exact (az (by repeat (first|(with_reducible first|exact HB.out|apply ae|apply ab|apply af)|exact HB.out))):w.heap.size≤eN));have bK:=aa.mk ((by rw [hg];exact (az (by repeat (first|(with_reducible first|exact HB.out|apply ae|apply ab|apply af)|exact HB.out))):w.heap.size≤eN));clear HB;have HB:=br;have cE:=bt;have QA:=bA;have iB:=bK;clear br bt bA bK;clear hb hbox hg;have DG:Zz.cell? ⟨eN,0,none⟩=some (.int .i64 aI):=(ag cE.out 0).trans rfl;have DH:Zz.cell? ⟨eN,1,none⟩=some (.slice bh aD.length bi):=(ag cE.out 1).trans rfl;have DI:Zz.cell? ⟨eN,2,none⟩=some (.slice bu au.length aW):=(ag cE.out 2).trans rfl;have DJ:=ah cE.out 0;have DK:=ah cE.out 1;have DL:=ah cE.out 2)|((with_reducible refine bY (f:=85) rfl ?_);refine er (some 12) rfl rfl Try.func85 (by kernel_rfl) rfl #[.agg #[.int .i64 aI,.slice bh aD.length bi,.slice bu au.length aW]] rfl (by (try simp only [List.map_toArray,List.map_cons,List.map_nil]);first|done|rfl|(simp only [List.length_drop,List.length_take];rfl)) ?_;(with_reducible refine (aQ.calls k aI _ _ aD _ _ au false _ ?bS ?bT ?cJ ?cN A2.out).mono ?_);(case bS=>repeat (first|exact (Kd.aN fA.out HB.out)|(with_reducible refine Kd.aT ?_ _)|(with_reducible refine Kd.aU ?_ _)|(with_reducible refine Kd.bk ?_)));(case bT=>exact fB.out);(case cJ=>repeat (first|exact (Kd.aN ez.out HB.out)|(with_reducible refine Kd.aT ?_ _)|(with_reducible refine Kd.aU ?_ _)|(with_reducible refine Kd.bk ?_)));(case cN=>exact fC.out);rintro e I1 ⟨rfl,hb⟩;refine ⟨_,rfl, ?_⟩;have br:=aa.mk (aH (g:=eN) (o:= .cells #[.int .i64 aI,.slice bh aD.length bi,.slice bu au.length aW] 26 (0,0)) (by (with_reducible repeat (first|refine ak ?_ _|refine aq ?_|refine aj ?_ _));exact cE.out) hb);have bt:=aa.mk (aE (by repeat (first|(with_reducible first|exact HB.out|apply ae|apply ab|apply af|refine ai ?_ iB.out)|exact HB.out)) hb);clear cE;clear HB;have cE:=br;have HB:=bt;clear br bt;(try clear hb);(try clear hb2);(try clear hk);(try clear hi)))
 go_ret
 exact ⟨_,by first|rfl|(simp [bB,bC]<;>rfl)|(simp [*,bB,bC]<;>rfl),by first|exact Kd.jE _ _ _ _ _|exact Kd.sA _ _ _ _ _|exact Kd.sB _ _ _ _ _|exact Kd.sr _ _ _ _ _|exact Kd.sy _ _ _ _ _,by repeat (first|(with_reducible first|exact HB.out|apply ae|apply ab|apply af|refine ai ?_ iB.out)|exact HB.out)⟩
end Go.Proofs.Ytbkjplomoegbdaa.PB
