/- Parts of the proof of CyclesSums, gathered by a program of this claim out of texts that it or the kit's print wrote: lemmas alone, no condition of their own. -/
import Derived.Test.YtbkjplomoegbdaaCcs18
import Derived.Test.YtbkjplomoegbdaaCcs17
namespace Go.Proofs.Ytbkjplomoegbdaa.PB
open Go.RowKit Go.Proofs.YtbkjplomoegbdaaW.bO Go.Proofs.YtbkjplomoegbdaaW.dA Go.Proofs.YtbkjplomoegbdaaW.dG
attribute [local go_sem] iQ iR jM jN gW gX iS iT
set_option linter.unusedVariables false
set_option linter.unusedSimpArgs false
def cK.l0:Nat→List Int→List Int→List (eu)→Int→Int→Int→List (hO)→List (eu)→Option (List Int × Int)
 |0,_,_,_,_,_,_,_,_=>none
 |k+1,x1,x6,wB,Ly,vD,EU,KS,KT=>if vD<Ly then (if 0≤vD then (if vD<(wB.length:Int) then (if 0≤((aC wB vD).f1) then (if ((aC wB vD).f1)<(x1.length:Int) then (if 0≤((aC wB vD).f2) then (if ((aC wB vD).f2)<(x1.length:Int) then ((lG.f EU ((aC wB vD).f0) ((aC wB vD).f1) ((aC wB vD).f2) ((aC wB vD).f3) ((aC wB vD).f4) ((aC wB vD).f5) (rd x1 ((aC wB vD).f1)) (rd x1 ((aC wB vD).f2))).bind fun Dh=>(if x6.length<17592186044416 then (cK.l0 k x1 (x6++[Dh]) wB Ly (wrap64 (vD+1)) EU KS KT) else (none))) else (none)) else (none)) else (none)) else (none)) else (none)) else (none)) else (some (x6,0))
def cK.f (k:Nat) (aI:Int) (aD:List (hO)) (au:List (eu)) (l1:List Int):Option (List Int × Int):=(kv.f aI aD au l1).bind fun F3=>(if F3=true then (cK.l0 k l1 ([]:List Int) au (au.length:Int) 0 aI aD au) else (some (([]:List Int),1)))
def cK.T7:Bool × List (List Nat × List Nat):=(true,[([],[]),([],[]),([1],[1]),([],[]),([],[]),([],[]),([5],[5]),([4,6],[4,6]),([7],[7]),([],[]),([],[]),([10],[10]),([9,11],[9,11]),([12],[12]),([2,3,8,13],[2,3,8,13]),([14],[14]),([0,15,14],[0,15]),([16,16,0,1,2,3,4,5,6,7,8,9,10,11,12,13,14,15,16],[0,16])])
def cK.B7:List Nat:=[0,0,2,0,0,0,32,112,240,0,0,1024,3584,7680,16382,32766,65535,131071]
theorem cK.Od:jX .any (opsOf Try.f42 7)=cK.T7:=by kernel_rfl
theorem cK.Iq:gU cK.T7.2 cK.B7=true:=by kernel_rfl
set_option maxHeartbeats 8000000 in
set_option maxRecDepth 100000 in
theorem cK.calls (k:Nat) (aI:Int) (bh:Option Addr) (bi:Nat) (aD:List (hO)) (bu:Option Addr) (aW:Nat) (au:List (eu)) (A1:Option Addr) (c1:Nat) (l1:List Int) (r1:List Int) (r2:Int) (w:World) (eI:Kd.C oS w bh aD.length aD) (eS:aD.length≤bi) (eC:Kd.C nD w bu au.length au) (eT:au.length≤aW) (mh:Kd.C (Kd.int .i64) w A1 l1.length l1) (oA:l1.length≤c1) (h:cK.f k aI aD au l1=some (r1,r2)):
  Calls Try.prog 42 #[.agg #[.int .i64 aI,.slice bh aD.length bi,.slice bu au.length aW],.slice A1 l1.length c1] w fun e w'=>∃ uo:Value,e= .returned (.tuple #[uo,.int .i64 r2])∧Kd.R (Kd.int .i64) 3 w' w.heap.size (fun _=>True) uo r1∧Below w.heap.size w w':=by
 have nu:=Try.underlying26
 have sj:=Try.underlying36
 have fA:=aa.mk eI
 have fB:=aa.mk eS
 clear eI eS
 have ez:=aa.mk eC
 have fC:=aa.mk eT
 clear eC eT
 have lA:=aa.mk mh
 have pK:=aa.mk oA
 clear mh oA
 have HB:=aa.mk (Below.refl w.heap.size w)
 have H:((kv.f aI aD au l1).bind fun F3=>(if F3=true then (cK.l0 k l1 ([]:List Int) au (au.length:Int) 0 aI aD au) else (some (([]:List Int),1))))=some (r1,r2):=h
 clear h
 replace H:=Option.bind_eq_some_iff.mp H
 obtain ⟨F3,AB,H⟩:=H
 replace H:(if F3=true then (cK.l0 k l1 ([]:List Int) au (au.length:Int) 0 aI aD au) else (some (([]:List Int),1)))=some (r1,r2):=H
 have A3:=aa.mk AB
 clear AB
 by_cases c4:F3=true
 ·subst c4
  have H1:(cK.l0 k l1 ([]:List Int) au (au.length:Int) 0 aI aD au)=some (r1,r2):=by rw [if_pos rfl] at H;exact H
  clear H
  have H:=H1
  clear H1
  have H':=aa.mk H
  clear H
  go_enter Try.func42,Try.ntmps42
  go_wp2_with (first|((with_reducible refine bF (N:=2) rfl ?_);refine bH ?hg (N:=2) ?hd (cs:=#[.int .i64 aI,.slice bh aD.length bi,.slice bu au.length aW]) (t:=26) ?hr ?_;(case hd=>rfl);(case hg=>rfl);(case hr=>first|(go_simp;done)|(go_simp;rfl));intro jG hg w5 hbox hb;have br:=aa.mk (aE (by repeat (first|(with_reducible first|exact HB.out|apply ae|apply ab|apply af)|exact HB.out)) hb);have bt:=aa.mk (hbox);have bA:=aa.mk ((by rw [hg];exact (az (by repeat (first|(with_reducible first|exact HB.out|apply ae|apply ab|apply af)|exact HB.out))):w.heap.size≤jG));have bK:=aa.mk ((by rw [hg];exact (az (by repeat (first|(with_reducible first|exact HB.out|apply ae|apply ab|apply af)|exact HB.out))):w.heap.size≤jG));clear HB;have HB:=br;have e8:=bt;have Rl:=bA;have py:=bK;clear br bt bA bK;clear hb hbox hg;have xg:w5.cell? ⟨jG,0,none⟩=some (.int .i64 aI):=(ag e8.out 0).trans rfl;have xh:w5.cell? ⟨jG,1,none⟩=some (.slice bh aD.length bi):=(ag e8.out 1).trans rfl;have xj:w5.cell? ⟨jG,2,none⟩=some (.slice bu au.length aW):=(ag e8.out 2).trans rfl;have xk:=ah e8.out 0;have xl:=ah e8.out 1;have xm:=ah e8.out 2)|((with_reducible refine bY (f:=93) rfl ?_);refine er (some 11) rfl rfl Try.func93 (by kernel_rfl) rfl #[.agg #[.int .i64 aI,.slice bh aD.length bi,.slice bu au.length aW],.slice A1 l1.length c1] rfl (by (try simp only [List.map_toArray,List.map_cons,List.map_nil]);first|done|rfl|(simp only [List.length_drop,List.length_take];rfl)) ?_;(with_reducible refine (kv.calls aI _ _ aD _ _ au _ _ l1 true _ ?bS ?bT ?cJ ?cN ?du ?dw A3.out).mono ?_);(case bS=>repeat (first|exact (Kd.aN fA.out HB.out)|(with_reducible refine Kd.aT ?_ _)|(with_reducible refine Kd.aU ?_ _)|(with_reducible refine Kd.bk ?_)));(case bT=>exact fB.out);(case cJ=>repeat (first|exact (Kd.aN ez.out HB.out)|(with_reducible refine Kd.aT ?_ _)|(with_reducible refine Kd.aU ?_ _)|(with_reducible refine Kd.bk ?_)));(case cN=>exact fC.out);(case du=>repeat (first|exact (Kd.aN lA.out HB.out)|(with_reducible refine Kd.aT ?_ _)|(with_reducible refine Kd.aU ?_ _)|(with_reducible refine Kd.bk ?_)));(case dw=>exact pK.out);rintro e w7 ⟨rfl,hb⟩;refine ⟨_,rfl, ?_⟩;have br:=aa.mk (aH (g:=jG) (o:= .cells #[.int .i64 aI,.slice bh aD.length bi,.slice bu au.length aW] 26 (0,0)) (by (with_reducible repeat (first|refine ak ?_ _|refine aq ?_|refine aj ?_ _));exact e8.out) hb);have bt:=aa.mk (aE (by repeat (first|(with_reducible first|exact HB.out|apply ae|apply ab|apply af|refine ai ?_ py.out)|exact HB.out)) hb);clear e8;clear HB;have e8:=br;have HB:=bt;clear br bt;(try clear hb);(try clear hb2);(try clear hk);(try clear hi);have yZ:w7.cell? ⟨jG,0,none⟩=some (.int .i64 aI):=(ag e8.out 0).trans rfl;have y4:w7.cell? ⟨jG,1,none⟩=some (.slice bh aD.length bi):=(ag e8.out 1).trans rfl;have y5:w7.cell? ⟨jG,2,none⟩=some (.slice bu au.length aW):=(ag e8.out 2).trans rfl;have y6:=ah e8.out 0;have y7:=ah e8.out 1;have y8:=ah e8.out 2))
  go_loopg [6,16] k (fun kq v6 PP w'=>∃ (iq:List Int) (cu:Int),PP= .int .i64 cu∧aa (cK.l0 kq l1 iq au (au.length:Int) cu aI aD au=some (r1,r2))∧aa (kq≤k)∧aa (Kd.R (Kd.int .i64) 3 w' w.heap.size (fun _=>True) v6 iq)∧aa (w'.heap[jG]? =some (.cells #[.int .i64 aI,(.slice bh aD.length bi),(.slice bu au.length aW)] 26 (0,0)))∧aa (Below w.heap.size w w'))
  case atStart=>exact ⟨(([]:List Int)),(0),(by first|rfl|(simp;done)|(simp [*];done)),H',⟨Nat.le_refl _⟩,⟨by first|exact Kd.jE _ _ _ _ _|exact Kd.sA _ _ _ _ _|exact Kd.sB _ _ _ _ _|exact Kd.sr _ _ _ _ _|exact Kd.sy _ _ _ _ _⟩,⟨by (with_reducible repeat (first|refine ak ?_ _|refine aq ?_|refine aj ?_ _));exact e8.out⟩,⟨by repeat (first|(with_reducible first|exact HB.out|apply ae|apply ab|apply af|refine ai ?_ py.out)|exact HB.out)⟩⟩
  case round=>
   clear H'
   try clear c1
   try clear p2
   try clear c4
   try clear xg
   try clear xh
   try clear xj
   try clear yZ
   try clear y4
   try clear y5
   try clear xk
   try clear xl
   try clear xm
   try clear y6
   try clear y7
   try clear y8
   obtain ⟨iq,cu,rfl,HA,lw,HO_6,e8,HB⟩:=hrel
   cases gk with
   |zero=>exact absurd HA.out (by simp [cK.l0])
   |succ k1=>
    have H:=HA.out
    clear HA
    simp only [cK.l0] at H
    by_cases c9:cu<(au.length:Int)
    ·rw [if_pos c9] at H
     have c9b0:decide (cu<(au.length:Int))=true:=decide_eq_true c9
     clear c9
     by_cases uq:0≤cu
     ·rw [if_pos uq] at H
      have c10b0:decide (0≤cu)=true:=decide_eq_true uq
      clear uq
      by_cases xc:cu<(au.length:Int)
      ·rw [if_pos xc] at H
       have c11b0:decide (cu<(au.length:Int))=true:=decide_eq_true xc
       clear xc
       by_cases sZ:0≤((aC au cu).f1)
       ·rw [if_pos sZ] at H
        have c12b0:decide (0≤((aC au cu).f1))=true:=decide_eq_true sZ
        clear sZ
        by_cases oh:((aC au cu).f1)<(l1.length:Int)
        ·rw [if_pos oh] at H
         have c13b0:decide (((aC au cu).f1)<(l1.length:Int))=true:=decide_eq_true oh
         clear oh
         by_cases rR:0≤((aC au cu).f2)
         ·rw [if_pos rR] at H
          have c14b0:decide (0≤((aC au cu).f2))=true:=decide_eq_true rR
          clear rR
          by_cases uu:((aC au cu).f2)<(l1.length:Int)
          ·rw [if_pos uu] at H
           have c15b0:decide (((aC au cu).f2)<(l1.length:Int))=true:=decide_eq_true uu
           clear uu
           replace H:=Option.bind_eq_some_iff.mp H
           obtain ⟨Dh,GR,H⟩:=H
           replace H:(if iq.length<17592186044416 then (cK.l0 k1 l1 (iq++[Dh]) au (au.length:Int) (wrap64 (cu+1)) aI aD au) else (none))=some (r1,r2):=H
           have YJ:=aa.mk GR
           clear GR
           by_cases qf:iq.length<17592186044416
           ·rw [if_pos qf] at H
            have GS:=aa.mk qf
            clear qf
            obtain ⟨Rm,BR⟩:∃ y_:List Int,y_=(iq++[Dh]):=⟨_,rfl⟩
            replace H:(cK.l0 k1 l1 Rm au (au.length:Int) (wrap64 (cu+1)) aI aD au)=some (r1,r2):=by first|(rw [BR];with_reducible exact H)|(have gT:=(Option.bind_some _ _).symm.trans H;rw [BR];with_reducible exact gT)|(have gT:=(Option.bind_some _ _).symm.trans H;with_reducible exact gT)|with_reducible exact H|(rw [BR];exact H)|exact H
            have Rn:=aa.mk BR
            clear BR
            have H':=aa.mk H
            clear H
            have Oe:0≤(cu:Int):=of_decide_eq_true (by assumption)
            have Og:cu<(au.length:Int):=of_decide_eq_true (by assumption)
            obtain ⟨xn,ZU,zI,zJ,zK,zL,zM,zN⟩:=i9 ez.out cu Oe Og
            cases ZU
            replace zI:=(HB.out.cell (World.block_lt_of_cell? w _ zI)).trans zI
            replace zJ:=(HB.out.cell (World.block_lt_of_cell? w _ zJ)).trans zJ
            replace zK:=(HB.out.cell (World.block_lt_of_cell? w _ zK)).trans zK
            replace zL:=(HB.out.cell (World.block_lt_of_cell? w _ zL)).trans zL
            replace zM:=(HB.out.cell (World.block_lt_of_cell? w _ zM)).trans zM
            replace zN:=(HB.out.cell (World.block_lt_of_cell? w _ zN)).trans zN
            replace Oe:=eq_true Oe
            replace Og:=eq_true Og
            try go_wp2_with (first|((with_reducible refine bF (N:=8) rfl ?_);refine bH ?hg (N:=8) ?hd (cs:=#[.int .i64 0,.int .i64 0,.int .i64 0,.int .i64 0,.int .i64 0,.int .i64 0]) (t:=36) ?hr ?_;(case hd=>rfl);(case hg=>rfl);(case hr=>first|(go_simp;done)|(go_simp;rfl));intro fI hg AR hbox hb;have br:=aa.mk (Kd.aZ (by (with_reducible repeat (first|apply Kd.aw|apply Kd.av|apply Kd.aA));exact HO_6.out) hb);have bt:=aa.mk (aH (g:=jG) (o:= .cells #[.int .i64 aI,.slice bh aD.length bi,.slice (some xn) au.length aW] 26 (0,0)) (by (with_reducible repeat (first|refine ak ?_ _|refine aq ?_|refine aj ?_ _));exact e8.out) hb);have bA:=aa.mk (aE (by repeat (first|(with_reducible first|exact HB.out|apply ae|apply ab|apply af|refine ai ?_ py.out)|exact HB.out)) hb);have bK:=aa.mk (hbox);have cL:=aa.mk ((by rw [hg];exact (az (by repeat (first|(with_reducible first|exact HB.out|apply ae|apply ab|apply af|refine ai ?_ py.out)|exact HB.out))):w.heap.size≤fI));have dc:=aa.mk ((by rw [hg];exact (az (by repeat (first|(with_reducible first|exact HB.out|apply ae|apply ab|apply af|refine ai ?_ py.out)|exact HB.out))):w.heap.size≤fI));have dQ:=aa.mk ((by rw [hg];exact Nat.ne_of_lt (cn (g:=jG) (o:= .cells #[.int .i64 aI,.slice bh aD.length bi,.slice (some xn) au.length aW] 26 (0,0)) (by (with_reducible repeat (first|refine ak ?_ _|refine aq ?_|refine aj ?_ _));exact e8.out)):jG≠fI));have gL:=aa.mk ((by rw [hg];exact Nat.ne_of_gt (cn (g:=jG) (o:= .cells #[.int .i64 aI,.slice bh aD.length bi,.slice (some xn) au.length aW] 26 (0,0)) (by (with_reducible repeat (first|refine ak ?_ _|refine aq ?_|refine aj ?_ _));exact e8.out)):fI≠jG));clear HO_6;clear e8;clear HB;have HO_6:=br;have e8:=bt;have HB:=bA;have fQ:=bK;have ab5:=cL;have BS:=dc;have m9:=dQ;have F4:=gL;clear br bt bA bK cL dc dQ gL;clear hb hbox hg;have ab6:=F4.out;have ab7:=m9.out;have WK:AR.cell? ⟨fI,0,none⟩=some (.int .i64 0):=(ag fQ.out 0).trans rfl;have WL:AR.cell? ⟨fI,1,none⟩=some (.int .i64 0):=(ag fQ.out 1).trans rfl;have WM:AR.cell? ⟨fI,2,none⟩=some (.int .i64 0):=(ag fQ.out 2).trans rfl;have WN:AR.cell? ⟨fI,3,none⟩=some (.int .i64 0):=(ag fQ.out 3).trans rfl;have WO:AR.cell? ⟨fI,4,none⟩=some (.int .i64 0):=(ag fQ.out 4).trans rfl;have WP:AR.cell? ⟨fI,5,none⟩=some (.int .i64 0):=(ag fQ.out 5).trans rfl;have WQ:=ah fQ.out 0;have WR:=ah fQ.out 1;have WS:=ah fQ.out 2;have WT:=ah fQ.out 3;have WU:=ah fQ.out 4;have WV:=ah fQ.out 5))
            have br:aa (Kd.R (Kd.int .i64) 3 ((((((AR.setCell ⟨fI,0,none⟩ (.int .i64 ((aC au cu).f0))).setCell ⟨fI,1,none⟩ (.int .i64 ((aC au cu).f1))).setCell ⟨fI,2,none⟩ (.int .i64 ((aC au cu).f2))).setCell ⟨fI,3,none⟩ (.int .i64 ((aC au cu).f3))).setCell ⟨fI,4,none⟩ (.int .i64 ((aC au cu).f4))).setCell ⟨fI,5,none⟩ (.int .i64 ((aC au cu).f5))) w.heap.size (fun _=>True) u6 iq):=⟨by (with_reducible repeat (first|apply Kd.aw|apply Kd.av|apply Kd.aA));exact Kd.bN (Kd.cg (p:=⟨fI,5,none⟩) (Kd.cg (p:=⟨fI,4,none⟩) (Kd.cg (p:=⟨fI,3,none⟩) (Kd.cg (p:=⟨fI,2,none⟩) (Kd.cg (p:=⟨fI,1,none⟩) (Kd.cg (p:=⟨fI,0,none⟩) (Kd.dL HO_6.out fQ.out (by decide)) (fun _ hk=>hk.2) (.int .i64 ((aC au cu).f0))) (fun _ hk=>hk.2) (.int .i64 ((aC au cu).f1))) (fun _ hk=>hk.2) (.int .i64 ((aC au cu).f2))) (fun _ hk=>hk.2) (.int .i64 ((aC au cu).f3))) (fun _ hk=>hk.2) (.int .i64 ((aC au cu).f4))) (fun _ hk=>hk.2) (.int .i64 ((aC au cu).f5))) (fun _ hk=>trivial)⟩
            have bt:aa (((((((AR.setCell ⟨fI,0,none⟩ (.int .i64 ((aC au cu).f0))).setCell ⟨fI,1,none⟩ (.int .i64 ((aC au cu).f1))).setCell ⟨fI,2,none⟩ (.int .i64 ((aC au cu).f2))).setCell ⟨fI,3,none⟩ (.int .i64 ((aC au cu).f3))).setCell ⟨fI,4,none⟩ (.int .i64 ((aC au cu).f4))).setCell ⟨fI,5,none⟩ (.int .i64 ((aC au cu).f5))).heap[jG]? =some (.cells #[.int .i64 aI,.slice bh aD.length bi,.slice (some xn) au.length aW] 26 (0,0))):=⟨by (with_reducible repeat (first|refine ak ?_ _|refine aq ?_|refine aj ?_ _));refine cI ?_ m9.out _;(with_reducible repeat (first|refine ak ?_ _|refine aq ?_|refine aj ?_ _));refine cI ?_ m9.out _;(with_reducible repeat (first|refine ak ?_ _|refine aq ?_|refine aj ?_ _));refine cI ?_ m9.out _;(with_reducible repeat (first|refine ak ?_ _|refine aq ?_|refine aj ?_ _));refine cI ?_ m9.out _;(with_reducible repeat (first|refine ak ?_ _|refine aq ?_|refine aj ?_ _));refine cI ?_ m9.out _;(with_reducible repeat (first|refine ak ?_ _|refine aq ?_|refine aj ?_ _));refine cI ?_ m9.out _;(with_reducible repeat (first|refine ak ?_ _|refine aq ?_|refine aj ?_ _));exact e8.out⟩
            have bA:aa (((((((AR.setCell ⟨fI,0,none⟩ (.int .i64 ((aC au cu).f0))).setCell ⟨fI,1,none⟩ (.int .i64 ((aC au cu).f1))).setCell ⟨fI,2,none⟩ (.int .i64 ((aC au cu).f2))).setCell ⟨fI,3,none⟩ (.int .i64 ((aC au cu).f3))).setCell ⟨fI,4,none⟩ (.int .i64 ((aC au cu).f4))).setCell ⟨fI,5,none⟩ (.int .i64 ((aC au cu).f5))).heap[fI]? =some (.cells #[.int .i64 ((aC au cu).f0),.int .i64 ((aC au cu).f1),.int .i64 ((aC au cu).f2),.int .i64 ((aC au cu).f3),.int .i64 ((aC au cu).f4),.int .i64 ((aC au cu).f5)] 36 (0,0))):=⟨by (with_reducible repeat (first|refine ak ?_ _|refine aq ?_|refine aj ?_ _));refine df (cs:=#[.int .i64 ((aC au cu).f0),.int .i64 ((aC au cu).f1),.int .i64 ((aC au cu).f2),.int .i64 ((aC au cu).f3),.int .i64 ((aC au cu).f4),.int .i64 0]) ?_ 5 _ rfl;(with_reducible repeat (first|refine ak ?_ _|refine aq ?_|refine aj ?_ _));refine df (cs:=#[.int .i64 ((aC au cu).f0),.int .i64 ((aC au cu).f1),.int .i64 ((aC au cu).f2),.int .i64 ((aC au cu).f3),.int .i64 0,.int .i64 0]) ?_ 4 _ rfl;(with_reducible repeat (first|refine ak ?_ _|refine aq ?_|refine aj ?_ _));refine df (cs:=#[.int .i64 ((aC au cu).f0),.int .i64 ((aC au cu).f1),.int .i64 ((aC au cu).f2),.int .i64 0,.int .i64 0,.int .i64 0]) ?_ 3 _ rfl;(with_reducible repeat (first|refine ak ?_ _|refine aq ?_|refine aj ?_ _));refine df (cs:=#[.int .i64 ((aC au cu).f0),.int .i64 ((aC au cu).f1),.int .i64 0,.int .i64 0,.int .i64 0,.int .i64 0]) ?_ 2 _ rfl;(with_reducible repeat (first|refine ak ?_ _|refine aq ?_|refine aj ?_ _));refine df (cs:=#[.int .i64 ((aC au cu).f0),.int .i64 0,.int .i64 0,.int .i64 0,.int .i64 0,.int .i64 0]) ?_ 1 _ rfl;(with_reducible repeat (first|refine ak ?_ _|refine aq ?_|refine aj ?_ _));refine df (cs:=#[.int .i64 0,.int .i64 0,.int .i64 0,.int .i64 0,.int .i64 0,.int .i64 0]) ?_ 0 _ rfl;(with_reducible repeat (first|refine ak ?_ _|refine aq ?_|refine aj ?_ _));exact fQ.out⟩
            have bK:aa (Below w.heap.size w ((((((AR.setCell ⟨fI,0,none⟩ (.int .i64 ((aC au cu).f0))).setCell ⟨fI,1,none⟩ (.int .i64 ((aC au cu).f1))).setCell ⟨fI,2,none⟩ (.int .i64 ((aC au cu).f2))).setCell ⟨fI,3,none⟩ (.int .i64 ((aC au cu).f3))).setCell ⟨fI,4,none⟩ (.int .i64 ((aC au cu).f4))).setCell ⟨fI,5,none⟩ (.int .i64 ((aC au cu).f5)))):=⟨by repeat (first|(with_reducible first|exact HB.out|apply ae|apply ab|apply af|refine ai ?_ py.out|refine ai ?_ BS.out)|exact HB.out)⟩
            (try clear HO_6);(try clear e8);(try clear fQ);(try clear HB)
            generalize ((((((AR.setCell ⟨fI,0,none⟩ (.int .i64 ((aC au cu).f0))).setCell ⟨fI,1,none⟩ (.int .i64 ((aC au cu).f1))).setCell ⟨fI,2,none⟩ (.int .i64 ((aC au cu).f2))).setCell ⟨fI,3,none⟩ (.int .i64 ((aC au cu).f3))).setCell ⟨fI,4,none⟩ (.int .i64 ((aC au cu).f4))).setCell ⟨fI,5,none⟩ (.int .i64 ((aC au cu).f5)))=PZ at br bt bA bK ⊢
            have HO_6:=br;have e8:=bt;have fQ:=bA;have HB:=bK
            clear br bt bA bK
            have br:=aa.mk (Kd.aA HO_6.out)
            have bt:=aa.mk (aq e8.out)
            have bA:=aa.mk (aq fQ.out)
            have bK:=aa.mk (af HB.out)
            clear HO_6 e8 fQ HB
            have HO_6:=br;have e8:=bt;have fQ:=bA;have HB:=bK
            clear br bt bA bK
            have Oh:0≤(((aC au cu).f1):Int):=of_decide_eq_true (by assumption)
            have Oi:((aC au cu).f1)<(l1.length:Int):=of_decide_eq_true (by assumption)
            obtain ⟨Ir,ZV,tU⟩:=Kd.dN lA.out ((aC au cu).f1) Oh Oi
            have nj:=tU
            cases ZV
            replace tU:=(HB.out.cell (World.block_lt_of_cell? w _ tU)).trans tU
            replace Oh:=eq_true Oh
            replace Oi:=eq_true Oi
            have Oj:0≤(((aC au cu).f2):Int):=of_decide_eq_true (by assumption)
            have Ok:((aC au cu).f2)<(l1.length:Int):=of_decide_eq_true (by assumption)
            obtain ⟨Ro,ZW,tV⟩:=Kd.dN lA.out ((aC au cu).f2) Oj Ok
            have nk:=tV
            obtain rfl:Ir=Ro:=(by injection ZW)
            replace tV:=(HB.out.cell (World.block_lt_of_cell? w _ tV)).trans tV
            replace Oj:=eq_true Oj
            replace Ok:=eq_true Ok
            refine ju (n:=18) (S:=fun w'=>w'.cell? ⟨jG,0,none⟩=some (.int .i64 aI)∧w'.cell? ⟨jG,1,none⟩=some (.slice bh aD.length bi)∧w'.cell? ⟨jG,2,none⟩=some (.slice (some xn) au.length aW)∧w'.cell? ⟨fI,0,none⟩=some (.int .i64 ((aC au cu).f0))∧w'.cell? ⟨fI,1,none⟩=some (.int .i64 ((aC au cu).f1))∧w'.cell? ⟨fI,2,none⟩=some (.int .i64 ((aC au cu).f2))∧w'.cell? ⟨fI,3,none⟩=some (.int .i64 ((aC au cu).f3))∧w'.cell? ⟨fI,4,none⟩=some (.int .i64 ((aC au cu).f4))∧w'.cell? ⟨fI,5,none⟩=some (.int .i64 ((aC au cu).f5))∧w'.cell? (Ir.add (((aC au cu).f1)).toNat)=some (.int .i64 (rd l1 ((aC au cu).f1)))∧w'.cell? (Ir.add (((aC au cu).f2)).toNat)=some (.int .i64 (rd l1 ((aC au cu).f2)))) (ds:=[]) #[false,false,false,false,false,false,false,false,false,false,false,false,false,false,false,false,false,false] (by kernel_rfl) rfl rfl ⟨(ag e8.out 0).trans rfl,(ag e8.out 1).trans rfl,(ag e8.out 2).trans rfl,(ag fQ.out 0).trans rfl,(ag fQ.out 1).trans rfl,(ag fQ.out 2).trans rfl,(ag fQ.out 3).trans rfl,(ag fQ.out 4).trans rfl,(ag fQ.out 5).trans rfl,((HB.out.cell (World.block_lt_of_cell? w _ nj)).trans nj),((HB.out.cell (World.block_lt_of_cell? w _ nk)).trans nk)⟩ (fun hHeld=> ?_);refine fN cK.Od cK.Iq (fun HT_ HW_=> ?_)
            generalize PZ.drew=Ju at HO_6 e8 fQ HB tU tV hHeld ⊢
            refine bP (i:=0) (N:=some 20) (v:= ?_) (a':= ?_) #[true,false,false,false,false,false,false,false,false,false,false,false,false,false,false,false,false,false] rfl rfl (bz HT_.out (by kernel_rfl)) (fun _ _ _ h=>h) (Or.inl ⟨by rfl, ?_⟩) ?_ ?_
            rotate_left
            ·intro w'
             go_simp
             with_reducible rfl
            rotate_left
            ·simp only [Act.put,dg,dh,di,aY,a9]
             rfl
            refine bP (i:=1) (N:=some 21) (v:= ?_) (a':= ?_) #[true,true,false,false,false,false,false,false,false,false,false,false,false,false,false,false,false,false] rfl rfl (bz HT_.out (by kernel_rfl)) (fun _ _ _ h=>h) (Or.inl ⟨by rfl, ?_⟩) ?_ ?_
            rotate_left
            ·intro w'
             go_simp
             with_reducible rfl
            rotate_left
            ·simp only [Act.put,dg,dh,di,aY,a9]
             rfl
            refine bP (i:=4) (N:=some 24) (v:= ?_) (a':= ?_) #[true,true,false,false,true,false,false,false,false,false,false,false,false,false,false,false,false,false] rfl rfl (bz HT_.out (by kernel_rfl)) (fun _ _ _ h=>h) (Or.inl ⟨by rfl, ?_⟩) ?_ ?_
            rotate_left
            ·intro w'
             go_simp
             with_reducible rfl
            rotate_left
            ·simp only [Act.put,dg,dh,di,aY,a9]
             rfl
            refine bP (i:=5) (N:=some 25) (v:= ?_) (a':= ?_) #[true,true,false,false,true,true,false,false,false,false,false,false,false,false,false,false,false,false] rfl rfl (bz HT_.out (by kernel_rfl)) (fun _ _ _ h=>h) (Or.inl ⟨by rfl, ?_⟩) ?_ ?_
            rotate_left
            ·intro w'
             go_simp
             with_reducible rfl
            rotate_left
            ·simp only [Act.put,dg,dh,di,aY,a9]
             rfl
            refine bP (i:=9) (N:=some 29) (v:= ?_) (a':= ?_) #[true,true,false,false,true,true,false,false,false,true,false,false,false,false,false,false,false,false] rfl rfl (bz HT_.out (by kernel_rfl)) (fun _ _ _ h=>h) (Or.inl ⟨by rfl, ?_⟩) ?_ ?_
            rotate_left
            ·intro w'
             go_simp
             with_reducible rfl
            rotate_left
            ·simp only [Act.put,dg,dh,di,aY,a9]
             rfl
            refine bP (i:=10) (N:=some 30) (v:= ?_) (a':= ?_) #[true,true,false,false,true,true,false,false,false,true,true,false,false,false,false,false,false,false] rfl rfl (bz HT_.out (by kernel_rfl)) (fun _ _ _ h=>h) (Or.inl ⟨by rfl, ?_⟩) ?_ ?_
            rotate_left
            ·intro w'
             go_simp
             with_reducible rfl
            rotate_left
            ·simp only [Act.put,dg,dh,di,aY,a9]
             rfl
            refine eL (i:=2) (N:=some 22) (v:= ?_) (a':= ?_) #[true,true,true,false,true,true,false,false,false,true,true,false,false,false,false,false,false,false] rfl rfl (cO HT_.out HW_.out (by kernel_rfl)) (fun _ _ _ h=>h) (Or.inl ⟨by rfl, ?_⟩) hHeld ?_ ?_
            rotate_left
            ·rintro w' ⟨s0,s1,s2,s3,s4,s5,s6,s7,s8,s9,I3⟩
             go_simp
             with_reducible rfl
            rotate_left
            ·simp only [Act.put,dg,dh,di,aY,a9]
             rfl
            refine eL (i:=3) (N:=some 23) (v:= ?_) (a':= ?_) #[true,true,true,true,true,true,false,false,false,true,true,false,false,false,false,false,false,false] rfl rfl (cO HT_.out HW_.out (by kernel_rfl)) (fun _ _ _ h=>h) (Or.inl ⟨by rfl, ?_⟩) hHeld ?_ ?_
            rotate_left
            ·rintro w' ⟨s0,s1,s2,s3,s4,s5,s6,s7,s8,s9,I3⟩
             go_simp
             with_reducible rfl
            rotate_left
            ·simp only [Act.put,dg,dh,di,aY,a9]
             rfl
            refine eL (i:=6) (N:=some 26) (v:= ?_) (a':= ?_) #[true,true,true,true,true,true,true,false,false,true,true,false,false,false,false,false,false,false] rfl rfl (cO HT_.out HW_.out (by kernel_rfl)) (fun _ _ _ h=>h) (Or.inl ⟨by rfl, ?_⟩) hHeld ?_ ?_
            rotate_left
            ·rintro w' ⟨s0,s1,s2,s3,s4,s5,s6,s7,s8,s9,I3⟩
             go_simp
             with_reducible rfl
            rotate_left
            ·simp only [Act.put,dg,dh,di,aY,a9]
             rfl
            refine bP (i:=7) (N:=some 27) (v:= ?_) (a':= ?_) #[true,true,true,true,true,true,true,true,false,true,true,false,false,false,false,false,false,false] rfl rfl (bz HT_.out (by kernel_rfl)) (fun _ _ _ h=>h) (Or.inl ⟨by rfl, ?_⟩) ?_ ?_
            rotate_left
            ·intro w'
             go_simp
             with_reducible rfl
            rotate_left
            ·simp only [Act.put,dg,dh,di,aY,a9]
             rfl
            refine eL (i:=8) (N:=some 28) (v:= ?_) (a':= ?_) #[true,true,true,true,true,true,true,true,true,true,true,false,false,false,false,false,false,false] rfl rfl (cO HT_.out HW_.out (by kernel_rfl)) (fun _ _ _ h=>h) (Or.inl ⟨by rfl, ?_⟩) hHeld ?_ ?_
            rotate_left
            ·rintro w' ⟨s0,s1,s2,s3,s4,s5,s6,s7,s8,s9,I3⟩
             go_simp
             with_reducible rfl
            rotate_left
            ·simp only [Act.put,dg,dh,di,aY,a9]
             rfl
            refine eL (i:=11) (N:=some 31) (v:= ?_) (a':= ?_) #[true,true,true,true,true,true,true,true,true,true,true,true,false,false,false,false,false,false] rfl rfl (cO HT_.out HW_.out (by kernel_rfl)) (fun _ _ _ h=>h) (Or.inl ⟨by rfl, ?_⟩) hHeld ?_ ?_
            rotate_left
            ·rintro w' ⟨s0,s1,s2,s3,s4,s5,s6,s7,s8,s9,I3⟩
             go_simp
             with_reducible rfl
            rotate_left
            ·simp only [Act.put,dg,dh,di,aY,a9]
             rfl
            refine bP (i:=12) (N:=some 32) (v:= ?_) (a':= ?_) #[true,true,true,true,true,true,true,true,true,true,true,true,true,false,false,false,false,false] rfl rfl (bz HT_.out (by kernel_rfl)) (fun _ _ _ h=>h) (Or.inl ⟨by rfl, ?_⟩) ?_ ?_
            rotate_left
            ·intro w'
             go_simp
             with_reducible rfl
            rotate_left
            ·simp only [Act.put,dg,dh,di,aY,a9]
             rfl
            refine eL (i:=13) (N:=some 33) (v:= ?_) (a':= ?_) #[true,true,true,true,true,true,true,true,true,true,true,true,true,true,false,false,false,false] rfl rfl (cO HT_.out HW_.out (by kernel_rfl)) (fun _ _ _ h=>h) (Or.inl ⟨by rfl, ?_⟩) hHeld ?_ ?_
            rotate_left
            ·rintro w' ⟨s0,s1,s2,s3,s4,s5,s6,s7,s8,s9,I3⟩
             go_simp
             with_reducible rfl
            rotate_left
            ·simp only [Act.put,dg,dh,di,aY,a9]
             rfl
            refine iP (i:=14) (N:=some 34) #[true,true,true,true,true,true,true,true,true,true,true,true,true,true,true,false,false,false] rfl rfl (dZ HT_.out (by kernel_rfl)) (by decide) (fun K hK=> ?_)
            refine mA Try.func94 (by kernel_rfl) rfl #[.int .i64 aI,.agg #[.int .i64 ((aC au cu).f0),.int .i64 ((aC au cu).f1),.int .i64 ((aC au cu).f2),.int .i64 ((aC au cu).f3),.int .i64 ((aC au cu).f4),.int .i64 ((aC au cu).f5)],.int .i64 (rd l1 ((aC au cu).f1)),.int .i64 (rd l1 ((aC au cu).f2))] (by rfl) rfl rfl (by (try simp only [List.map_toArray,List.map_cons,List.map_nil]);first|done|rfl|(simp only [List.length_drop,List.length_take];rfl)) ?_
            with_reducible refine (lG.calls aI ((aC au cu).f0) ((aC au cu).f1) ((aC au cu).f2) ((aC au cu).f3) ((aC au cu).f4) ((aC au cu).f5) (rd l1 ((aC au cu).f1)) (rd l1 ((aC au cu).f2)) Dh _ YJ.out).mono ?_
            rintro e w23 ⟨rfl,hb⟩
            refine ⟨_,rfl, ?_⟩
            have br:=aa.mk (Kd.aZ (by (with_reducible repeat (first|apply Kd.aw|apply Kd.av|apply Kd.aA));exact HO_6.out) hb)
            have bt:=aa.mk (aH (g:=jG) (o:= .cells #[.int .i64 aI,.slice bh aD.length bi,.slice (some xn) au.length aW] 26 (0,0)) (by (with_reducible repeat (first|refine ak ?_ _|refine aq ?_|refine aj ?_ _));exact e8.out) hb)
            have bA:=aa.mk (aH (g:=fI) (o:= .cells #[.int .i64 ((aC au cu).f0),.int .i64 ((aC au cu).f1),.int .i64 ((aC au cu).f2),.int .i64 ((aC au cu).f3),.int .i64 ((aC au cu).f4),.int .i64 ((aC au cu).f5)] 36 (0,0)) (by (with_reducible repeat (first|refine ak ?_ _|refine aq ?_|refine aj ?_ _));exact fQ.out) hb)
            have bK:=aa.mk (aE (by repeat (first|(with_reducible first|exact HB.out|apply ae|apply ab|apply af|refine ai ?_ py.out|refine ai ?_ BS.out)|exact HB.out)) hb)
            clear HO_6 e8 fQ HB
            have HO_6:=br;have e8:=bt;have fQ:=bA;have HB:=bK
            clear br bt bA bK
            (try clear hb);(try clear hb2);(try clear hk);(try clear hi)
            refine hK.out _ _ ⟨(ag e8.out 0).trans rfl,(ag e8.out 1).trans rfl,(ag e8.out 2).trans rfl,(ag fQ.out 0).trans rfl,(ag fQ.out 1).trans rfl,(ag fQ.out 2).trans rfl,(ag fQ.out 3).trans rfl,(ag fQ.out 4).trans rfl,(ag fQ.out 5).trans rfl,((HB.out.cell (World.block_lt_of_cell? w _ nj)).trans nj),((HB.out.cell (World.block_lt_of_cell? w _ nk)).trans nk)⟩ (fun hHeld=> ?_)
            clear hK K
            refine eM (a':= ?_) ?_ ?_
            rotate_left
            ·show Act.put _ (some 34) _=_
             simp only [Act.put,dg,dh,di,aY,a9]
             rfl
            refine iP (i:=15) (N:=some 35) #[true,true,true,true,true,true,true,true,true,true,true,true,true,true,true,true,false,false] rfl rfl (dZ HT_.out (by kernel_rfl)) (by decide) (fun K hK=> ?_)
            refine kL (w1:= ?_) (v:= ?_) (by rfl) rfl ?_ ?_
            rotate_left 2
            ·go_simp
             constructor
             ·rfl
             rfl
            refine hK.out _ _ ⟨(ag (aj e8.out _) 0).trans rfl,(ag (aj e8.out _) 1).trans rfl,(ag (aj e8.out _) 2).trans rfl,(ag (aj fQ.out _) 0).trans rfl,(ag (aj fQ.out _) 1).trans rfl,(ag (aj fQ.out _) 2).trans rfl,(ag (aj fQ.out _) 3).trans rfl,(ag (aj fQ.out _) 4).trans rfl,(ag (aj fQ.out _) 5).trans rfl,(World.cell?_alloc_lt _ _ _ (World.block_lt_of_cell? _ _ (((HB.out.cell (World.block_lt_of_cell? w _ nj)).trans nj)))).trans (((HB.out.cell (World.block_lt_of_cell? w _ nj)).trans nj)),(World.cell?_alloc_lt _ _ _ (World.block_lt_of_cell? _ _ (((HB.out.cell (World.block_lt_of_cell? w _ nk)).trans nk)))).trans (((HB.out.cell (World.block_lt_of_cell? w _ nk)).trans nk))⟩ (fun hHeld=> ?_)
            clear hK K
            refine eM (a':= ?_) ?_ ?_
            rotate_left
            ·show Act.put _ (some 35) _=_
             simp only [Act.put,dg,dh,di,aY,a9]
             rfl
            refine iP (i:=16) (N:=some 36) #[true,true,true,true,true,true,true,true,true,true,true,true,true,true,true,true,true,false] rfl rfl (dZ HT_.out (by kernel_rfl)) (by decide) (fun K hK=> ?_)
            refine Kd.pz (Kd.int .i64) (w0:=w) w.heap.size (by rfl) (.tmp 20) (.tmp 35) 22 3 (.int .i64 0) 8 rfl Try.underlying22 info3 rfl (by decide) (by omega) u6 iq Dh [.int .i64 Dh] (fun _=>True) (fun _=>False) rfl rfl ?aP (fun _ hk=>hk.elim) ?aF ?aO ?aB ?aS ?aL ?_
            (case aP=>exact rfl)
            (case aB=>exact (by repeat (first|(with_reducible first|exact HB.out|apply ae|apply ab|apply af|refine ai ?_ py.out|refine ai ?_ BS.out)|exact HB.out)))
            (case aF=>exact (fun _ _=>trivial))
            (case aO=>exact (by (with_reducible repeat (first|apply Kd.aw|apply Kd.av|apply Kd.aA));exact HO_6.out))
            (case aS=>exact (az (by repeat (first|(with_reducible first|exact HB.out|apply ae|apply ab|apply af|refine ai ?_ py.out|refine ai ?_ BS.out)|exact HB.out))))
            (case aL=>have:=GS.out;omega)
            intro aei Rd ho hb hg hat
            rw [← Rn.out] at ho
            have br:=aa.mk (dq (g:=jG) (o:= .cells #[.int .i64 aI,.slice bh aD.length bi,.slice (some xn) au.length aW] 26 (0,0)) (by (with_reducible repeat (first|refine ak ?_ _|refine aq ?_|refine aj ?_ _));exact e8.out) hg (Kd.mz HO_6.out e8.out (by decide)))
            have bt:=aa.mk (dq (g:=fI) (o:= .cells #[.int .i64 ((aC au cu).f0),.int .i64 ((aC au cu).f1),.int .i64 ((aC au cu).f2),.int .i64 ((aC au cu).f3),.int .i64 ((aC au cu).f4),.int .i64 ((aC au cu).f5)] 36 (0,0)) (by (with_reducible repeat (first|refine ak ?_ _|refine aq ?_|refine aj ?_ _));exact fQ.out) hg (Kd.mz HO_6.out fQ.out (by decide)))
            have bA:=aa.mk (hb)
            have bK:=aa.mk (ho)
            clear e8 fQ HB HO_6
            have e8:=br;have fQ:=bt;have HB:=bA;have Rp:=bK
            clear br bt bA bK ho hb hg hat
            refine hK.out _ _ ⟨(ag e8.out 0).trans rfl,(ag e8.out 1).trans rfl,(ag e8.out 2).trans rfl,(ag fQ.out 0).trans rfl,(ag fQ.out 1).trans rfl,(ag fQ.out 2).trans rfl,(ag fQ.out 3).trans rfl,(ag fQ.out 4).trans rfl,(ag fQ.out 5).trans rfl,((HB.out.cell (World.block_lt_of_cell? w _ nj)).trans nj),((HB.out.cell (World.block_lt_of_cell? w _ nk)).trans nk)⟩ (fun hHeld=> ?_)
            clear hK K
            refine eM (a':= ?_) ?_ ?_
            rotate_left
            ·show Act.put _ (some 36) _=_
             simp only [Act.put,dg,dh,di,aY,a9]
             rfl
            refine bP (i:=17) (N:=some 6) (v:= ?_) (a':= ?_) #[true,true,true,true,true,true,true,true,true,true,true,true,true,true,true,true,true,true] rfl rfl (bz HT_.out (by kernel_rfl)) (fun _ _ _ h=>h) (Or.inl ⟨by rfl, ?_⟩) ?_ ?_
            rotate_left
            ·intro w'
             go_simp
             with_reducible rfl
            rotate_left
            ·simp only [Act.put,dg,dh,di,aY,a9]
             rfl
            refine j1 (gD HT_.out (by kernel_rfl)) ?_
            try go_wp2
            go_roundg k1
            case measure=>have:=lw.out;omega
            case rel=>exact ⟨(Rm),(wrap64 (cu+1)),(by first|rfl|(simp;done)|(simp [*];done)),H',⟨by have:=lw.out;omega⟩,⟨by (with_reducible repeat (first|apply Kd.aw|apply Kd.av|apply Kd.aA));exact Rp.out⟩,⟨by (with_reducible repeat (first|refine ak ?_ _|refine aq ?_|refine aj ?_ _));exact e8.out⟩,⟨by repeat (first|(with_reducible first|exact HB.out|apply ae|apply ab|apply af|refine ai ?_ py.out|refine ai ?_ BS.out)|exact HB.out)⟩⟩
           rw [if_neg qf] at H
           exact absurd H (by simp)
          rw [if_neg uu] at H
          exact absurd H (by simp)
         rw [if_neg rR] at H
         exact absurd H (by simp)
        rw [if_neg oh] at H
        exact absurd H (by simp)
       rw [if_neg sZ] at H
       exact absurd H (by simp)
      rw [if_neg xc] at H
      exact absurd H (by simp)
     rw [if_neg uq] at H
     exact absurd H (by simp)
    rw [if_neg c9] at H
    have c9b0:decide (cu<(au.length:Int))=false:=decide_eq_false c9
    clear c9
    simp only [Option.some.injEq,Prod.mk.injEq] at H
    obtain ⟨rfl,rfl⟩:=H
    go_wp2
    go_ret2
    exact ⟨_,by first|rfl|(simp [bB,bC]<;>rfl)|(simp [*,bB,bC]<;>rfl),by (with_reducible repeat (first|apply Kd.aw|apply Kd.av|apply Kd.aA));exact HO_6.out,by repeat (first|(with_reducible first|exact HB.out|apply ae|apply ab|apply af|refine ai ?_ py.out)|exact HB.out)⟩
 replace c4:=Bool.eq_false_iff.mpr c4
 subst c4
 have H1:(some (([]:List Int),1))=some (r1,r2):=by rw [if_neg (show ¬(false=true) by decide)] at H;exact H
 clear H
 have H:=H1
 clear H1
 simp only [Option.some.injEq,Prod.mk.injEq] at H
 obtain ⟨rfl,rfl⟩:=H
 go_enter Try.func42,Try.ntmps42
 go_wp2_with (first|((with_reducible refine bF (N:=2) rfl ?_);refine bH ?hg (N:=2) ?hd (cs:=#[.int .i64 aI,.slice bh aD.length bi,.slice bu au.length aW]) (t:=26) ?hr ?_;(case hd=>rfl);(case hg=>rfl);(case hr=>first|(go_simp;done)|(go_simp;rfl));intro jG hg zh hbox hb;have br:=aa.mk (aE (by repeat (first|(with_reducible first|exact HB.out|apply ae|apply ab|apply af)|exact HB.out)) hb);have bt:=aa.mk (hbox);have bA:=aa.mk ((by rw [hg];exact (az (by repeat (first|(with_reducible first|exact HB.out|apply ae|apply ab|apply af)|exact HB.out))):w.heap.size≤jG));have bK:=aa.mk ((by rw [hg];exact (az (by repeat (first|(with_reducible first|exact HB.out|apply ae|apply ab|apply af)|exact HB.out))):w.heap.size≤jG));clear HB;have HB:=br;have e8:=bt;have Rl:=bA;have py:=bK;clear br bt bA bK;clear hb hbox hg;have WW:zh.cell? ⟨jG,0,none⟩=some (.int .i64 aI):=(ag e8.out 0).trans rfl;have WX:zh.cell? ⟨jG,1,none⟩=some (.slice bh aD.length bi):=(ag e8.out 1).trans rfl;have WY:zh.cell? ⟨jG,2,none⟩=some (.slice bu au.length aW):=(ag e8.out 2).trans rfl;have WZ:=ah e8.out 0;have W7:=ah e8.out 1;have W8:=ah e8.out 2)|((with_reducible refine bY (f:=93) rfl ?_);refine er (some 11) rfl rfl Try.func93 (by kernel_rfl) rfl #[.agg #[.int .i64 aI,.slice bh aD.length bi,.slice bu au.length aW],.slice A1 l1.length c1] rfl (by (try simp only [List.map_toArray,List.map_cons,List.map_nil]);first|done|rfl|(simp only [List.length_drop,List.length_take];rfl)) ?_;(with_reducible refine (kv.calls aI _ _ aD _ _ au _ _ l1 false _ ?bS ?bT ?cJ ?cN ?du ?dw A3.out).mono ?_);(case bS=>repeat (first|exact (Kd.aN fA.out HB.out)|(with_reducible refine Kd.aT ?_ _)|(with_reducible refine Kd.aU ?_ _)|(with_reducible refine Kd.bk ?_)));(case bT=>exact fB.out);(case cJ=>repeat (first|exact (Kd.aN ez.out HB.out)|(with_reducible refine Kd.aT ?_ _)|(with_reducible refine Kd.aU ?_ _)|(with_reducible refine Kd.bk ?_)));(case cN=>exact fC.out);(case du=>repeat (first|exact (Kd.aN lA.out HB.out)|(with_reducible refine Kd.aT ?_ _)|(with_reducible refine Kd.aU ?_ _)|(with_reducible refine Kd.bk ?_)));(case dw=>exact pK.out);rintro e F5 ⟨rfl,hb⟩;refine ⟨_,rfl, ?_⟩;have br:=aa.mk (aH (g:=jG) (o:= .cells #[.int .i64 aI,.slice bh aD.length bi,.slice bu au.length aW] 26 (0,0)) (by (with_reducible repeat (first|refine ak ?_ _|refine aq ?_|refine aj ?_ _));exact e8.out) hb);have bt:=aa.mk (aE (by repeat (first|(with_reducible first|exact HB.out|apply ae|apply ab|apply af|refine ai ?_ py.out)|exact HB.out)) hb);clear e8;clear HB;have e8:=br;have HB:=bt;clear br bt;(try clear hb);(try clear hb2);(try clear hk);(try clear hi)))
 go_ret2
 exact ⟨_,by first|rfl|(simp [bB,bC]<;>rfl)|(simp [*,bB,bC]<;>rfl),by first|exact Kd.jE _ _ _ _ _|exact Kd.sA _ _ _ _ _|exact Kd.sB _ _ _ _ _|exact Kd.sr _ _ _ _ _|exact Kd.sy _ _ _ _ _,by repeat (first|(with_reducible first|exact HB.out|apply ae|apply ab|apply af|refine ai ?_ py.out)|exact HB.out)⟩
end Go.Proofs.Ytbkjplomoegbdaa.PB
