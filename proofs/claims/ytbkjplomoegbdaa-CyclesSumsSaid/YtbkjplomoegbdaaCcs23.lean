/- Parts of the proof of CyclesSums, gathered by a program of this claim out of texts that it or the kit's print wrote: lemmas alone, no condition of their own. -/
import Derived.Test.YtbkjplomoegbdaaCcs18
namespace Go.Proofs.Ytbkjplomoegbdaa.PB
open Go.RowKit Go.Proofs.YtbkjplomoegbdaaW.bO Go.Proofs.YtbkjplomoegbdaaW.dA Go.Proofs.YtbkjplomoegbdaaW.dG
attribute [local go_sem] iQ iR jM jN gW gX iS iT
set_option linter.unusedVariables false
set_option linter.unusedSimpArgs false
def iX.f (aI:Int) (aD:List (hO)) (au:List (eu)) (l1:List Int) (zX:Int) (ma:Int) (mb:Int) (rf:Int) (zY:Int) (zZ:Int):Option (Int):=if 0≤mb then (if mb<(l1.length:Int) then (if 0≤ma then (if ma<(l1.length:Int) then ((gx.f (wrap64 ((wrap64 ((rd l1 mb) - (rd l1 ma))) - rf)) aI).bind fun BU=>(some (wrap64 (rf+BU)))) else (none)) else (none)) else (none)) else (none)
set_option maxHeartbeats 8000000 in
set_option maxRecDepth 100000 in
theorem iX.calls (aI:Int) (bh:Option Addr) (bi:Nat) (aD:List (hO)) (bu:Option Addr) (aW:Nat) (au:List (eu)) (A1:Option Addr) (c1:Nat) (l1:List Int) (zX:Int) (ma:Int) (mb:Int) (rf:Int) (zY:Int) (zZ:Int) (r:Int) (w:World) (eI:Kd.C oS w bh aD.length aD) (eS:aD.length≤bi) (eC:Kd.C nD w bu au.length au) (eT:au.length≤aW) (mh:Kd.C (Kd.int .i64) w A1 l1.length l1) (oA:l1.length≤c1) (h:iX.f aI aD au l1 zX ma mb rf zY zZ=some r):
  Calls Try.prog 113 #[.agg #[.int .i64 aI,.slice bh aD.length bi,.slice bu au.length aW],.slice A1 l1.length c1,.agg #[.int .i64 zX,.int .i64 ma,.int .i64 mb,.int .i64 rf,.int .i64 zY,.int .i64 zZ]] w fun e w'=>e= .returned (.int .i64 r)∧Below w.heap.size w w':=by
 have nu:=Try.underlying26
 have sj:=Try.underlying36
 have fA:=aa.mk eI
 have fB:=aa.mk eS
 clear eI eS
 have ez:=aa.mk eC
 have fC:=aa.mk eT
 clear eC eT
 have lA:=aa.mk mh
 have pK:=aa.mk oA
 clear mh oA
 have HB:=aa.mk (Below.refl w.heap.size w)
 have H:(if 0≤mb then (if mb<(l1.length:Int) then (if 0≤ma then (if ma<(l1.length:Int) then ((gx.f (wrap64 ((wrap64 ((rd l1 mb) - (rd l1 ma))) - rf)) aI).bind fun BU=>(some (wrap64 (rf+BU)))) else (none)) else (none)) else (none)) else (none))=some r:=h
 clear h
 by_cases c4:0≤mb
 ·rw [if_pos c4] at H
  have c4b0:decide (0≤mb)=true:=decide_eq_true c4
  clear c4
  by_cases c5:mb<(l1.length:Int)
  ·rw [if_pos c5] at H
   have c5b0:decide (mb<(l1.length:Int))=true:=decide_eq_true c5
   clear c5
   by_cases c6:0≤ma
   ·rw [if_pos c6] at H
    have c6b0:decide (0≤ma)=true:=decide_eq_true c6
    clear c6
    by_cases c7:ma<(l1.length:Int)
    ·rw [if_pos c7] at H
     have c7b0:decide (ma<(l1.length:Int))=true:=decide_eq_true c7
     clear c7
     replace H:=Option.bind_eq_some_iff.mp H
     obtain ⟨BU,GG,H⟩:=H
     replace H:(some (wrap64 (rf+BU)))=some r:=H
     have A8:=aa.mk GG
     clear GG
     obtain rfl:=Option.some.inj H
     go_enter Try.func113,Try.ntmps113
     go_wp2_with (first|((with_reducible refine bF (N:=3) rfl ?_);refine bH ?hg (N:=3) ?hd (cs:=#[.int .i64 aI,.slice bh aD.length bi,.slice bu au.length aW]) (t:=26) ?hr ?_;(case hd=>rfl);(case hg=>rfl);(case hr=>first|(go_simp;done)|(go_simp;rfl));intro jh hg w9 hbox hb;have br:=aa.mk (aE (by repeat (first|(with_reducible first|exact HB.out|apply ae|apply ab|apply af)|exact HB.out)) hb);have bt:=aa.mk (hbox);have bA:=aa.mk ((by rw [hg];exact (az (by repeat (first|(with_reducible first|exact HB.out|apply ae|apply ab|apply af)|exact HB.out))):w.heap.size≤jh));have bK:=aa.mk ((by rw [hg];exact (az (by repeat (first|(with_reducible first|exact HB.out|apply ae|apply ab|apply af)|exact HB.out))):w.heap.size≤jh));clear HB;have HB:=br;have iI:=bt;have L8:=bA;have qE:=bK;clear br bt bA bK;clear hb hbox hg)|((with_reducible refine bF (N:=5) rfl ?_);refine bH ?hg (N:=5) ?hd (cs:=#[.int .i64 zX,.int .i64 ma,.int .i64 mb,.int .i64 rf,.int .i64 zY,.int .i64 zZ]) (t:=36) ?hr ?_;(case hd=>rfl);(case hg=>rfl);(case hr=>first|(go_simp;done)|(go_simp;rfl));intro ji hg oC hbox hb;have br:=aa.mk (aH (g:=jh) (o:= .cells #[.int .i64 aI,.slice bh aD.length bi,.slice bu au.length aW] 26 (0,0)) (by (with_reducible repeat (first|refine ak ?_ _|refine aq ?_|refine aj ?_ _));exact iI.out) hb);have bt:=aa.mk (aE (by repeat (first|(with_reducible first|exact HB.out|apply ae|apply ab|apply af|refine ai ?_ qE.out)|exact HB.out)) hb);have bA:=aa.mk (hbox);have bK:=aa.mk ((by rw [hg];exact (az (by repeat (first|(with_reducible first|exact HB.out|apply ae|apply ab|apply af|refine ai ?_ qE.out)|exact HB.out))):w.heap.size≤ji));have cL:=aa.mk ((by rw [hg];exact (az (by repeat (first|(with_reducible first|exact HB.out|apply ae|apply ab|apply af|refine ai ?_ qE.out)|exact HB.out))):w.heap.size≤ji));have dc:=aa.mk ((by rw [hg];exact Nat.ne_of_lt (cn (g:=jh) (o:= .cells #[.int .i64 aI,.slice bh aD.length bi,.slice bu au.length aW] 26 (0,0)) (by (with_reducible repeat (first|refine ak ?_ _|refine aq ?_|refine aj ?_ _));exact iI.out)):jh≠ji));have dQ:=aa.mk ((by rw [hg];exact Nat.ne_of_gt (cn (g:=jh) (o:= .cells #[.int .i64 aI,.slice bh aD.length bi,.slice bu au.length aW] 26 (0,0)) (by (with_reducible repeat (first|refine ak ?_ _|refine aq ?_|refine aj ?_ _));exact iI.out)):ji≠jh));clear iI;clear HB;have iI:=br;have HB:=bt;have ic:=bA;have L9:=bK;have Iu:=cL;have pU:=dc;have pV:=dQ;clear br bt bA bK cL dc dQ;clear hb hbox hg;have Ma:=pV.out;have Mb:=pU.out;have kn:oC.cell? ⟨ji,0,none⟩=some (.int .i64 zX):=(ag ic.out 0).trans rfl;have ko:oC.cell? ⟨ji,1,none⟩=some (.int .i64 ma):=(ag ic.out 1).trans rfl;have qk:oC.cell? ⟨ji,2,none⟩=some (.int .i64 mb):=(ag ic.out 2).trans rfl;have rL:oC.cell? ⟨ji,3,none⟩=some (.int .i64 rf):=(ag ic.out 3).trans rfl;have rM:oC.cell? ⟨ji,4,none⟩=some (.int .i64 zY):=(ag ic.out 4).trans rfl;have rN:oC.cell? ⟨ji,5,none⟩=some (.int .i64 zZ):=(ag ic.out 5).trans rfl;have kp:=ah ic.out 0;have kr:=ah ic.out 1;have ql:=ah ic.out 2;have rO:=ah ic.out 3;have rP:=ah ic.out 4;have rQ:=ah ic.out 5;have xo:0≤(mb:Int):=of_decide_eq_true (by assumption);have xp:mb<(l1.length:Int):=of_decide_eq_true (by assumption);obtain ⟨BV,Iv,mK⟩:=Kd.dN lA.out mb xo xp;cases Iv;replace mK:=(HB.out.cell (World.block_lt_of_cell? w _ mK)).trans mK;replace xo:=eq_true xo;replace xp:=eq_true xp;have xq:0≤(ma:Int):=of_decide_eq_true (by assumption);have xu:ma<(l1.length:Int):=of_decide_eq_true (by assumption);obtain ⟨BW,Iw,mL⟩:=Kd.dN lA.out ma xq xu;obtain rfl:BV=BW:=(by injection Iw);replace mL:=(HB.out.cell (World.block_lt_of_cell? w _ mL)).trans mL;replace xq:=eq_true xq;replace xu:=eq_true xu;have EV:oC.cell? ⟨jh,0,none⟩=some (.int .i64 aI):=(ag iI.out 0).trans rfl;have EW:oC.cell? ⟨jh,1,none⟩=some (.slice bh aD.length bi):=(ag iI.out 1).trans rfl;have EX:oC.cell? ⟨jh,2,none⟩=some (.slice bu au.length aW):=(ag iI.out 2).trans rfl;have EY:=ah iI.out 0;have EZ:=ah iI.out 1;have E0:=ah iI.out 2)|(go_at_call 44;(with_reducible refine (gx.calls (wrap64 ((wrap64 ((rd l1 mb) - (rd l1 ma))) - rf)) aI BU _ A8.out).mono ?_);rintro e w' ⟨rfl,⟨nd,rfl⟩⟩;(try first|exact ⟨rfl,_,World.drewN_drewN _ _ _⟩|exact ⟨rfl,_,Eq.trans (World.drewN_drewN _ _ _) (congrArg (World.drewN _) (Nat.add_assoc _ _ _))⟩)))
     repeat (go_quiet (first|((with_reducible refine bF (N:=3) rfl ?_);refine bH ?hg (N:=3) ?hd (cs:=#[.int .i64 aI,.slice bh aD.length bi,.slice bu au.length aW]) (t:=26) ?hr ?_;(case hd=>rfl);(case hg=>rfl);(case hr=>first|(go_simp;done)|(go_simp;rfl));intro jh hg w9 hbox hb;have br:=aa.mk (aE (by repeat (first|(with_reducible first|exact HB.out|apply ae|apply ab|apply af)|exact HB.out)) hb);have bt:=aa.mk (hbox);have bA:=aa.mk ((by rw [hg];exact (az (by repeat (first|(with_reducible first|exact HB.out|apply ae|apply ab|apply af)|exact HB.out))):w.heap.size≤jh));have bK:=aa.mk ((by rw [hg];exact (az (by repeat (first|(with_reducible first|exact HB.out|apply ae|apply ab|apply af)|exact HB.out))):w.heap.size≤jh));clear HB;have HB:=br;have iI:=bt;have L8:=bA;have qE:=bK;clear br bt bA bK;clear hb hbox hg)|((with_reducible refine bF (N:=5) rfl ?_);refine bH ?hg (N:=5) ?hd (cs:=#[.int .i64 zX,.int .i64 ma,.int .i64 mb,.int .i64 rf,.int .i64 zY,.int .i64 zZ]) (t:=36) ?hr ?_;(case hd=>rfl);(case hg=>rfl);(case hr=>first|(go_simp;done)|(go_simp;rfl));intro ji hg oC hbox hb;have br:=aa.mk (aH (g:=jh) (o:= .cells #[.int .i64 aI,.slice bh aD.length bi,.slice bu au.length aW] 26 (0,0)) (by (with_reducible repeat (first|refine ak ?_ _|refine aq ?_|refine aj ?_ _));exact iI.out) hb);have bt:=aa.mk (aE (by repeat (first|(with_reducible first|exact HB.out|apply ae|apply ab|apply af|refine ai ?_ qE.out)|exact HB.out)) hb);have bA:=aa.mk (hbox);have bK:=aa.mk ((by rw [hg];exact (az (by repeat (first|(with_reducible first|exact HB.out|apply ae|apply ab|apply af|refine ai ?_ qE.out)|exact HB.out))):w.heap.size≤ji));have cL:=aa.mk ((by rw [hg];exact (az (by repeat (first|(with_reducible first|exact HB.out|apply ae|apply ab|apply af|refine ai ?_ qE.out)|exact HB.out))):w.heap.size≤ji));have dc:=aa.mk ((by rw [hg];exact Nat.ne_of_lt (cn (g:=jh) (o:= .cells #[.int .i64 aI,.slice bh aD.length bi,.slice bu au.length aW] 26 (0,0)) (by (with_reducible repeat (first|refine ak ?_ _|refine aq ?_|refine aj ?_ _));exact iI.out)):jh≠ji));have dQ:=aa.mk ((by rw [hg];exact Nat.ne_of_gt (cn (g:=jh) (o:= .cells #[.int .i64 aI,.slice bh aD.length bi,.slice bu au.length aW] 26 (0,0)) (by (with_reducible repeat (first|refine ak ?_ _|refine aq ?_|refine aj ?_ _));exact iI.out)):ji≠jh));clear iI;clear HB;have iI:=br;have HB:=bt;have ic:=bA;have L9:=bK;have Iu:=cL;have pU:=dc;have pV:=dQ;clear br bt bA bK cL dc dQ;clear hb hbox hg;have Ma:=pV.out;have Mb:=pU.out;have kn:oC.cell? ⟨ji,0,none⟩=some (.int .i64 zX):=(ag ic.out 0).trans rfl;have ko:oC.cell? ⟨ji,1,none⟩=some (.int .i64 ma):=(ag ic.out 1).trans rfl;have qk:oC.cell? ⟨ji,2,none⟩=some (.int .i64 mb):=(ag ic.out 2).trans rfl;have rL:oC.cell? ⟨ji,3,none⟩=some (.int .i64 rf):=(ag ic.out 3).trans rfl;have rM:oC.cell? ⟨ji,4,none⟩=some (.int .i64 zY):=(ag ic.out 4).trans rfl;have rN:oC.cell? ⟨ji,5,none⟩=some (.int .i64 zZ):=(ag ic.out 5).trans rfl;have kp:=ah ic.out 0;have kr:=ah ic.out 1;have ql:=ah ic.out 2;have rO:=ah ic.out 3;have rP:=ah ic.out 4;have rQ:=ah ic.out 5;have xo:0≤(mb:Int):=of_decide_eq_true (by assumption);have xp:mb<(l1.length:Int):=of_decide_eq_true (by assumption);obtain ⟨BV,Iv,mK⟩:=Kd.dN lA.out mb xo xp;cases Iv;replace mK:=(HB.out.cell (World.block_lt_of_cell? w _ mK)).trans mK;replace xo:=eq_true xo;replace xp:=eq_true xp;have xq:0≤(ma:Int):=of_decide_eq_true (by assumption);have xu:ma<(l1.length:Int):=of_decide_eq_true (by assumption);obtain ⟨BW,Iw,mL⟩:=Kd.dN lA.out ma xq xu;obtain rfl:BV=BW:=(by injection Iw);replace mL:=(HB.out.cell (World.block_lt_of_cell? w _ mL)).trans mL;replace xq:=eq_true xq;replace xu:=eq_true xu;have EV:oC.cell? ⟨jh,0,none⟩=some (.int .i64 aI):=(ag iI.out 0).trans rfl;have EW:oC.cell? ⟨jh,1,none⟩=some (.slice bh aD.length bi):=(ag iI.out 1).trans rfl;have EX:oC.cell? ⟨jh,2,none⟩=some (.slice bu au.length aW):=(ag iI.out 2).trans rfl;have EY:=ah iI.out 0;have EZ:=ah iI.out 1;have E0:=ah iI.out 2)|(go_at_call 44;(with_reducible refine (gx.calls (wrap64 ((wrap64 ((rd l1 mb) - (rd l1 ma))) - rf)) aI BU _ A8.out).mono ?_);rintro e w' ⟨rfl,⟨nd,rfl⟩⟩;(try first|exact ⟨rfl,_,World.drewN_drewN _ _ _⟩|exact ⟨rfl,_,Eq.trans (World.drewN_drewN _ _ _) (congrArg (World.drewN _) (Nat.add_assoc _ _ _))⟩)));try go_wp2_with (first|((with_reducible refine bF (N:=3) rfl ?_);refine bH ?hg (N:=3) ?hd (cs:=#[.int .i64 aI,.slice bh aD.length bi,.slice bu au.length aW]) (t:=26) ?hr ?_;(case hd=>rfl);(case hg=>rfl);(case hr=>first|(go_simp;done)|(go_simp;rfl));intro jh hg w9 hbox hb;have br:=aa.mk (aE (by repeat (first|(with_reducible first|exact HB.out|apply ae|apply ab|apply af)|exact HB.out)) hb);have bt:=aa.mk (hbox);have bA:=aa.mk ((by rw [hg];exact (az (by repeat (first|(with_reducible first|exact HB.out|apply ae|apply ab|apply af)|exact HB.out))):w.heap.size≤jh));have bK:=aa.mk ((by rw [hg];exact (az (by repeat (first|(with_reducible first|exact HB.out|apply ae|apply ab|apply af)|exact HB.out))):w.heap.size≤jh));clear HB;have HB:=br;have iI:=bt;have L8:=bA;have qE:=bK;clear br bt bA bK;clear hb hbox hg)|((with_reducible refine bF (N:=5) rfl ?_);refine bH ?hg (N:=5) ?hd (cs:=#[.int .i64 zX,.int .i64 ma,.int .i64 mb,.int .i64 rf,.int .i64 zY,.int .i64 zZ]) (t:=36) ?hr ?_;(case hd=>rfl);(case hg=>rfl);(case hr=>first|(go_simp;done)|(go_simp;rfl));intro ji hg oC hbox hb;have br:=aa.mk (aH (g:=jh) (o:= .cells #[.int .i64 aI,.slice bh aD.length bi,.slice bu au.length aW] 26 (0,0)) (by (with_reducible repeat (first|refine ak ?_ _|refine aq ?_|refine aj ?_ _));exact iI.out) hb);have bt:=aa.mk (aE (by repeat (first|(with_reducible first|exact HB.out|apply ae|apply ab|apply af|refine ai ?_ qE.out)|exact HB.out)) hb);have bA:=aa.mk (hbox);have bK:=aa.mk ((by rw [hg];exact (az (by repeat (first|(with_reducible first|exact HB.out|apply ae|apply ab|apply af|refine ai ?_ qE.out)|exact HB.out))):w.heap.size≤ji));have cL:=aa.mk ((by rw [hg];exact (az (by repeat (first|(with_reducible first|exact HB.out|apply ae|apply ab|apply af|refine ai ?_ qE.out)|exact HB.out))):w.heap.size≤ji));have dc:=aa.mk ((by rw [hg];exact Nat.ne_of_lt (cn (g:=jh) (o:= .cells #[.int .i64 aI,.slice bh aD.length bi,.slice bu au.length aW] 26 (0,0)) (by (with_reducible repeat (first|refine ak ?_ _|refine aq ?_|refine aj ?_ _));exact iI.out)):jh≠ji));have dQ:=aa.mk ((by rw [hg];exact Nat.ne_of_gt (cn (g:=jh) (o:= .cells #[.int .i64 aI,.slice bh aD.length bi,.slice bu au.length aW] 26 (0,0)) (by (with_reducible repeat (first|refine ak ?_ _|refine aq ?_|refine aj ?_ _));exact iI.out)):ji≠jh));clear iI;clear HB;have iI:=br;have HB:=bt;have ic:=bA;have L9:=bK;have Iu:=cL;have pU:=dc;have pV:=dQ;clear br bt bA bK cL dc dQ;clear hb hbox hg;have Ma:=pV.out;have Mb:=pU.out;have kn:oC.cell? ⟨ji,0,none⟩=some (.int .i64 zX):=(ag ic.out 0).trans rfl;have ko:oC.cell? ⟨ji,1,none⟩=some (.int .i64 ma):=(ag ic.out 1).trans rfl;have qk:oC.cell? ⟨ji,2,none⟩=some (.int .i64 mb):=(ag ic.out 2).trans rfl;have rL:oC.cell? ⟨ji,3,none⟩=some (.int .i64 rf):=(ag ic.out 3).trans rfl;have rM:oC.cell? ⟨ji,4,none⟩=some (.int .i64 zY):=(ag ic.out 4).trans rfl;have rN:oC.cell? ⟨ji,5,none⟩=some (.int .i64 zZ):=(ag ic.out 5).trans rfl;have kp:=ah ic.out 0;have kr:=ah ic.out 1;have ql:=ah ic.out 2;have rO:=ah ic.out 3;have rP:=ah ic.out 4;have rQ:=ah ic.out 5;have xo:0≤(mb:Int):=of_decide_eq_true (by assumption);have xp:mb<(l1.length:Int):=of_decide_eq_true (by assumption);obtain ⟨BV,Iv,mK⟩:=Kd.dN lA.out mb xo xp;cases Iv;replace mK:=(HB.out.cell (World.block_lt_of_cell? w _ mK)).trans mK;replace xo:=eq_true xo;replace xp:=eq_true xp;have xq:0≤(ma:Int):=of_decide_eq_true (by assumption);have xu:ma<(l1.length:Int):=of_decide_eq_true (by assumption);obtain ⟨BW,Iw,mL⟩:=Kd.dN lA.out ma xq xu;obtain rfl:BV=BW:=(by injection Iw);replace mL:=(HB.out.cell (World.block_lt_of_cell? w _ mL)).trans mL;replace xq:=eq_true xq;replace xu:=eq_true xu;have EV:oC.cell? ⟨jh,0,none⟩=some (.int .i64 aI):=(ag iI.out 0).trans rfl;have EW:oC.cell? ⟨jh,1,none⟩=some (.slice bh aD.length bi):=(ag iI.out 1).trans rfl;have EX:oC.cell? ⟨jh,2,none⟩=some (.slice bu au.length aW):=(ag iI.out 2).trans rfl;have EY:=ah iI.out 0;have EZ:=ah iI.out 1;have E0:=ah iI.out 2)|(go_at_call 44;(with_reducible refine (gx.calls (wrap64 ((wrap64 ((rd l1 mb) - (rd l1 ma))) - rf)) aI BU _ A8.out).mono ?_);rintro e w' ⟨rfl,⟨nd,rfl⟩⟩;(try first|exact ⟨rfl,_,World.drewN_drewN _ _ _⟩|exact ⟨rfl,_,Eq.trans (World.drewN_drewN _ _ _) (congrArg (World.drewN _) (Nat.add_assoc _ _ _))⟩))))
     go_ret
     exact ⟨by first|rfl|(simp [bB,bC]<;>rfl)|(simp [*,bB,bC]<;>rfl),by repeat (first|(with_reducible first|exact HB.out|apply ae|apply ab|apply af|refine ai ?_ qE.out|refine ai ?_ Iu.out)|exact HB.out)⟩
    rw [if_neg c7] at H
    exact absurd H (by simp)
   rw [if_neg c6] at H
   exact absurd H (by simp)
  rw [if_neg c5] at H
  exact absurd H (by simp)
 rw [if_neg c4] at H
 exact absurd H (by simp)
def bJ.l0:Nat→List Int→List Int→Int→Int→List (hO)→List (eu)→Option (List Int × Int)
 |0,_,_,_,_,_,_=>none
 |k+1,x1,x6,x7,BX,BZ,mM=>if x7<(mM.length:Int) then (if 0≤x7 then ((iX.f BX BZ mM x1 ((aC mM x7).f0) ((aC mM x7).f1) ((aC mM x7).f2) ((aC mM x7).f3) ((aC mM x7).f4) ((aC mM x7).f5)).bind fun xw=>(if x6.length<17592186044416 then (bJ.l0 k x1 (x6++[xw]) (wrap64 (x7+1)) BX BZ mM) else (none))) else (none)) else (some (x6,0))
def bJ.f (k:Nat) (aI:Int) (aD:List (hO)) (au:List (eu)) (l1:List Int):Option (List Int × Int):=(bG.f k aI aD au l1).bind fun yo=>(if yo=true then (bJ.l0 k l1 ([]:List Int) 0 aI aD au) else (some (([]:List Int),1)))
def bJ.T7:Bool × List (List Nat × List Nat):=(true,[([],[]),([],[]),([],[]),([],[]),([3],[3]),([],[]),([4,5],[4,5]),([6],[6]),([1,2,7],[1,2,7]),([8],[8]),([0,9,8],[0,9]),([10,10,0,1,2,3,4,5,6,7,8,9,10],[0,10])])
def bJ.B7:List Nat:=[0,0,0,0,8,0,56,120,254,510,1023,2047]
theorem bJ.Od:jX .any (opsOf Try.f91 7)=bJ.T7:=by kernel_rfl
theorem bJ.Iq:gU bJ.T7.2 bJ.B7=true:=by kernel_rfl
set_option maxHeartbeats 8000000 in
set_option maxRecDepth 100000 in
theorem bJ.calls (k:Nat) (aI:Int) (bh:Option Addr) (bi:Nat) (aD:List (hO)) (bu:Option Addr) (aW:Nat) (au:List (eu)) (A1:Option Addr) (c1:Nat) (l1:List Int) (r1:List Int) (r2:Int) (w:World) (eI:Kd.C oS w bh aD.length aD) (eS:aD.length≤bi) (eC:Kd.C nD w bu au.length au) (eT:au.length≤aW) (mh:Kd.C (Kd.int .i64) w A1 l1.length l1) (oA:l1.length≤c1) (h:bJ.f k aI aD au l1=some (r1,r2)):
  Calls Try.prog 91 #[.agg #[.int .i64 aI,.slice bh aD.length bi,.slice bu au.length aW],.slice A1 l1.length c1] w fun e w'=>∃ uo:Value,e= .returned (.tuple #[uo,.int .i64 r2])∧Kd.R (Kd.int .i64) 3 w' w.heap.size (fun _=>True) uo r1∧Below w.heap.size w w':=by
 have nu:=Try.underlying26
 have sj:=Try.underlying36
 have fA:=aa.mk eI
 have fB:=aa.mk eS
 clear eI eS
 have ez:=aa.mk eC
 have fC:=aa.mk eT
 clear eC eT
 have lA:=aa.mk mh
 have pK:=aa.mk oA
 clear mh oA
 have HB:=aa.mk (Below.refl w.heap.size w)
 have H:((bG.f k aI aD au l1).bind fun yo=>(if yo=true then (bJ.l0 k l1 ([]:List Int) 0 aI aD au) else (some (([]:List Int),1))))=some (r1,r2):=h
 clear h
 replace H:=Option.bind_eq_some_iff.mp H
 obtain ⟨yo,AB,H⟩:=H
 replace H:(if yo=true then (bJ.l0 k l1 ([]:List Int) 0 aI aD au) else (some (([]:List Int),1)))=some (r1,r2):=H
 have A3:=aa.mk AB
 clear AB
 by_cases c4:yo=true
 ·subst c4
  have H1:(bJ.l0 k l1 ([]:List Int) 0 aI aD au)=some (r1,r2):=by rw [if_pos rfl] at H;exact H
  clear H
  have H:=H1
  clear H1
  have H':=aa.mk H
  clear H
  go_enter Try.func91,Try.ntmps91
  go_wp2_with (first|((with_reducible refine bF (N:=2) rfl ?_);refine bH ?hg (N:=2) ?hd (cs:=#[.int .i64 aI,.slice bh aD.length bi,.slice bu au.length aW]) (t:=26) ?hr ?_;(case hd=>rfl);(case hg=>rfl);(case hr=>first|(go_simp;done)|(go_simp;rfl));intro iO hg w5 hbox hb;have br:=aa.mk (aE (by repeat (first|(with_reducible first|exact HB.out|apply ae|apply ab|apply af)|exact HB.out)) hb);have bt:=aa.mk (hbox);have bA:=aa.mk ((by rw [hg];exact (az (by repeat (first|(with_reducible first|exact HB.out|apply ae|apply ab|apply af)|exact HB.out))):w.heap.size≤iO));have bK:=aa.mk ((by rw [hg];exact (az (by repeat (first|(with_reducible first|exact HB.out|apply ae|apply ab|apply af)|exact HB.out))):w.heap.size≤iO));clear HB;have HB:=br;have ek:=bt;have OC:=bA;have pH:=bK;clear br bt bA bK;clear hb hbox hg;have xg:w5.cell? ⟨iO,0,none⟩=some (.int .i64 aI):=(ag ek.out 0).trans rfl;have xh:w5.cell? ⟨iO,1,none⟩=some (.slice bh aD.length bi):=(ag ek.out 1).trans rfl;have xj:w5.cell? ⟨iO,2,none⟩=some (.slice bu au.length aW):=(ag ek.out 2).trans rfl;have xk:=ah ek.out 0;have xl:=ah ek.out 1;have xm:=ah ek.out 2)|((with_reducible refine bY (f:=112) rfl ?_);refine er (some 10) rfl rfl Try.func112 (by kernel_rfl) rfl #[.agg #[.int .i64 aI,.slice bh aD.length bi,.slice bu au.length aW],.slice A1 l1.length c1] rfl (by (try simp only [List.map_toArray,List.map_cons,List.map_nil]);first|done|rfl|(simp only [List.length_drop,List.length_take];rfl)) ?_;(with_reducible refine (bG.calls k aI _ _ aD _ _ au _ _ l1 true _ ?bS ?bT ?cJ ?cN ?du ?dw A3.out).mono ?_);(case bS=>repeat (first|exact (Kd.aN fA.out HB.out)|(with_reducible refine Kd.aT ?_ _)|(with_reducible refine Kd.aU ?_ _)|(with_reducible refine Kd.bk ?_)));(case bT=>exact fB.out);(case cJ=>repeat (first|exact (Kd.aN ez.out HB.out)|(with_reducible refine Kd.aT ?_ _)|(with_reducible refine Kd.aU ?_ _)|(with_reducible refine Kd.bk ?_)));(case cN=>exact fC.out);(case du=>repeat (first|exact (Kd.aN lA.out HB.out)|(with_reducible refine Kd.aT ?_ _)|(with_reducible refine Kd.aU ?_ _)|(with_reducible refine Kd.bk ?_)));(case dw=>exact pK.out);rintro e w7 ⟨rfl,hb⟩;refine ⟨_,rfl, ?_⟩;have br:=aa.mk (aH (g:=iO) (o:= .cells #[.int .i64 aI,.slice bh aD.length bi,.slice bu au.length aW] 26 (0,0)) (by (with_reducible repeat (first|refine ak ?_ _|refine aq ?_|refine aj ?_ _));exact ek.out) hb);have bt:=aa.mk (aE (by repeat (first|(with_reducible first|exact HB.out|apply ae|apply ab|apply af|refine ai ?_ pH.out)|exact HB.out)) hb);clear ek;clear HB;have ek:=br;have HB:=bt;clear br bt;(try clear hb);(try clear hb2);(try clear hk);(try clear hi)))
  go_loopg [6,7] k (fun kq v6 v7 w'=>∃ (iq:List Int) (dY:Int),v7= .int .i64 dY∧aa (bJ.l0 kq l1 iq dY aI aD au=some (r1,r2))∧aa (kq≤k)∧aa (Kd.R (Kd.int .i64) 3 w' w.heap.size (fun _=>True) v6 iq)∧aa (w'.heap[iO]? =some (.cells #[.int .i64 aI,(.slice bh aD.length bi),(.slice bu au.length aW)] 26 (0,0)))∧aa (Below w.heap.size w w'))
  case atStart=>exact ⟨(([]:List Int)),(0),(by first|rfl|(simp;done)|(simp [*];done)),H',⟨Nat.le_refl _⟩,⟨by first|exact Kd.jE _ _ _ _ _|exact Kd.sA _ _ _ _ _|exact Kd.sB _ _ _ _ _|exact Kd.sr _ _ _ _ _|exact Kd.sy _ _ _ _ _⟩,⟨by (with_reducible repeat (first|refine ak ?_ _|refine aq ?_|refine aj ?_ _));exact ek.out⟩,⟨by repeat (first|(with_reducible first|exact HB.out|apply ae|apply ab|apply af|refine ai ?_ pH.out)|exact HB.out)⟩⟩
  case round=>
   clear H'
   try clear c1
   try clear p2
   try clear c4
   try clear xg
   try clear xh
   try clear xj
   try clear xk
   try clear xl
   try clear xm
   obtain ⟨iq,dY,rfl,HA,lw,HO_6,ek,HB⟩:=hrel
   cases gk with
   |zero=>exact absurd HA.out (by simp [bJ.l0])
   |succ k1=>
    have H:=HA.out
    clear HA
    simp only [bJ.l0] at H
    by_cases c8:dY<(au.length:Int)
    ·rw [if_pos c8] at H
     have c8b0:decide (dY<(au.length:Int))=true:=decide_eq_true c8
     clear c8
     by_cases c9:0≤dY
     ·rw [if_pos c9] at H
      have c9b0:decide (0≤dY)=true:=decide_eq_true c9
      clear c9
      replace H:=Option.bind_eq_some_iff.mp H
      obtain ⟨xw,Ix,H⟩:=H
      replace H:(if iq.length<17592186044416 then (bJ.l0 k1 l1 (iq++[xw]) (wrap64 (dY+1)) aI aD au) else (none))=some (r1,r2):=H
      have LP:=aa.mk Ix
      clear Ix
      by_cases xc:iq.length<17592186044416
      ·rw [if_pos xc] at H
       have Rv:=aa.mk xc
       clear xc
       obtain ⟨Mc,xx⟩:∃ y_:List Int,y_=(iq++[xw]):=⟨_,rfl⟩
       replace H:(bJ.l0 k1 l1 Mc (wrap64 (dY+1)) aI aD au)=some (r1,r2):=by first|(rw [xx];with_reducible exact H)|(have gT:=(Option.bind_some _ _).symm.trans H;rw [xx];with_reducible exact gT)|(have gT:=(Option.bind_some _ _).symm.trans H;with_reducible exact gT)|with_reducible exact H|(rw [xx];exact H)|exact H
       have OD:=aa.mk xx
       clear xx
       have H':=aa.mk H
       clear H
       have kn:wr.cell? ⟨iO,0,none⟩=some (.int .i64 aI):=(ag ek.out 0).trans rfl
       have ko:wr.cell? ⟨iO,1,none⟩=some (.slice bh aD.length bi):=(ag ek.out 1).trans rfl
       have qk:wr.cell? ⟨iO,2,none⟩=some (.slice bu au.length aW):=(ag ek.out 2).trans rfl
       have kp:=ah ek.out 0
       have kr:=ah ek.out 1
       have ql:=ah ek.out 2
       try go_wp2
       have br:=aa.mk (Kd.aA HO_6.out)
       have bt:=aa.mk (aq ek.out)
       have bA:=aa.mk (af HB.out)
       clear HO_6 ek HB
       have HO_6:=br;have ek:=bt;have HB:=bA
       clear br bt bA
       have Iy:0≤(dY:Int):=of_decide_eq_true (by assumption)
       have Iz:dY<(au.length:Int):=of_decide_eq_true (by assumption)
       obtain ⟨mc,Rw,ri,rj,rk,rl,rm,rn⟩:=i9 ez.out dY Iy Iz
       have lJ:=rn
       have lK:=rm
       have lL:=rl
       have lM:=rk
       have lN:=rj
       have lO:=ri
       cases Rw
       replace ri:=(HB.out.cell (World.block_lt_of_cell? w _ ri)).trans ri
       replace rj:=(HB.out.cell (World.block_lt_of_cell? w _ rj)).trans rj
       replace rk:=(HB.out.cell (World.block_lt_of_cell? w _ rk)).trans rk
       replace rl:=(HB.out.cell (World.block_lt_of_cell? w _ rl)).trans rl
       replace rm:=(HB.out.cell (World.block_lt_of_cell? w _ rm)).trans rm
       replace rn:=(HB.out.cell (World.block_lt_of_cell? w _ rn)).trans rn
       replace Iy:=eq_true Iy
       replace Iz:=eq_true Iz
       refine ju (n:=12) (S:=fun w'=>w'.cell? ⟨iO,0,none⟩=some (.int .i64 aI)∧w'.cell? ⟨iO,1,none⟩=some (.slice bh aD.length bi)∧w'.cell? ⟨iO,2,none⟩=some (.slice (some mc) au.length aW)∧w'.cell? (mc.add ((dY).toNat*6))=some (.int .i64 ((aC au dY).f0))∧w'.cell? ⟨(mc.add ((dY).toNat*6)).block,(mc.add ((dY).toNat*6)).off+1,none⟩=some (.int .i64 ((aC au dY).f1))∧w'.cell? ⟨(mc.add ((dY).toNat*6)).block,(mc.add ((dY).toNat*6)).off+2,none⟩=some (.int .i64 ((aC au dY).f2))∧w'.cell? ⟨(mc.add ((dY).toNat*6)).block,(mc.add ((dY).toNat*6)).off+3,none⟩=some (.int .i64 ((aC au dY).f3))∧w'.cell? ⟨(mc.add ((dY).toNat*6)).block,(mc.add ((dY).toNat*6)).off+4,none⟩=some (.int .i64 ((aC au dY).f4))∧w'.cell? ⟨(mc.add ((dY).toNat*6)).block,(mc.add ((dY).toNat*6)).off+5,none⟩=some (.int .i64 ((aC au dY).f5))) (ds:=[]) #[false,false,false,false,false,false,false,false,false,false,false,false] (by kernel_rfl) rfl rfl ⟨(ag ek.out 0).trans rfl,(ag ek.out 1).trans rfl,(ag ek.out 2).trans rfl,((HB.out.cell (World.block_lt_of_cell? w _ lO)).trans lO),((HB.out.cell (World.block_lt_of_cell? w _ lN)).trans lN),((HB.out.cell (World.block_lt_of_cell? w _ lM)).trans lM),((HB.out.cell (World.block_lt_of_cell? w _ lL)).trans lL),((HB.out.cell (World.block_lt_of_cell? w _ lK)).trans lK),((HB.out.cell (World.block_lt_of_cell? w _ lJ)).trans lJ)⟩ (fun hHeld=> ?_);refine fN bJ.Od bJ.Iq (fun HT_ HW_=> ?_)
       generalize wr.drew=rK at HO_6 ek HB ri rj rk rl rm rn hHeld ⊢
       refine bP (i:=0) (N:=some 19) (v:= ?_) (a':= ?_) #[true,false,false,false,false,false,false,false,false,false,false,false] rfl rfl (bz HT_.out (by kernel_rfl)) (fun _ _ _ h=>h) (Or.inl ⟨by rfl, ?_⟩) ?_ ?_
       rotate_left
       ·intro w'
        go_simp
        with_reducible rfl
       rotate_left
       ·simp only [Act.put,dg,dh,di,aY,a9]
        rfl
       refine bP (i:=2) (N:=some 21) (v:= ?_) (a':= ?_) #[true,false,true,false,false,false,false,false,false,false,false,false] rfl rfl (bz HT_.out (by kernel_rfl)) (fun _ _ _ h=>h) (Or.inl ⟨by rfl, ?_⟩) ?_ ?_
       rotate_left
       ·intro w'
        go_simp
        with_reducible rfl
       rotate_left
       ·simp only [Act.put,dg,dh,di,aY,a9]
        rfl
       refine bP (i:=3) (N:=some 22) (v:= ?_) (a':= ?_) #[true,false,true,true,false,false,false,false,false,false,false,false] rfl rfl (bz HT_.out (by kernel_rfl)) (fun _ _ _ h=>h) (Or.inl ⟨by rfl, ?_⟩) ?_ ?_
       rotate_left
       ·intro w'
        go_simp
        with_reducible rfl
       rotate_left
       ·simp only [Act.put,dg,dh,di,aY,a9]
        rfl
       refine bP (i:=5) (N:=some 24) (v:= ?_) (a':= ?_) #[true,false,true,true,false,true,false,false,false,false,false,false] rfl rfl (bz HT_.out (by kernel_rfl)) (fun _ _ _ h=>h) (Or.inl ⟨by rfl, ?_⟩) ?_ ?_
       rotate_left
       ·intro w'
        go_simp
        with_reducible rfl
       rotate_left
       ·simp only [Act.put,dg,dh,di,aY,a9]
        rfl
       refine eL (i:=1) (N:=some 20) (v:= ?_) (a':= ?_) #[true,true,true,true,false,true,false,false,false,false,false,false] rfl rfl (cO HT_.out HW_.out (by kernel_rfl)) (fun _ _ _ h=>h) (Or.inl ⟨by rfl, ?_⟩) hHeld ?_ ?_
       rotate_left
       ·rintro w' ⟨s0,s1,s2,s3,s4,s5,s6,s7,s8⟩
        go_simp
        with_reducible rfl
       rotate_left
       ·simp only [Act.put,dg,dh,di,aY,a9]
        rfl
       refine eL (i:=4) (N:=some 23) (v:= ?_) (a':= ?_) #[true,true,true,true,true,true,false,false,false,false,false,false] rfl rfl (cO HT_.out HW_.out (by kernel_rfl)) (fun _ _ _ h=>h) (Or.inl ⟨by rfl, ?_⟩) hHeld ?_ ?_
       rotate_left
       ·rintro w' ⟨s0,s1,s2,s3,s4,s5,s6,s7,s8⟩
        go_simp
        with_reducible rfl
       rotate_left
       ·simp only [Act.put,dg,dh,di,aY,a9]
        rfl
       refine bP (i:=6) (N:=some 25) (v:= ?_) (a':= ?_) #[true,true,true,true,true,true,true,false,false,false,false,false] rfl rfl (bz HT_.out (by kernel_rfl)) (fun _ _ _ h=>h) (Or.inl ⟨by rfl, ?_⟩) ?_ ?_
       rotate_left
       ·intro w'
        go_simp
        with_reducible rfl
       rotate_left
       ·simp only [Act.put,dg,dh,di,aY,a9]
        rfl
       refine eL (i:=7) (N:=some 26) (v:= ?_) (a':= ?_) #[true,true,true,true,true,true,true,true,false,false,false,false] rfl rfl (cO HT_.out HW_.out (by kernel_rfl)) (fun _ _ _ h=>h) (Or.inl ⟨by rfl, ?_⟩) hHeld ?_ ?_
       rotate_left
       ·rintro w' ⟨s0,s1,s2,s3,s4,s5,s6,s7,s8⟩
        go_simp
        with_reducible rfl
       rotate_left
       ·simp only [Act.put,dg,dh,di,aY,a9]
        rfl
       refine iP (i:=8) (N:=some 27) #[true,true,true,true,true,true,true,true,true,false,false,false] rfl rfl (dZ HT_.out (by kernel_rfl)) (by decide) (fun K hK=> ?_)
       refine mA Try.func113 (by kernel_rfl) rfl #[.agg #[.int .i64 aI,.slice bh aD.length bi,.slice (some mc) au.length aW],.slice A1 l1.length c1,.agg #[.int .i64 ((aC au dY).f0),.int .i64 ((aC au dY).f1),.int .i64 ((aC au dY).f2),.int .i64 ((aC au dY).f3),.int .i64 ((aC au dY).f4),.int .i64 ((aC au dY).f5)]] (by rfl) rfl rfl (by (try simp only [List.map_toArray,List.map_cons,List.map_nil]);first|done|rfl|(simp only [List.length_drop,List.length_take];rfl)) ?_
       with_reducible refine (iX.calls aI _ _ aD _ _ au _ _ l1 ((aC au dY).f0) ((aC au dY).f1) ((aC au dY).f2) ((aC au dY).f3) ((aC au dY).f4) ((aC au dY).f5) xw _ ?bS ?bT ?cJ ?cN ?du ?dw LP.out).mono ?_
       (case bS=>repeat (first|exact (Kd.aN fA.out HB.out)|(with_reducible refine Kd.aT ?_ _)|(with_reducible refine Kd.aU ?_ _)|(with_reducible refine Kd.bk ?_)))
       (case bT=>exact fB.out)
       (case cJ=>repeat (first|exact (Kd.aN ez.out HB.out)|(with_reducible refine Kd.aT ?_ _)|(with_reducible refine Kd.aU ?_ _)|(with_reducible refine Kd.bk ?_)))
       (case cN=>exact fC.out)
       (case du=>repeat (first|exact (Kd.aN lA.out HB.out)|(with_reducible refine Kd.aT ?_ _)|(with_reducible refine Kd.aU ?_ _)|(with_reducible refine Kd.bk ?_)))
       (case dw=>exact pK.out)
       rintro e Nx ⟨rfl,hb⟩
       refine ⟨_,rfl, ?_⟩
       have br:=aa.mk (Kd.aZ (by (with_reducible repeat (first|apply Kd.aw|apply Kd.av|apply Kd.aA));exact HO_6.out) hb)
       have bt:=aa.mk (aH (g:=iO) (o:= .cells #[.int .i64 aI,.slice bh aD.length bi,.slice (some mc) au.length aW] 26 (0,0)) (by (with_reducible repeat (first|refine ak ?_ _|refine aq ?_|refine aj ?_ _));exact ek.out) hb)
       have bA:=aa.mk (aE (by repeat (first|(with_reducible first|exact HB.out|apply ae|apply ab|apply af|refine ai ?_ pH.out)|exact HB.out)) hb)
       clear HO_6 ek HB
       have HO_6:=br;have ek:=bt;have HB:=bA
       clear br bt bA
       (try clear hb);(try clear hb2);(try clear hk);(try clear hi)
       refine hK.out _ _ ⟨(ag ek.out 0).trans rfl,(ag ek.out 1).trans rfl,(ag ek.out 2).trans rfl,((HB.out.cell (World.block_lt_of_cell? w _ lO)).trans lO),((HB.out.cell (World.block_lt_of_cell? w _ lN)).trans lN),((HB.out.cell (World.block_lt_of_cell? w _ lM)).trans lM),((HB.out.cell (World.block_lt_of_cell? w _ lL)).trans lL),((HB.out.cell (World.block_lt_of_cell? w _ lK)).trans lK),((HB.out.cell (World.block_lt_of_cell? w _ lJ)).trans lJ)⟩ (fun hHeld=> ?_)
       clear hK K
       refine eM (a':= ?_) ?_ ?_
       rotate_left
       ·show Act.put _ (some 27) _=_
        simp only [Act.put,dg,dh,di,aY,a9]
        rfl
       refine iP (i:=9) (N:=some 28) #[true,true,true,true,true,true,true,true,true,true,false,false] rfl rfl (dZ HT_.out (by kernel_rfl)) (by decide) (fun K hK=> ?_)
       refine kL (w1:= ?_) (v:= ?_) (by rfl) rfl ?_ ?_
       rotate_left 2
       ·go_simp
        constructor
        ·rfl
        rfl
       refine hK.out _ _ ⟨(ag (aj ek.out _) 0).trans rfl,(ag (aj ek.out _) 1).trans rfl,(ag (aj ek.out _) 2).trans rfl,(World.cell?_alloc_lt _ _ _ (World.block_lt_of_cell? _ _ (((HB.out.cell (World.block_lt_of_cell? w _ lO)).trans lO)))).trans (((HB.out.cell (World.block_lt_of_cell? w _ lO)).trans lO)),(World.cell?_alloc_lt _ _ _ (World.block_lt_of_cell? _ _ (((HB.out.cell (World.block_lt_of_cell? w _ lN)).trans lN)))).trans (((HB.out.cell (World.block_lt_of_cell? w _ lN)).trans lN)),(World.cell?_alloc_lt _ _ _ (World.block_lt_of_cell? _ _ (((HB.out.cell (World.block_lt_of_cell? w _ lM)).trans lM)))).trans (((HB.out.cell (World.block_lt_of_cell? w _ lM)).trans lM)),(World.cell?_alloc_lt _ _ _ (World.block_lt_of_cell? _ _ (((HB.out.cell (World.block_lt_of_cell? w _ lL)).trans lL)))).trans (((HB.out.cell (World.block_lt_of_cell? w _ lL)).trans lL)),(World.cell?_alloc_lt _ _ _ (World.block_lt_of_cell? _ _ (((HB.out.cell (World.block_lt_of_cell? w _ lK)).trans lK)))).trans (((HB.out.cell (World.block_lt_of_cell? w _ lK)).trans lK)),(World.cell?_alloc_lt _ _ _ (World.block_lt_of_cell? _ _ (((HB.out.cell (World.block_lt_of_cell? w _ lJ)).trans lJ)))).trans (((HB.out.cell (World.block_lt_of_cell? w _ lJ)).trans lJ))⟩ (fun hHeld=> ?_)
       clear hK K
       refine eM (a':= ?_) ?_ ?_
       rotate_left
       ·show Act.put _ (some 28) _=_
        simp only [Act.put,dg,dh,di,aY,a9]
        rfl
       refine iP (i:=10) (N:=some 29) #[true,true,true,true,true,true,true,true,true,true,true,false] rfl rfl (dZ HT_.out (by kernel_rfl)) (by decide) (fun K hK=> ?_)
       refine Kd.pz (Kd.int .i64) (w0:=w) w.heap.size (by rfl) (.tmp 19) (.tmp 28) 22 3 (.int .i64 0) 8 rfl Try.underlying22 info3 rfl (by decide) (by omega) u6 iq xw [.int .i64 xw] (fun _=>True) (fun _=>False) rfl rfl ?aP (fun _ hk=>hk.elim) ?aF ?aO ?aB ?aS ?aL ?_
       (case aP=>exact rfl)
       (case aB=>exact (by repeat (first|(with_reducible first|exact HB.out|apply ae|apply ab|apply af|refine ai ?_ pH.out)|exact HB.out)))
       (case aF=>exact (fun _ _=>trivial))
       (case aO=>exact (by (with_reducible repeat (first|apply Kd.aw|apply Kd.av|apply Kd.aA));exact HO_6.out))
       (case aS=>exact (az (by repeat (first|(with_reducible first|exact HB.out|apply ae|apply ab|apply af|refine ai ?_ pH.out)|exact HB.out))))
       (case aL=>have:=Rv.out;omega)
       intro aci yJ ho hb hg hat
       rw [← OD.out] at ho
       have br:=aa.mk (dq (g:=iO) (o:= .cells #[.int .i64 aI,.slice bh aD.length bi,.slice (some mc) au.length aW] 26 (0,0)) (by (with_reducible repeat (first|refine ak ?_ _|refine aq ?_|refine aj ?_ _));exact ek.out) hg (Kd.mz HO_6.out ek.out (by decide)))
       have bt:=aa.mk (hb)
       have bA:=aa.mk (ho)
       clear ek HB HO_6
       have ek:=br;have HB:=bt;have OE:=bA
       clear br bt bA ho hb hg hat
       refine hK.out _ _ ⟨(ag ek.out 0).trans rfl,(ag ek.out 1).trans rfl,(ag ek.out 2).trans rfl,((HB.out.cell (World.block_lt_of_cell? w _ lO)).trans lO),((HB.out.cell (World.block_lt_of_cell? w _ lN)).trans lN),((HB.out.cell (World.block_lt_of_cell? w _ lM)).trans lM),((HB.out.cell (World.block_lt_of_cell? w _ lL)).trans lL),((HB.out.cell (World.block_lt_of_cell? w _ lK)).trans lK),((HB.out.cell (World.block_lt_of_cell? w _ lJ)).trans lJ)⟩ (fun hHeld=> ?_)
       clear hK K
       refine eM (a':= ?_) ?_ ?_
       rotate_left
       ·show Act.put _ (some 29) _=_
        simp only [Act.put,dg,dh,di,aY,a9]
        rfl
       refine bP (i:=11) (N:=some 6) (v:= ?_) (a':= ?_) #[true,true,true,true,true,true,true,true,true,true,true,true] rfl rfl (bz HT_.out (by kernel_rfl)) (fun _ _ _ h=>h) (Or.inl ⟨by rfl, ?_⟩) ?_ ?_
       rotate_left
       ·intro w'
        go_simp
        with_reducible rfl
       rotate_left
       ·simp only [Act.put,dg,dh,di,aY,a9]
        rfl
       refine j1 (gD HT_.out (by kernel_rfl)) ?_
       try go_wp2
       go_roundg k1
       case measure=>have:=lw.out;omega
       case rel=>exact ⟨(Mc),(wrap64 (dY+1)),(by first|rfl|(simp;done)|(simp [*];done)),H',⟨by have:=lw.out;omega⟩,⟨by (with_reducible repeat (first|apply Kd.aw|apply Kd.av|apply Kd.aA));exact OE.out⟩,⟨by (with_reducible repeat (first|refine ak ?_ _|refine aq ?_|refine aj ?_ _));exact ek.out⟩,⟨by repeat (first|(with_reducible first|exact HB.out|apply ae|apply ab|apply af|refine ai ?_ pH.out)|exact HB.out)⟩⟩
      rw [if_neg xc] at H
      exact absurd H (by simp)
     rw [if_neg c9] at H
     exact absurd H (by simp)
    rw [if_neg c8] at H
    have c8b0:decide (dY<(au.length:Int))=false:=decide_eq_false c8
    clear c8
    simp only [Option.some.injEq,Prod.mk.injEq] at H
    obtain ⟨rfl,rfl⟩:=H
    have vY:wr.cell? ⟨iO,0,none⟩=some (.int .i64 aI):=(ag ek.out 0).trans rfl
    have vZ:wr.cell? ⟨iO,1,none⟩=some (.slice bh aD.length bi):=(ag ek.out 1).trans rfl
    have Xb:wr.cell? ⟨iO,2,none⟩=some (.slice bu au.length aW):=(ag ek.out 2).trans rfl
    have we:=ah ek.out 0
    have wg:=ah ek.out 1
    have Xc:=ah ek.out 2
    go_wp2
    go_ret2
    exact ⟨_,by first|rfl|(simp [bB,bC]<;>rfl)|(simp [*,bB,bC]<;>rfl),by (with_reducible repeat (first|apply Kd.aw|apply Kd.av|apply Kd.aA));exact HO_6.out,by repeat (first|(with_reducible first|exact HB.out|apply ae|apply ab|apply af|refine ai ?_ pH.out)|exact HB.out)⟩
 replace c4:=Bool.eq_false_iff.mpr c4
 subst c4
 have H1:(some (([]:List Int),1))=some (r1,r2):=by rw [if_neg (show ¬(false=true) by decide)] at H;exact H
 clear H
 have H:=H1
 clear H1
 simp only [Option.some.injEq,Prod.mk.injEq] at H
 obtain ⟨rfl,rfl⟩:=H
 go_enter Try.func91,Try.ntmps91
 go_wp2_with (first|((with_reducible refine bF (N:=2) rfl ?_);refine bH ?hg (N:=2) ?hd (cs:=#[.int .i64 aI,.slice bh aD.length bi,.slice bu au.length aW]) (t:=26) ?hr ?_;(case hd=>rfl);(case hg=>rfl);(case hr=>first|(go_simp;done)|(go_simp;rfl));intro iO hg Ct hbox hb;have br:=aa.mk (aE (by repeat (first|(with_reducible first|exact HB.out|apply ae|apply ab|apply af)|exact HB.out)) hb);have bt:=aa.mk (hbox);have bA:=aa.mk ((by rw [hg];exact (az (by repeat (first|(with_reducible first|exact HB.out|apply ae|apply ab|apply af)|exact HB.out))):w.heap.size≤iO));have bK:=aa.mk ((by rw [hg];exact (az (by repeat (first|(with_reducible first|exact HB.out|apply ae|apply ab|apply af)|exact HB.out))):w.heap.size≤iO));clear HB;have HB:=br;have ek:=bt;have OC:=bA;have pH:=bK;clear br bt bA bK;clear hb hbox hg;have y9:Ct.cell? ⟨iO,0,none⟩=some (.int .i64 aI):=(ag ek.out 0).trans rfl;have za:Ct.cell? ⟨iO,1,none⟩=some (.slice bh aD.length bi):=(ag ek.out 1).trans rfl;have zb:Ct.cell? ⟨iO,2,none⟩=some (.slice bu au.length aW):=(ag ek.out 2).trans rfl;have ze:=ah ek.out 0;have zf:=ah ek.out 1;have zg:=ah ek.out 2)|((with_reducible refine bY (f:=112) rfl ?_);refine er (some 10) rfl rfl Try.func112 (by kernel_rfl) rfl #[.agg #[.int .i64 aI,.slice bh aD.length bi,.slice bu au.length aW],.slice A1 l1.length c1] rfl (by (try simp only [List.map_toArray,List.map_cons,List.map_nil]);first|done|rfl|(simp only [List.length_drop,List.length_take];rfl)) ?_;(with_reducible refine (bG.calls k aI _ _ aD _ _ au _ _ l1 false _ ?bS ?bT ?cJ ?cN ?du ?dw A3.out).mono ?_);(case bS=>repeat (first|exact (Kd.aN fA.out HB.out)|(with_reducible refine Kd.aT ?_ _)|(with_reducible refine Kd.aU ?_ _)|(with_reducible refine Kd.bk ?_)));(case bT=>exact fB.out);(case cJ=>repeat (first|exact (Kd.aN ez.out HB.out)|(with_reducible refine Kd.aT ?_ _)|(with_reducible refine Kd.aU ?_ _)|(with_reducible refine Kd.bk ?_)));(case cN=>exact fC.out);(case du=>repeat (first|exact (Kd.aN lA.out HB.out)|(with_reducible refine Kd.aT ?_ _)|(with_reducible refine Kd.aU ?_ _)|(with_reducible refine Kd.bk ?_)));(case dw=>exact pK.out);rintro e Fw ⟨rfl,hb⟩;refine ⟨_,rfl, ?_⟩;have br:=aa.mk (aH (g:=iO) (o:= .cells #[.int .i64 aI,.slice bh aD.length bi,.slice bu au.length aW] 26 (0,0)) (by (with_reducible repeat (first|refine ak ?_ _|refine aq ?_|refine aj ?_ _));exact ek.out) hb);have bt:=aa.mk (aE (by repeat (first|(with_reducible first|exact HB.out|apply ae|apply ab|apply af|refine ai ?_ pH.out)|exact HB.out)) hb);clear ek;clear HB;have ek:=br;have HB:=bt;clear br bt;(try clear hb);(try clear hb2);(try clear hk);(try clear hi)))
 go_ret2
 exact ⟨_,by first|rfl|(simp [bB,bC]<;>rfl)|(simp [*,bB,bC]<;>rfl),by first|exact Kd.jE _ _ _ _ _|exact Kd.sA _ _ _ _ _|exact Kd.sB _ _ _ _ _|exact Kd.sr _ _ _ _ _|exact Kd.sy _ _ _ _ _,by repeat (first|(with_reducible first|exact HB.out|apply ae|apply ab|apply af|refine ai ?_ pH.out)|exact HB.out)⟩
end Go.Proofs.Ytbkjplomoegbdaa.PB
