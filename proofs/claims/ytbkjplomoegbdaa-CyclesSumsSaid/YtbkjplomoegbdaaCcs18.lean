/- Parts of the proof of CyclesSums, gathered by a program of this claim out of texts that it or the kit's print wrote: lemmas alone, no condition of their own. -/
import Derived.Test.YtbkjplomoegbdaaCcs11
namespace Go.Proofs.Ytbkjplomoegbdaa.PB
open Go.RowKit Go.Proofs.YtbkjplomoegbdaaW.bO Go.Proofs.YtbkjplomoegbdaaW.dA Go.Proofs.YtbkjplomoegbdaaW.dG
attribute [local go_sem] iQ iR jM jN gW gX iS iT
set_option linter.unusedVariables false
set_option linter.unusedSimpArgs false
def lG.f (a0:Int) (mD:Int) (fR:Int) (gh:Int) (kE:Int) (mE:Int) (mF:Int) (a2:Int) (a3:Int):Option (Int):=(lg.f (wrap64 ((wrap64 (a3 - a2)) - kE)) a0).bind fun BQ=>(some (wrap64 (kE+BQ)))
set_option maxHeartbeats 8000000 in
set_option maxRecDepth 100000 in
theorem lG.calls (a0:Int) (mD:Int) (fR:Int) (gh:Int) (kE:Int) (mE:Int) (mF:Int) (a2:Int) (a3:Int) (r:Int) (w:World) (h:lG.f a0 mD fR gh kE mE mF a2 a3=some r):
  Calls Try.prog 94 #[.int .i64 a0,.agg #[.int .i64 mD,.int .i64 fR,.int .i64 gh,.int .i64 kE,.int .i64 mE,.int .i64 mF],.int .i64 a2,.int .i64 a3] w fun e w'=>e= .returned (.int .i64 r)∧Below w.heap.size w w':=by
 have sj:=Try.underlying36
 have HB:=aa.mk (Below.refl w.heap.size w)
 have H:((lg.f (wrap64 ((wrap64 (a3 - a2)) - kE)) a0).bind fun BQ=>(some (wrap64 (kE+BQ))))=some r:=h
 clear h
 replace H:=Option.bind_eq_some_iff.mp H
 obtain ⟨BQ,DC,H⟩:=H
 replace H:(some (wrap64 (kE+BQ)))=some r:=H
 have A5:=aa.mk DC
 clear DC
 obtain rfl:=Option.some.inj H
 go_enter Try.func94,Try.ntmps94
 go_wp2_with (first|((with_reducible refine bF (N:=5) rfl ?_);refine bH ?hg (N:=5) ?hd (cs:=#[.int .i64 mD,.int .i64 fR,.int .i64 gh,.int .i64 kE,.int .i64 mE,.int .i64 mF]) (t:=36) ?hr ?_;(case hd=>rfl);(case hg=>rfl);(case hr=>first|(go_simp;done)|(go_simp;rfl));intro j5 hg w6 hbox hb;have br:=aa.mk (aE (by repeat (first|(with_reducible first|exact HB.out|apply ae|apply ab|apply af)|exact HB.out)) hb);have bt:=aa.mk (hbox);have bA:=aa.mk ((by rw [hg];exact (az (by repeat (first|(with_reducible first|exact HB.out|apply ae|apply ab|apply af)|exact HB.out))):w.heap.size≤j5));have bK:=aa.mk ((by rw [hg];exact (az (by repeat (first|(with_reducible first|exact HB.out|apply ae|apply ab|apply af)|exact HB.out))):w.heap.size≤j5));clear HB;have HB:=br;have ia:=bt;have L6:=bA;have Ii:=bK;clear br bt bA bK;clear hb hbox hg;have mX:w6.cell? ⟨j5,0,none⟩=some (.int .i64 mD):=(ag ia.out 0).trans rfl;have mY:w6.cell? ⟨j5,1,none⟩=some (.int .i64 fR):=(ag ia.out 1).trans rfl;have mZ:w6.cell? ⟨j5,2,none⟩=some (.int .i64 gh):=(ag ia.out 2).trans rfl;have Ij:w6.cell? ⟨j5,3,none⟩=some (.int .i64 kE):=(ag ia.out 3).trans rfl;have Ik:w6.cell? ⟨j5,4,none⟩=some (.int .i64 mE):=(ag ia.out 4).trans rfl;have Il:w6.cell? ⟨j5,5,none⟩=some (.int .i64 mF):=(ag ia.out 5).trans rfl;have m5:=ah ia.out 0;have m6:=ah ia.out 1;have m7:=ah ia.out 2;have Im:=ah ia.out 3;have Io:=ah ia.out 4;have Ip:=ah ia.out 5)|(go_at_call 102;(with_reducible refine (lg.calls (wrap64 ((wrap64 (a3 - a2)) - kE)) a0 BQ _ A5.out).mono ?_);rintro e w' ⟨rfl,⟨nd,rfl⟩⟩;(try first|exact ⟨rfl,_,World.drewN_drewN _ _ _⟩|exact ⟨rfl,_,Eq.trans (World.drewN_drewN _ _ _) (congrArg (World.drewN _) (Nat.add_assoc _ _ _))⟩)))
 repeat (go_quiet (first|((with_reducible refine bF (N:=5) rfl ?_);refine bH ?hg (N:=5) ?hd (cs:=#[.int .i64 mD,.int .i64 fR,.int .i64 gh,.int .i64 kE,.int .i64 mE,.int .i64 mF]) (t:=36) ?hr ?_;(case hd=>rfl);(case hg=>rfl);(case hr=>first|(go_simp;done)|(go_simp;rfl));intro j5 hg w6 hbox hb;have br:=aa.mk (aE (by repeat (first|(with_reducible first|exact HB.out|apply ae|apply ab|apply af)|exact HB.out)) hb);have bt:=aa.mk (hbox);have bA:=aa.mk ((by rw [hg];exact (az (by repeat (first|(with_reducible first|exact HB.out|apply ae|apply ab|apply af)|exact HB.out))):w.heap.size≤j5));have bK:=aa.mk ((by rw [hg];exact (az (by repeat (first|(with_reducible first|exact HB.out|apply ae|apply ab|apply af)|exact HB.out))):w.heap.size≤j5));clear HB;have HB:=br;have ia:=bt;have L6:=bA;have Ii:=bK;clear br bt bA bK;clear hb hbox hg;have mX:w6.cell? ⟨j5,0,none⟩=some (.int .i64 mD):=(ag ia.out 0).trans rfl;have mY:w6.cell? ⟨j5,1,none⟩=some (.int .i64 fR):=(ag ia.out 1).trans rfl;have mZ:w6.cell? ⟨j5,2,none⟩=some (.int .i64 gh):=(ag ia.out 2).trans rfl;have Ij:w6.cell? ⟨j5,3,none⟩=some (.int .i64 kE):=(ag ia.out 3).trans rfl;have Ik:w6.cell? ⟨j5,4,none⟩=some (.int .i64 mE):=(ag ia.out 4).trans rfl;have Il:w6.cell? ⟨j5,5,none⟩=some (.int .i64 mF):=(ag ia.out 5).trans rfl;have m5:=ah ia.out 0;have m6:=ah ia.out 1;have m7:=ah ia.out 2;have Im:=ah ia.out 3;have Io:=ah ia.out 4;have Ip:=ah ia.out 5)|(go_at_call 102;(with_reducible refine (lg.calls (wrap64 ((wrap64 (a3 - a2)) - kE)) a0 BQ _ A5.out).mono ?_);rintro e w' ⟨rfl,⟨nd,rfl⟩⟩;(try first|exact ⟨rfl,_,World.drewN_drewN _ _ _⟩|exact ⟨rfl,_,Eq.trans (World.drewN_drewN _ _ _) (congrArg (World.drewN _) (Nat.add_assoc _ _ _))⟩)));try go_wp2_with (first|((with_reducible refine bF (N:=5) rfl ?_);refine bH ?hg (N:=5) ?hd (cs:=#[.int .i64 mD,.int .i64 fR,.int .i64 gh,.int .i64 kE,.int .i64 mE,.int .i64 mF]) (t:=36) ?hr ?_;(case hd=>rfl);(case hg=>rfl);(case hr=>first|(go_simp;done)|(go_simp;rfl));intro j5 hg w6 hbox hb;have br:=aa.mk (aE (by repeat (first|(with_reducible first|exact HB.out|apply ae|apply ab|apply af)|exact HB.out)) hb);have bt:=aa.mk (hbox);have bA:=aa.mk ((by rw [hg];exact (az (by repeat (first|(with_reducible first|exact HB.out|apply ae|apply ab|apply af)|exact HB.out))):w.heap.size≤j5));have bK:=aa.mk ((by rw [hg];exact (az (by repeat (first|(with_reducible first|exact HB.out|apply ae|apply ab|apply af)|exact HB.out))):w.heap.size≤j5));clear HB;have HB:=br;have ia:=bt;have L6:=bA;have Ii:=bK;clear br bt bA bK;clear hb hbox hg;have mX:w6.cell? ⟨j5,0,none⟩=some (.int .i64 mD):=(ag ia.out 0).trans rfl;have mY:w6.cell? ⟨j5,1,none⟩=some (.int .i64 fR):=(ag ia.out 1).trans rfl;have mZ:w6.cell? ⟨j5,2,none⟩=some (.int .i64 gh):=(ag ia.out 2).trans rfl;have Ij:w6.cell? ⟨j5,3,none⟩=some (.int .i64 kE):=(ag ia.out 3).trans rfl;have Ik:w6.cell? ⟨j5,4,none⟩=some (.int .i64 mE):=(ag ia.out 4).trans rfl;have Il:w6.cell? ⟨j5,5,none⟩=some (.int .i64 mF):=(ag ia.out 5).trans rfl;have m5:=ah ia.out 0;have m6:=ah ia.out 1;have m7:=ah ia.out 2;have Im:=ah ia.out 3;have Io:=ah ia.out 4;have Ip:=ah ia.out 5)|(go_at_call 102;(with_reducible refine (lg.calls (wrap64 ((wrap64 (a3 - a2)) - kE)) a0 BQ _ A5.out).mono ?_);rintro e w' ⟨rfl,⟨nd,rfl⟩⟩;(try first|exact ⟨rfl,_,World.drewN_drewN _ _ _⟩|exact ⟨rfl,_,Eq.trans (World.drewN_drewN _ _ _) (congrArg (World.drewN _) (Nat.add_assoc _ _ _))⟩))))
 go_ret
 exact ⟨by first|rfl|(simp [bB,bC]<;>rfl)|(simp [*,bB,bC]<;>rfl),by repeat (first|(with_reducible first|exact HB.out|apply ae|apply ab|apply af|refine ai ?_ Ii.out)|exact HB.out)⟩
def bQ.l0:Nat→List Int→Int→Option (Bool)
 |0,_,_=>none
 |k+1,x1,x5=>if x5<(x1.length:Int) then (if 0≤x5 then ((bD.f (rd x1 x5) (-131072) 131072).bind fun KO=>(if KO=true then (bQ.l0 k x1 (wrap64 (x5+1))) else (some false))) else (none)) else (some true)
def bQ.f (k:Nat) (aI:Int) (aD:List (hO)) (au:List (eu)) (l1:List Int):Option (Bool):=if (l1.length:Int)=(au.length:Int) then (bQ.l0 k l1 0) else (some false)
set_option maxHeartbeats 8000000 in
set_option maxRecDepth 100000 in
theorem bQ.calls (k:Nat) (aI:Int) (bh:Option Addr) (bi:Nat) (aD:List (hO)) (bu:Option Addr) (aW:Nat) (au:List (eu)) (A1:Option Addr) (c1:Nat) (l1:List Int) (r:Bool) (w:World) (eI:Kd.C oS w bh aD.length aD) (eS:aD.length≤bi) (eC:Kd.C nD w bu au.length au) (eT:au.length≤aW) (mh:Kd.C (Kd.int .i64) w A1 l1.length l1) (oA:l1.length≤c1) (h:bQ.f k aI aD au l1=some r):
  Calls Try.prog 98 #[.agg #[.int .i64 aI,.slice bh aD.length bi,.slice bu au.length aW],.slice A1 l1.length c1] w fun e w'=>e= .returned (.bool r)∧Below w.heap.size w w':=by
 have nu:=Try.underlying26
 have fA:=aa.mk eI
 have fB:=aa.mk eS
 clear eI eS
 have ez:=aa.mk eC
 have fC:=aa.mk eT
 clear eC eT
 have lA:=aa.mk mh
 have pK:=aa.mk oA
 clear mh oA
 have HB:=aa.mk (Below.refl w.heap.size w)
 have H:(if (l1.length:Int)=(au.length:Int) then (bQ.l0 k l1 0) else (some false))=some r:=h
 clear h
 by_cases c3:(l1.length:Int)=(au.length:Int)
 ·rw [if_pos c3] at H
  have c3b0:((l1.length:Int)==(au.length:Int))=true:=beq_iff_eq.mpr c3
  have c3b1:((l1.length:Int) !=(au.length:Int))=false:=bne_eq_false_iff_eq.mpr c3
  have c3b2:(l1.length==au.length)=true:=by first|simpa using c3|(simp at c3 ⊢;omega)
  clear c3
  have H':=aa.mk H
  clear H
  go_enter Try.func98,Try.ntmps98
  go_wp2_with (first|((with_reducible refine bF (N:=2) rfl ?_);refine bH ?hg (N:=2) ?hd (cs:=#[.int .i64 aI,.slice bh aD.length bi,.slice bu au.length aW]) (t:=26) ?hr ?_;(case hd=>rfl);(case hg=>rfl);(case hr=>first|(go_simp;done)|(go_simp;rfl));intro qD hg w4 hbox hb;have br:=aa.mk (aE (by repeat (first|(with_reducible first|exact HB.out|apply ae|apply ab|apply af)|exact HB.out)) hb);have bt:=aa.mk (hbox);have bA:=aa.mk ((by rw [hg];exact (az (by repeat (first|(with_reducible first|exact HB.out|apply ae|apply ab|apply af)|exact HB.out))):w.heap.size≤qD));have bK:=aa.mk ((by rw [hg];exact (az (by repeat (first|(with_reducible first|exact HB.out|apply ae|apply ab|apply af)|exact HB.out))):w.heap.size≤qD));clear HB;have HB:=br;have nN:=bt;have Rg:=bA;have yn:=bK;clear br bt bA bK;clear hb hbox hg;have N3:w4.cell? ⟨qD,0,none⟩=some (.int .i64 aI):=(ag nN.out 0).trans rfl;have N4:w4.cell? ⟨qD,1,none⟩=some (.slice bh aD.length bi):=(ag nN.out 1).trans rfl;have N5:w4.cell? ⟨qD,2,none⟩=some (.slice bu au.length aW):=(ag nN.out 2).trans rfl;have N6:=ah nN.out 0;have N7:=ah nN.out 1;have N8:=ah nN.out 2))
  go_loopg [5] k (fun kq v5 w'=>∃ (gI:Int),v5= .int .i64 gI∧aa (bQ.l0 kq l1 gI=some r)∧aa (kq≤k)∧aa (w'.heap[qD]? =some (.cells #[.int .i64 aI,(.slice bh aD.length bi),(.slice bu au.length aW)] 26 (0,0)))∧aa (Below w.heap.size w w'))
  case atStart=>exact ⟨(0),(by first|rfl|(simp;done)|(simp [*];done)),H',⟨Nat.le_refl _⟩,⟨by (with_reducible repeat (first|refine ak ?_ _|refine aq ?_|refine aj ?_ _));exact nN.out⟩,⟨by repeat (first|(with_reducible first|exact HB.out|apply ae|apply ab|apply af|refine ai ?_ yn.out)|exact HB.out)⟩⟩
  case round=>
   clear H'
   try clear c1
   try clear p2
   try clear c3
   try clear c3b0
   try clear c3b1
   try clear c3b2
   try clear N3
   try clear N4
   try clear N5
   try clear N6
   try clear N7
   try clear N8
   obtain ⟨gI,rfl,HA,lw,nN,HB⟩:=hrel
   cases gk with
   |zero=>exact absurd HA.out (by simp [bQ.l0])
   |succ k1=>
    have H:=HA.out
    clear HA
    simp only [bQ.l0] at H
    by_cases c6:gI<(l1.length:Int)
    ·rw [if_pos c6] at H
     have c6b0:decide (gI<(l1.length:Int))=true:=decide_eq_true c6
     clear c6
     by_cases c7:0≤gI
     ·rw [if_pos c7] at H
      have c7b0:decide (0≤gI)=true:=decide_eq_true c7
      clear c7
      replace H:=Option.bind_eq_some_iff.mp H
      obtain ⟨KO,GG,H⟩:=H
      replace H:(if KO=true then (bQ.l0 k1 l1 (wrap64 (gI+1))) else (some false))=some r:=H
      have A8:=aa.mk GG
      clear GG
      by_cases c9:KO=true
      ·subst c9
       have H1:(bQ.l0 k1 l1 (wrap64 (gI+1)))=some r:=by rw [if_pos rfl] at H;exact H
       clear H
       have H:=H1
       clear H1
       have H':=aa.mk H
       clear H
       have C9:0≤(gI:Int):=of_decide_eq_true (by assumption)
       have Da:gI<(l1.length:Int):=of_decide_eq_true (by assumption)
       obtain ⟨Rh,N9,qo⟩:=Kd.dN lA.out gI C9 Da
       cases N9
       replace qo:=(HB.out.cell (World.block_lt_of_cell? w _ qo)).trans qo
       replace C9:=eq_true C9
       replace Da:=eq_true Da
       go_wp2_with (first|((with_reducible refine bY (f:=110) rfl ?_);refine er (some 22) rfl rfl Try.func110 (by kernel_rfl) rfl #[.int .i64 (rd l1 gI),.int .i64 (-131072),.int .i64 131072] rfl (by (try simp only [List.map_toArray,List.map_cons,List.map_nil]);first|done|rfl|(simp only [List.length_drop,List.length_take];rfl)) ?_;(with_reducible refine (bD.calls (rd l1 gI) (-131072) 131072 true _ A8.out).mono ?_);rintro e w' ⟨rfl,⟨nd,rfl⟩⟩;refine ⟨_,rfl, ?_⟩))
       go_roundg k1
       case measure=>have:=lw.out;omega
       case rel=>exact ⟨(wrap64 (gI+1)),(by first|rfl|(simp;done)|(simp [*];done)),H',⟨by have:=lw.out;omega⟩,⟨by (with_reducible repeat (first|refine ak ?_ _|refine aq ?_|refine aj ?_ _));exact nN.out⟩,⟨by repeat (first|(with_reducible first|exact HB.out|apply ae|apply ab|apply af|refine ai ?_ yn.out)|exact HB.out)⟩⟩
      replace c9:=Bool.eq_false_iff.mpr c9
      subst c9
      have H1:(some false)=some r:=by rw [if_neg (show ¬(false=true) by decide)] at H;exact H
      clear H
      have H:=H1
      clear H1
      obtain rfl:=Option.some.inj H
      have C9:0≤(gI:Int):=of_decide_eq_true (by assumption)
      have Da:gI<(l1.length:Int):=of_decide_eq_true (by assumption)
      obtain ⟨Rh,N9,qo⟩:=Kd.dN lA.out gI C9 Da
      cases N9
      replace qo:=(HB.out.cell (World.block_lt_of_cell? w _ qo)).trans qo
      replace C9:=eq_true C9
      replace Da:=eq_true Da
      go_wp2_with (first|((with_reducible refine bY (f:=110) rfl ?_);refine er (some 22) rfl rfl Try.func110 (by kernel_rfl) rfl #[.int .i64 (rd l1 gI),.int .i64 (-131072),.int .i64 131072] rfl (by (try simp only [List.map_toArray,List.map_cons,List.map_nil]);first|done|rfl|(simp only [List.length_drop,List.length_take];rfl)) ?_;(with_reducible refine (bD.calls (rd l1 gI) (-131072) 131072 false _ A8.out).mono ?_);rintro e w' ⟨rfl,⟨nd,rfl⟩⟩;refine ⟨_,rfl, ?_⟩))
      go_ret
      exact ⟨by first|rfl|(simp [bB,bC]<;>rfl)|(simp [*,bB,bC]<;>rfl),by repeat (first|(with_reducible first|exact HB.out|apply ae|apply ab|apply af|refine ai ?_ yn.out)|exact HB.out)⟩
     rw [if_neg c7] at H
     exact absurd H (by simp)
    rw [if_neg c6] at H
    have c6b0:decide (gI<(l1.length:Int))=false:=decide_eq_false c6
    clear c6
    obtain rfl:=Option.some.inj H
    go_wp2
    go_ret
    exact ⟨by first|rfl|(simp [bB,bC]<;>rfl)|(simp [*,bB,bC]<;>rfl),by repeat (first|(with_reducible first|exact HB.out|apply ae|apply ab|apply af|refine ai ?_ yn.out)|exact HB.out)⟩
 rw [if_neg c3] at H
 have c3b0:((l1.length:Int)==(au.length:Int))=false:=beq_eq_false_iff_ne.mpr c3
 have c3b1:((l1.length:Int) !=(au.length:Int))=true:=bne_iff_ne.mpr c3
 have c3b2:(l1.length==au.length)=false:=by first|simpa using c3|(simp at c3 ⊢;omega)
 obtain rfl:=Option.some.inj H
 go_enter Try.func98,Try.ntmps98
 go_wp2_with (first|((with_reducible refine bF (N:=2) rfl ?_);refine bH ?hg (N:=2) ?hd (cs:=#[.int .i64 aI,.slice bh aD.length bi,.slice bu au.length aW]) (t:=26) ?hr ?_;(case hd=>rfl);(case hg=>rfl);(case hr=>first|(go_simp;done)|(go_simp;rfl));intro qD hg oC hbox hb;have br:=aa.mk (aE (by repeat (first|(with_reducible first|exact HB.out|apply ae|apply ab|apply af)|exact HB.out)) hb);have bt:=aa.mk (hbox);have bA:=aa.mk ((by rw [hg];exact (az (by repeat (first|(with_reducible first|exact HB.out|apply ae|apply ab|apply af)|exact HB.out))):w.heap.size≤qD));have bK:=aa.mk ((by rw [hg];exact (az (by repeat (first|(with_reducible first|exact HB.out|apply ae|apply ab|apply af)|exact HB.out))):w.heap.size≤qD));clear HB;have HB:=br;have nN:=bt;have Rg:=bA;have yn:=bK;clear br bt bA bK;clear hb hbox hg;have kT:oC.cell? ⟨qD,0,none⟩=some (.int .i64 aI):=(ag nN.out 0).trans rfl;have kU:oC.cell? ⟨qD,1,none⟩=some (.slice bh aD.length bi):=(ag nN.out 1).trans rfl;have kV:oC.cell? ⟨qD,2,none⟩=some (.slice bu au.length aW):=(ag nN.out 2).trans rfl;have kW:=ah nN.out 0;have kX:=ah nN.out 1;have kY:=ah nN.out 2))
 go_ret
 exact ⟨by first|rfl|(simp [bB,bC]<;>rfl)|(simp [*,bB,bC]<;>rfl),by repeat (first|(with_reducible first|exact HB.out|apply ae|apply ab|apply af|refine ai ?_ yn.out)|exact HB.out)⟩
mutual
def bG.j0:Nat→List Int→Bool→Int→List (hO)→List (eu)→Option (Bool)
 |0,_,_,_,_,_=>none
 |k+1,x1,vD,vX,zG,zH=>if vD=true then (some false) else (bG.l0 k x1 0 vX zG zH)
def bG.l0:Nat→List Int→Int→Int→List (hO)→List (eu)→Option (Bool)
 |0,_,_,_,_,_=>none
 |k+1,x1,x5,vX,zG,zH=>if x5<(x1.length:Int) then (if 0≤x5 then ((bD.f (rd x1 x5) 0 (wrap64 (vX - 1))).bind fun KP=>(if KP=true then (bG.l0 k x1 (wrap64 (x5+1)) vX zG zH) else (some false))) else (none)) else (some true)
end
def bG.f (k:Nat) (aI:Int) (aD:List (hO)) (au:List (eu)) (l1:List Int):Option (Bool):=(aQ.f k aI aD au).bind fun F2=>(if F2=true then (bG.j0 k l1 ((l1.length:Int) !=(aD.length:Int)) aI aD au) else (bG.j0 k l1 true aI aD au))
set_option maxHeartbeats 8000000 in
set_option maxRecDepth 100000 in
theorem bG.calls (k:Nat) (aI:Int) (bh:Option Addr) (bi:Nat) (aD:List (hO)) (bu:Option Addr) (aW:Nat) (au:List (eu)) (A1:Option Addr) (c1:Nat) (l1:List Int) (r:Bool) (w:World) (eI:Kd.C oS w bh aD.length aD) (eS:aD.length≤bi) (eC:Kd.C nD w bu au.length au) (eT:au.length≤aW) (mh:Kd.C (Kd.int .i64) w A1 l1.length l1) (oA:l1.length≤c1) (h:bG.f k aI aD au l1=some r):
  Calls Try.prog 112 #[.agg #[.int .i64 aI,.slice bh aD.length bi,.slice bu au.length aW],.slice A1 l1.length c1] w fun e w'=>e= .returned (.bool r)∧Below w.heap.size w w':=by
 have nu:=Try.underlying26
 have fA:=aa.mk eI
 have fB:=aa.mk eS
 clear eI eS
 have ez:=aa.mk eC
 have fC:=aa.mk eT
 clear eC eT
 have lA:=aa.mk mh
 have pK:=aa.mk oA
 clear mh oA
 have HB:=aa.mk (Below.refl w.heap.size w)
 have H:((aQ.f k aI aD au).bind fun F2=>(if F2=true then (bG.j0 k l1 ((l1.length:Int) !=(aD.length:Int)) aI aD au) else (bG.j0 k l1 true aI aD au)))=some r:=h
 clear h
 have CZ:=aa.mk H
 clear H
 go_enter Try.func112,Try.ntmps112
 go_upto_region 1 with (first|((with_reducible refine bF (N:=2) rfl ?_);(try (refine gB (by rfl) ?_;dsimp only));refine bH ?hg (N:=2) ?hd (cs:=#[.int .i64 aI,.slice bh aD.length bi,.slice bu au.length aW]) (t:=26) ?hr ?_;(case hd=>rfl);(case hg=>rfl);(case hr=>first|(go_simp;done)|(go_simp;rfl));intro ii hg w4 hbox hb;have br:=aa.mk (aE (by repeat (first|(with_reducible first|exact HB.out|apply ae|apply ab|apply af)|exact HB.out)) hb);have bt:=aa.mk (hbox);have bA:=aa.mk ((by rw [hg];exact (az (by repeat (first|(with_reducible first|exact HB.out|apply ae|apply ab|apply af)|exact HB.out))):w.heap.size≤ii));have bK:=aa.mk ((by rw [hg];exact (az (by repeat (first|(with_reducible first|exact HB.out|apply ae|apply ab|apply af)|exact HB.out))):w.heap.size≤ii));clear HB;have HB:=br;have eD:=bt;have L7:=bA;have oP:=bK;clear br bt bA bK;clear hb hbox hg))
 repeat (go_quiet (first|((with_reducible refine bF (N:=2) rfl ?_);(try (refine gB (by rfl) ?_;dsimp only));refine bH ?hg (N:=2) ?hd (cs:=#[.int .i64 aI,.slice bh aD.length bi,.slice bu au.length aW]) (t:=26) ?hr ?_;(case hd=>rfl);(case hg=>rfl);(case hr=>first|(go_simp;done)|(go_simp;rfl));intro ii hg w4 hbox hb;have br:=aa.mk (aE (by repeat (first|(with_reducible first|exact HB.out|apply ae|apply ab|apply af)|exact HB.out)) hb);have bt:=aa.mk (hbox);have bA:=aa.mk ((by rw [hg];exact (az (by repeat (first|(with_reducible first|exact HB.out|apply ae|apply ab|apply af)|exact HB.out))):w.heap.size≤ii));have bK:=aa.mk ((by rw [hg];exact (az (by repeat (first|(with_reducible first|exact HB.out|apply ae|apply ab|apply af)|exact HB.out))):w.heap.size≤ii));clear HB;have HB:=br;have eD:=bt;have L7:=bA;have oP:=bK;clear br bt bA bK;clear hb hbox hg));go_upto_region 1 with (first|((with_reducible refine bF (N:=2) rfl ?_);(try (refine gB (by rfl) ?_;dsimp only));refine bH ?hg (N:=2) ?hd (cs:=#[.int .i64 aI,.slice bh aD.length bi,.slice bu au.length aW]) (t:=26) ?hr ?_;(case hd=>rfl);(case hg=>rfl);(case hr=>first|(go_simp;done)|(go_simp;rfl));intro ii hg w4 hbox hb;have br:=aa.mk (aE (by repeat (first|(with_reducible first|exact HB.out|apply ae|apply ab|apply af)|exact HB.out)) hb);have bt:=aa.mk (hbox);have bA:=aa.mk ((by rw [hg];exact (az (by repeat (first|(with_reducible first|exact HB.out|apply ae|apply ab|apply af)|exact HB.out))):w.heap.size≤ii));have bK:=aa.mk ((by rw [hg];exact (az (by repeat (first|(with_reducible first|exact HB.out|apply ae|apply ab|apply af)|exact HB.out))):w.heap.size≤ii));clear HB;have HB:=br;have eD:=bt;have L7:=bA;have oP:=bK;clear br bt bA bK;clear hb hbox hg)))
 (try simp only [Act.put,dg,dh,di])
 go_cut [16] (fun PP wc=>∃ (kq:Nat) (EN:Bool),PP= .bool EN∧aa (bG.j0 kq l1 EN aI aD au=some r)∧aa (kq≤k)∧aa (wc.heap[ii]? =some (.cells #[.int .i64 aI,(.slice bh aD.length bi),(.slice bu au.length aW)] 26 (0,0)))∧aa (Below w.heap.size w wc))
 case first=>
  have H:=CZ.out
  clear CZ
  replace H:=Option.bind_eq_some_iff.mp H
  obtain ⟨F2,DC,H⟩:=H
  replace H:(if F2=true then (bG.j0 k l1 ((l1.length:Int) !=(aD.length:Int)) aI aD au) else (bG.j0 k l1 true aI aD au))=some r:=H
  have A5:=aa.mk DC
  clear DC
  by_cases c6:F2=true
  ·subst c6
   have H1:(bG.j0 k l1 ((l1.length:Int) !=(aD.length:Int)) aI aD au)=some r:=by rw [if_pos rfl] at H;exact H
   clear H
   have H:=H1
   clear H1
   have H':=aa.mk H
   clear H
   have mX:w4.cell? ⟨ii,0,none⟩=some (.int .i64 aI):=(ag eD.out 0).trans rfl
   have mY:w4.cell? ⟨ii,1,none⟩=some (.slice bh aD.length bi):=(ag eD.out 1).trans rfl
   have mZ:w4.cell? ⟨ii,2,none⟩=some (.slice bu au.length aW):=(ag eD.out 2).trans rfl
   have m5:=ah eD.out 0
   have m6:=ah eD.out 1
   have m7:=ah eD.out 2
   go_wp2_with (first|(go_at_call 85;(with_reducible refine (aQ.calls k aI _ _ aD _ _ au true _ ?bS ?bT ?cJ ?cN A5.out).mono ?_);(case bS=>repeat (first|exact (Kd.aN fA.out HB.out)|(with_reducible refine Kd.aT ?_ _)|(with_reducible refine Kd.aU ?_ _)|(with_reducible refine Kd.bk ?_)));(case bT=>exact fB.out);(case cJ=>repeat (first|exact (Kd.aN ez.out HB.out)|(with_reducible refine Kd.aT ?_ _)|(with_reducible refine Kd.aU ?_ _)|(with_reducible refine Kd.bk ?_)));(case cN=>exact fC.out);rintro e w8 ⟨rfl,hb⟩;have br:=aa.mk (aH (g:=ii) (o:= .cells #[.int .i64 aI,.slice bh aD.length bi,.slice bu au.length aW] 26 (0,0)) (by (with_reducible repeat (first|refine ak ?_ _|refine aq ?_|refine aj ?_ _));exact eD.out) hb);have bt:=aa.mk (aE (by repeat (first|(with_reducible first|exact HB.out|apply ae|apply ab|apply af|refine ai ?_ oP.out)|exact HB.out)) hb);clear eD;clear HB;have eD:=br;have HB:=bt;clear br bt;(try clear hb);(try clear hb2);(try clear hk);(try clear hi);have jP:w8.cell? ⟨ii,0,none⟩=some (.int .i64 aI):=(ag eD.out 0).trans rfl;have jQ:w8.cell? ⟨ii,1,none⟩=some (.slice bh aD.length bi):=(ag eD.out 1).trans rfl;have j9:w8.cell? ⟨ii,2,none⟩=some (.slice bu au.length aW):=(ag eD.out 2).trans rfl;have ke:=ah eD.out 0;have jR:=ah eD.out 1;have kg:=ah eD.out 2))
   repeat (go_quiet (first|(go_at_call 85;(with_reducible refine (aQ.calls k aI _ _ aD _ _ au true _ ?bS ?bT ?cJ ?cN A5.out).mono ?_);(case bS=>repeat (first|exact (Kd.aN fA.out HB.out)|(with_reducible refine Kd.aT ?_ _)|(with_reducible refine Kd.aU ?_ _)|(with_reducible refine Kd.bk ?_)));(case bT=>exact fB.out);(case cJ=>repeat (first|exact (Kd.aN ez.out HB.out)|(with_reducible refine Kd.aT ?_ _)|(with_reducible refine Kd.aU ?_ _)|(with_reducible refine Kd.bk ?_)));(case cN=>exact fC.out);rintro e w8 ⟨rfl,hb⟩;have br:=aa.mk (aH (g:=ii) (o:= .cells #[.int .i64 aI,.slice bh aD.length bi,.slice bu au.length aW] 26 (0,0)) (by (with_reducible repeat (first|refine ak ?_ _|refine aq ?_|refine aj ?_ _));exact eD.out) hb);have bt:=aa.mk (aE (by repeat (first|(with_reducible first|exact HB.out|apply ae|apply ab|apply af|refine ai ?_ oP.out)|exact HB.out)) hb);clear eD;clear HB;have eD:=br;have HB:=bt;clear br bt;(try clear hb);(try clear hb2);(try clear hk);(try clear hi);have jP:w8.cell? ⟨ii,0,none⟩=some (.int .i64 aI):=(ag eD.out 0).trans rfl;have jQ:w8.cell? ⟨ii,1,none⟩=some (.slice bh aD.length bi):=(ag eD.out 1).trans rfl;have j9:w8.cell? ⟨ii,2,none⟩=some (.slice bu au.length aW):=(ag eD.out 2).trans rfl;have ke:=ah eD.out 0;have jR:=ah eD.out 1;have kg:=ah eD.out 2));try go_wp2_with (first|(go_at_call 85;(with_reducible refine (aQ.calls k aI _ _ aD _ _ au true _ ?bS ?bT ?cJ ?cN A5.out).mono ?_);(case bS=>repeat (first|exact (Kd.aN fA.out HB.out)|(with_reducible refine Kd.aT ?_ _)|(with_reducible refine Kd.aU ?_ _)|(with_reducible refine Kd.bk ?_)));(case bT=>exact fB.out);(case cJ=>repeat (first|exact (Kd.aN ez.out HB.out)|(with_reducible refine Kd.aT ?_ _)|(with_reducible refine Kd.aU ?_ _)|(with_reducible refine Kd.bk ?_)));(case cN=>exact fC.out);rintro e w8 ⟨rfl,hb⟩;have br:=aa.mk (aH (g:=ii) (o:= .cells #[.int .i64 aI,.slice bh aD.length bi,.slice bu au.length aW] 26 (0,0)) (by (with_reducible repeat (first|refine ak ?_ _|refine aq ?_|refine aj ?_ _));exact eD.out) hb);have bt:=aa.mk (aE (by repeat (first|(with_reducible first|exact HB.out|apply ae|apply ab|apply af|refine ai ?_ oP.out)|exact HB.out)) hb);clear eD;clear HB;have eD:=br;have HB:=bt;clear br bt;(try clear hb);(try clear hb2);(try clear hk);(try clear hi);have jP:w8.cell? ⟨ii,0,none⟩=some (.int .i64 aI):=(ag eD.out 0).trans rfl;have jQ:w8.cell? ⟨ii,1,none⟩=some (.slice bh aD.length bi):=(ag eD.out 1).trans rfl;have j9:w8.cell? ⟨ii,2,none⟩=some (.slice bu au.length aW):=(ag eD.out 2).trans rfl;have ke:=ah eD.out 0;have jR:=ah eD.out 1;have kg:=ah eD.out 2)))
   go_meet
   case rel=>exact ⟨_,(((l1.length:Int) !=(aD.length:Int))),(by first|rfl|(simp;done)|(simp [*];done)),H',⟨by first|omega|exact Nat.le_refl _⟩,⟨by (with_reducible repeat (first|refine ak ?_ _|refine aq ?_|refine aj ?_ _));exact eD.out⟩,⟨by repeat (first|(with_reducible first|exact HB.out|apply ae|apply ab|apply af|refine ai ?_ oP.out)|exact HB.out)⟩⟩
  replace c6:=Bool.eq_false_iff.mpr c6
  subst c6
  have H1:(bG.j0 k l1 true aI aD au)=some r:=by rw [if_neg (show ¬(false=true) by decide)] at H;exact H
  clear H
  have H:=H1
  clear H1
  have H':=aa.mk H
  clear H
  have EO:w4.cell? ⟨ii,0,none⟩=some (.int .i64 aI):=(ag eD.out 0).trans rfl
  have EP:w4.cell? ⟨ii,1,none⟩=some (.slice bh aD.length bi):=(ag eD.out 1).trans rfl
  have EQ:w4.cell? ⟨ii,2,none⟩=some (.slice bu au.length aW):=(ag eD.out 2).trans rfl
  have ER:=ah eD.out 0
  have ES:=ah eD.out 1
  have ET:=ah eD.out 2
  go_wp2_with (first|(go_at_call 85;(with_reducible refine (aQ.calls k aI _ _ aD _ _ au false _ ?bS ?bT ?cJ ?cN A5.out).mono ?_);(case bS=>repeat (first|exact (Kd.aN fA.out HB.out)|(with_reducible refine Kd.aT ?_ _)|(with_reducible refine Kd.aU ?_ _)|(with_reducible refine Kd.bk ?_)));(case bT=>exact fB.out);(case cJ=>repeat (first|exact (Kd.aN ez.out HB.out)|(with_reducible refine Kd.aT ?_ _)|(with_reducible refine Kd.aU ?_ _)|(with_reducible refine Kd.bk ?_)));(case cN=>exact fC.out);rintro e qW ⟨rfl,hb⟩;have br:=aa.mk (aH (g:=ii) (o:= .cells #[.int .i64 aI,.slice bh aD.length bi,.slice bu au.length aW] 26 (0,0)) (by (with_reducible repeat (first|refine ak ?_ _|refine aq ?_|refine aj ?_ _));exact eD.out) hb);have bt:=aa.mk (aE (by repeat (first|(with_reducible first|exact HB.out|apply ae|apply ab|apply af|refine ai ?_ oP.out)|exact HB.out)) hb);clear eD;clear HB;have eD:=br;have HB:=bt;clear br bt;(try clear hb);(try clear hb2);(try clear hk);(try clear hi)))
  repeat (go_quiet (first|(go_at_call 85;(with_reducible refine (aQ.calls k aI _ _ aD _ _ au false _ ?bS ?bT ?cJ ?cN A5.out).mono ?_);(case bS=>repeat (first|exact (Kd.aN fA.out HB.out)|(with_reducible refine Kd.aT ?_ _)|(with_reducible refine Kd.aU ?_ _)|(with_reducible refine Kd.bk ?_)));(case bT=>exact fB.out);(case cJ=>repeat (first|exact (Kd.aN ez.out HB.out)|(with_reducible refine Kd.aT ?_ _)|(with_reducible refine Kd.aU ?_ _)|(with_reducible refine Kd.bk ?_)));(case cN=>exact fC.out);rintro e qW ⟨rfl,hb⟩;have br:=aa.mk (aH (g:=ii) (o:= .cells #[.int .i64 aI,.slice bh aD.length bi,.slice bu au.length aW] 26 (0,0)) (by (with_reducible repeat (first|refine ak ?_ _|refine aq ?_|refine aj ?_ _));exact eD.out) hb);have bt:=aa.mk (aE (by repeat (first|(with_reducible first|exact HB.out|apply ae|apply ab|apply af|refine ai ?_ oP.out)|exact HB.out)) hb);clear eD;clear HB;have eD:=br;have HB:=bt;clear br bt;(try clear hb);(try clear hb2);(try clear hk);(try clear hi)));try go_wp2_with (first|(go_at_call 85;(with_reducible refine (aQ.calls k aI _ _ aD _ _ au false _ ?bS ?bT ?cJ ?cN A5.out).mono ?_);(case bS=>repeat (first|exact (Kd.aN fA.out HB.out)|(with_reducible refine Kd.aT ?_ _)|(with_reducible refine Kd.aU ?_ _)|(with_reducible refine Kd.bk ?_)));(case bT=>exact fB.out);(case cJ=>repeat (first|exact (Kd.aN ez.out HB.out)|(with_reducible refine Kd.aT ?_ _)|(with_reducible refine Kd.aU ?_ _)|(with_reducible refine Kd.bk ?_)));(case cN=>exact fC.out);rintro e qW ⟨rfl,hb⟩;have br:=aa.mk (aH (g:=ii) (o:= .cells #[.int .i64 aI,.slice bh aD.length bi,.slice bu au.length aW] 26 (0,0)) (by (with_reducible repeat (first|refine ak ?_ _|refine aq ?_|refine aj ?_ _));exact eD.out) hb);have bt:=aa.mk (aE (by repeat (first|(with_reducible first|exact HB.out|apply ae|apply ab|apply af|refine ai ?_ oP.out)|exact HB.out)) hb);clear eD;clear HB;have eD:=br;have HB:=bt;clear br bt;(try clear hb);(try clear hb2);(try clear hk);(try clear hi))))
  go_meet
  case rel=>exact ⟨_,(true),(by first|rfl|(simp;done)|(simp [*];done)),H',⟨by first|omega|exact Nat.le_refl _⟩,⟨by (with_reducible repeat (first|refine ak ?_ _|refine aq ?_|refine aj ?_ _));exact eD.out⟩,⟨by repeat (first|(with_reducible first|exact HB.out|apply ae|apply ab|apply af|refine ai ?_ oP.out)|exact HB.out)⟩⟩
 case rest=>
  clear CZ
  try clear c1
  try clear p2
  try clear c6
  try clear xc
  try clear EO
  try clear EP
  try clear EQ
  try clear mX
  try clear mY
  try clear mZ
  try clear jP
  try clear jQ
  try clear j9
  try clear ER
  try clear ES
  try clear ET
  try clear m5
  try clear m6
  try clear m7
  try clear ke
  try clear jR
  try clear kg
  obtain ⟨kq,EN,rfl,HA,HJ2,eD,HB⟩:=hcut
  cases kq with
  |zero=>exact absurd HA.out (by simp [bG.j0])
  |succ ZT=>
   have H:=HA.out
   clear HA
   simp only [bG.j0] at H
   by_cases sZ:EN=true
   ·subst sZ
    have H1:(some false)=some r:=by rw [if_pos rfl] at H;exact H
    clear H
    have H:=H1
    clear H1
    obtain rfl:=Option.some.inj H
    go_wp2
    repeat (go_quiet (fail);try go_wp2)
    go_ret
    exact ⟨by first|rfl|(simp [bB,bC]<;>rfl)|(simp [*,bB,bC]<;>rfl),by repeat (first|(with_reducible first|exact HB.out|apply ae|apply ab|apply af|refine ai ?_ oP.out)|exact HB.out)⟩
   replace sZ:=Bool.eq_false_iff.mpr sZ
   subst sZ
   have H1:(bG.l0 ZT l1 0 aI aD au)=some r:=by rw [if_neg (show ¬(false=true) by decide)] at H;exact H
   clear H
   have H:=H1
   clear H1
   have H':=aa.mk H
   clear H
   go_wp2
   repeat (go_quiet (fail);try go_wp2)
   go_loopg [5] ZT (fun kq v5 w'=>∃ (iV:Int),v5= .int .i64 iV∧aa (bG.l0 kq l1 iV aI aD au=some r)∧aa (kq≤ZT)∧aa (w'.heap[ii]? =some (.cells #[.int .i64 aI,(.slice bh aD.length bi),(.slice bu au.length aW)] 26 (0,0)))∧aa (Below w.heap.size w w'))
   case atStart=>exact ⟨(0),(by first|rfl|(simp;done)|(simp [*];done)),H',⟨Nat.le_refl _⟩,⟨by (with_reducible repeat (first|refine ak ?_ _|refine aq ?_|refine aj ?_ _));exact eD.out⟩,⟨by repeat (first|(with_reducible first|exact HB.out|apply ae|apply ab|apply af|refine ai ?_ oP.out)|exact HB.out)⟩⟩
   case round=>
    clear H'
    try clear c1
    try clear p2
    try clear c6
    try clear xc
    try clear sZ
    try clear EO
    try clear EP
    try clear EQ
    try clear mX
    try clear mY
    try clear mZ
    try clear jP
    try clear jQ
    try clear j9
    try clear ER
    try clear ES
    try clear ET
    try clear m5
    try clear m6
    try clear m7
    try clear ke
    try clear jR
    try clear kg
    try clear p2
    obtain ⟨iV,rfl,HA,wG,eD,HB⟩:=hrel
    cases gk with
    |zero=>exact absurd HA.out (by simp [bG.l0])
    |succ k2=>
     have H:=HA.out
     clear HA
     simp only [bG.l0] at H
     by_cases oh:iV<(l1.length:Int)
     ·rw [if_pos oh] at H
      have c13b0:decide (iV<(l1.length:Int))=true:=decide_eq_true oh
      clear oh
      by_cases rR:0≤iV
      ·rw [if_pos rR] at H
       have c14b0:decide (0≤iV)=true:=decide_eq_true rR
       clear rR
       replace H:=Option.bind_eq_some_iff.mp H
       obtain ⟨KP,AL,H⟩:=H
       replace H:(if KP=true then (bG.l0 k2 l1 (wrap64 (iV+1)) aI aD au) else (some false))=some r:=H
       have AO:=aa.mk AL
       clear AL
       by_cases sI:KP=true
       ·subst sI
        have H1:(bG.l0 k2 l1 (wrap64 (iV+1)) aI aD au)=some r:=by rw [if_pos rfl] at H;exact H
        clear H
        have H:=H1
        clear H1
        have H':=aa.mk H
        clear H
        have Db:0≤(iV:Int):=of_decide_eq_true (by assumption)
        have Dc:iV<(l1.length:Int):=of_decide_eq_true (by assumption)
        obtain ⟨Ri,Oa,qp⟩:=Kd.dN lA.out iV Db Dc
        cases Oa
        replace qp:=(HB.out.cell (World.block_lt_of_cell? w _ qp)).trans qp
        replace Db:=eq_true Db
        replace Dc:=eq_true Dc
        have KG:wr.cell? ⟨ii,0,none⟩=some (.int .i64 aI):=(ag eD.out 0).trans rfl
        have KH:wr.cell? ⟨ii,1,none⟩=some (.slice bh aD.length bi):=(ag eD.out 1).trans rfl
        have KJ:wr.cell? ⟨ii,2,none⟩=some (.slice bu au.length aW):=(ag eD.out 2).trans rfl
        have KK:=ah eD.out 0
        have KL:=ah eD.out 1
        have KM:=ah eD.out 2
        go_wp2_with (first|(go_at_call 110;(with_reducible refine (bD.calls (rd l1 iV) 0 (wrap64 (aI - 1)) true _ AO.out).mono ?_);rintro e w' ⟨rfl,⟨nd,rfl⟩⟩;(try first|exact ⟨rfl,_,World.drewN_drewN _ _ _⟩|exact ⟨rfl,_,Eq.trans (World.drewN_drewN _ _ _) (congrArg (World.drewN _) (Nat.add_assoc _ _ _))⟩)))
        repeat (go_quiet (first|(go_at_call 110;(with_reducible refine (bD.calls (rd l1 iV) 0 (wrap64 (aI - 1)) true _ AO.out).mono ?_);rintro e w' ⟨rfl,⟨nd,rfl⟩⟩;(try first|exact ⟨rfl,_,World.drewN_drewN _ _ _⟩|exact ⟨rfl,_,Eq.trans (World.drewN_drewN _ _ _) (congrArg (World.drewN _) (Nat.add_assoc _ _ _))⟩)));try go_wp2_with (first|(go_at_call 110;(with_reducible refine (bD.calls (rd l1 iV) 0 (wrap64 (aI - 1)) true _ AO.out).mono ?_);rintro e w' ⟨rfl,⟨nd,rfl⟩⟩;(try first|exact ⟨rfl,_,World.drewN_drewN _ _ _⟩|exact ⟨rfl,_,Eq.trans (World.drewN_drewN _ _ _) (congrArg (World.drewN _) (Nat.add_assoc _ _ _))⟩))))
        go_roundg k2
        case measure=>have:=HJ2.out;have:=wG.out;omega
        case rel=>exact ⟨(wrap64 (iV+1)),(by first|rfl|(simp;done)|(simp [*];done)),H',⟨by have:=HJ2.out;have:=wG.out;omega⟩,⟨by (with_reducible repeat (first|refine ak ?_ _|refine aq ?_|refine aj ?_ _));exact eD.out⟩,⟨by repeat (first|(with_reducible first|exact HB.out|apply ae|apply ab|apply af|refine ai ?_ oP.out)|exact HB.out)⟩⟩
       replace sI:=Bool.eq_false_iff.mpr sI
       subst sI
       have H1:(some false)=some r:=by rw [if_neg (show ¬(false=true) by decide)] at H;exact H
       clear H
       have H:=H1
       clear H1
       obtain rfl:=Option.some.inj H
       have Db:0≤(iV:Int):=of_decide_eq_true (by assumption)
       have Dc:iV<(l1.length:Int):=of_decide_eq_true (by assumption)
       obtain ⟨Ri,Oa,qp⟩:=Kd.dN lA.out iV Db Dc
       cases Oa
       replace qp:=(HB.out.cell (World.block_lt_of_cell? w _ qp)).trans qp
       replace Db:=eq_true Db
       replace Dc:=eq_true Dc
       have y9:wr.cell? ⟨ii,0,none⟩=some (.int .i64 aI):=(ag eD.out 0).trans rfl
       have za:wr.cell? ⟨ii,1,none⟩=some (.slice bh aD.length bi):=(ag eD.out 1).trans rfl
       have zb:wr.cell? ⟨ii,2,none⟩=some (.slice bu au.length aW):=(ag eD.out 2).trans rfl
       have ze:=ah eD.out 0
       have zf:=ah eD.out 1
       have zg:=ah eD.out 2
       go_wp2_with (first|(go_at_call 110;(with_reducible refine (bD.calls (rd l1 iV) 0 (wrap64 (aI - 1)) false _ AO.out).mono ?_);rintro e w' ⟨rfl,⟨nd,rfl⟩⟩;(try first|exact ⟨rfl,_,World.drewN_drewN _ _ _⟩|exact ⟨rfl,_,Eq.trans (World.drewN_drewN _ _ _) (congrArg (World.drewN _) (Nat.add_assoc _ _ _))⟩)))
       repeat (go_quiet (first|(go_at_call 110;(with_reducible refine (bD.calls (rd l1 iV) 0 (wrap64 (aI - 1)) false _ AO.out).mono ?_);rintro e w' ⟨rfl,⟨nd,rfl⟩⟩;(try first|exact ⟨rfl,_,World.drewN_drewN _ _ _⟩|exact ⟨rfl,_,Eq.trans (World.drewN_drewN _ _ _) (congrArg (World.drewN _) (Nat.add_assoc _ _ _))⟩)));try go_wp2_with (first|(go_at_call 110;(with_reducible refine (bD.calls (rd l1 iV) 0 (wrap64 (aI - 1)) false _ AO.out).mono ?_);rintro e w' ⟨rfl,⟨nd,rfl⟩⟩;(try first|exact ⟨rfl,_,World.drewN_drewN _ _ _⟩|exact ⟨rfl,_,Eq.trans (World.drewN_drewN _ _ _) (congrArg (World.drewN _) (Nat.add_assoc _ _ _))⟩))))
       go_ret
       exact ⟨by first|rfl|(simp [bB,bC]<;>rfl)|(simp [*,bB,bC]<;>rfl),by repeat (first|(with_reducible first|exact HB.out|apply ae|apply ab|apply af|refine ai ?_ oP.out)|exact HB.out)⟩
      rw [if_neg rR] at H
      exact absurd H (by simp)
     rw [if_neg oh] at H
     have c13b0:decide (iV<(l1.length:Int))=false:=decide_eq_false oh
     clear oh
     obtain rfl:=Option.some.inj H
     go_wp2
     repeat (go_quiet (fail);try go_wp2)
     go_ret
     exact ⟨by first|rfl|(simp [bB,bC]<;>rfl)|(simp [*,bB,bC]<;>rfl),by repeat (first|(with_reducible first|exact HB.out|apply ae|apply ab|apply af|refine ai ?_ oP.out)|exact HB.out)⟩
def gx.f (a0:Int) (a1:Int):Option (Int):=if a1<1 then (some 0) else (if a1=0 then (none) else (if (Int.tmod a0 a1)<0 then (some (wrap64 ((Int.tmod a0 a1)+a1))) else (some (Int.tmod a0 a1))))
set_option maxHeartbeats 8000000 in
set_option maxRecDepth 100000 in
theorem gx.calls (a0:Int) (a1:Int) (r:Int) (w:World) (h:gx.f a0 a1=some r):
  Calls Try.prog 44 #[.int .i64 a0,.int .i64 a1] w fun e w'=>e= .returned (.int .i64 r)∧dD w w':=by
 have H:(if a1<1 then (some 0) else (if a1=0 then (none) else (if (Int.tmod a0 a1)<0 then (some (wrap64 ((Int.tmod a0 a1)+a1))) else (some (Int.tmod a0 a1)))))=some r:=h
 clear h
 by_cases c3:a1<1
 ·rw [if_pos c3] at H
  have c3b0:decide (a1<1)=true:=decide_eq_true c3
  clear c3
  obtain rfl:=Option.some.inj H
  go_enter Try.func44,Try.ntmps44
  go_wp2
  go_ret
  exact ⟨by first|rfl|(simp;done)|(simp [*];done),by repeat (first|exact dD.refl _|apply dD.step)⟩
 rw [if_neg c3] at H
 have c3b0:decide (a1<1)=false:=decide_eq_false c3
 clear c3
 by_cases c4:a1=0
 ·rw [if_pos c4] at H
  exact absurd H (by simp)
 rw [if_neg c4] at H
 have c4b0:(a1==0)=false:=beq_eq_false_iff_ne.mpr c4
 have c4b1:(a1 !=0)=true:=bne_iff_ne.mpr c4
 by_cases c5:(Int.tmod a0 a1)<0
 ·rw [if_pos c5] at H
  have c5b0:decide ((Int.tmod a0 a1)<0)=true:=decide_eq_true c5
  clear c5
  obtain rfl:=Option.some.inj H
  go_enter Try.func44,Try.ntmps44
  go_wp2
  go_ret
  exact ⟨by first|rfl|(simp;done)|(simp [*];done),by repeat (first|exact dD.refl _|apply dD.step)⟩
 rw [if_neg c5] at H
 have c5b0:decide ((Int.tmod a0 a1)<0)=false:=decide_eq_false c5
 clear c5
 obtain rfl:=Option.some.inj H
 go_enter Try.func44,Try.ntmps44
 go_wp2
 go_ret
 exact ⟨by first|rfl|(simp;done)|(simp [*];done),by repeat (first|exact dD.refl _|apply dD.step)⟩
def da.l0:Nat→List Int→List Int→Int→Int→Option (Bool)
 |0,_,_,_,_=>none
 |k+1,x0,x1,x12,IY=>if IY<x12 then (if 0≤IY then (if IY<(x0.length:Int) then (if IY<(x1.length:Int) then (if (rd x0 IY)=(rd x1 IY) then (da.l0 k x0 x1 x12 (wrap64 (IY+1))) else (some false)) else (none)) else (none)) else (none)) else (some true)
def da.f (k:Nat) (l0:List Int) (l1:List Int):Option (Bool):=if (l0.length:Int)=(l1.length:Int) then (da.l0 k l0 l1 (l0.length:Int) 0) else (some false)
set_option maxHeartbeats 8000000 in
set_option maxRecDepth 100000 in
theorem da.calls (k:Nat) (A0:Option Addr) (c0:Nat) (l0:List Int) (A1:Option Addr) (c1:Nat) (l1:List Int) (r:Bool) (w:World) (hr0:Kd.C (Kd.int .i64) w A0 l0.length l0) (hc0:l0.length≤c0) (mh:Kd.C (Kd.int .i64) w A1 l1.length l1) (oA:l1.length≤c1) (h:da.f k l0 l1=some r):
  Calls Try.prog 50 #[.slice A0 l0.length c0,.slice A1 l1.length c1] w fun e w'=>e= .returned (.bool r)∧dD w w':=by
 have xJ:=aa.mk hr0
 have Fu:=aa.mk hc0
 clear hr0 hc0
 have lA:=aa.mk mh
 have pK:=aa.mk oA
 clear mh oA
 have H:(if (l0.length:Int)=(l1.length:Int) then (da.l0 k l0 l1 (l0.length:Int) 0) else (some false))=some r:=h
 clear h
 by_cases c3:(l0.length:Int)=(l1.length:Int)
 ·rw [if_pos c3] at H
  have c3b0:((l0.length:Int)==(l1.length:Int))=true:=beq_iff_eq.mpr c3
  have c3b1:((l0.length:Int) !=(l1.length:Int))=false:=bne_eq_false_iff_eq.mpr c3
  have c3b2:(l0.length==l1.length)=true:=by first|simpa using c3|(simp at c3 ⊢;omega)
  clear c3
  have H':=aa.mk H
  clear H
  go_enter Try.func50,Try.ntmps50
  go_wp2
  repeat (go_quiet (fail);try go_wp2)
  go_loopg [13] k (fun kq v13 w'=>∃ (iH:Int),v13= .int .i64 iH∧aa (da.l0 kq l0 l1 (l0.length:Int) iH=some r)∧aa (kq≤k)∧dD w w')
  case atStart=>exact ⟨(0),(by first|rfl|(simp;done)|(simp [*];done)),H',⟨Nat.le_refl _⟩,by repeat (first|exact dD.refl _|apply dD.step)⟩
  case round=>
   clear H'
   try clear c1
   try clear p2
   try clear c3
   try clear c3b0
   try clear c3b1
   try clear c3b2
   obtain ⟨iH,rfl,HA,lw,⟨m1,rfl⟩⟩:=hrel
   cases gk with
   |zero=>exact absurd HA.out (by simp [da.l0])
   |succ k1=>
    have H:=HA.out
    clear HA
    simp only [da.l0] at H
    by_cases c4:iH<(l0.length:Int)
    ·rw [if_pos c4] at H
     have c4b0:decide (iH<(l0.length:Int))=true:=decide_eq_true c4
     clear c4
     by_cases c5:0≤iH
     ·rw [if_pos c5] at H
      have c5b0:decide (0≤iH)=true:=decide_eq_true c5
      clear c5
      by_cases c6:iH<(l0.length:Int)
      ·rw [if_pos c6] at H
       have c6b0:decide (iH<(l0.length:Int))=true:=decide_eq_true c6
       clear c6
       by_cases c7:iH<(l1.length:Int)
       ·rw [if_pos c7] at H
        have c7b0:decide (iH<(l1.length:Int))=true:=decide_eq_true c7
        clear c7
        by_cases c8:(rd l0 iH)=(rd l1 iH)
        ·rw [if_pos c8] at H
         have c8b0:((rd l0 iH)==(rd l1 iH))=true:=beq_iff_eq.mpr c8
         have c8b1:((rd l0 iH) !=(rd l1 iH))=false:=bne_eq_false_iff_eq.mpr c8
         clear c8
         have H':=aa.mk H
         clear H
         have Dd:0≤(iH:Int):=of_decide_eq_true (by assumption)
         have De:iH<(l0.length:Int):=of_decide_eq_true (by assumption)
         obtain ⟨Rj,Ob,KQ⟩:=Kd.dN xJ.out iH Dd De
         cases Ob
         replace Dd:=eq_true Dd
         replace De:=eq_true De
         have Df:0≤(iH:Int):=of_decide_eq_true (by assumption)
         have Dg:iH<(l1.length:Int):=of_decide_eq_true (by assumption)
         obtain ⟨Rk,Oc,KR⟩:=Kd.dN lA.out iH Df Dg
         cases Oc
         replace Df:=eq_true Df
         replace Dg:=eq_true Dg
         go_wp2
         repeat (go_quiet (fail);try go_wp2)
         go_roundg k1
         case measure=>have:=lw.out;omega
         case rel=>exact ⟨(wrap64 (iH+1)),(by first|rfl|(simp;done)|(simp [*];done)),H',⟨by have:=lw.out;omega⟩,by repeat (first|exact dD.refl _|apply dD.step)⟩
        rw [if_neg c8] at H
        have c8b0:((rd l0 iH)==(rd l1 iH))=false:=beq_eq_false_iff_ne.mpr c8
        have c8b1:((rd l0 iH) !=(rd l1 iH))=true:=bne_iff_ne.mpr c8
        obtain rfl:=Option.some.inj H
        have Dd:0≤(iH:Int):=of_decide_eq_true (by assumption)
        have De:iH<(l0.length:Int):=of_decide_eq_true (by assumption)
        obtain ⟨Rj,Ob,KQ⟩:=Kd.dN xJ.out iH Dd De
        cases Ob
        replace Dd:=eq_true Dd
        replace De:=eq_true De
        have Df:0≤(iH:Int):=of_decide_eq_true (by assumption)
        have Dg:iH<(l1.length:Int):=of_decide_eq_true (by assumption)
        obtain ⟨Rk,Oc,KR⟩:=Kd.dN lA.out iH Df Dg
        cases Oc
        replace Df:=eq_true Df
        replace Dg:=eq_true Dg
        go_wp2
        repeat (go_quiet (fail);try go_wp2)
        go_ret
        exact ⟨by first|rfl|(simp;done)|(simp [*];done),by repeat (first|exact dD.refl _|apply dD.step)⟩
       rw [if_neg c7] at H
       exact absurd H (by simp)
      rw [if_neg c6] at H
      exact absurd H (by simp)
     rw [if_neg c5] at H
     exact absurd H (by simp)
    rw [if_neg c4] at H
    have c4b0:decide (iH<(l0.length:Int))=false:=decide_eq_false c4
    clear c4
    obtain rfl:=Option.some.inj H
    go_wp2
    repeat (go_quiet (fail);try go_wp2)
    go_ret
    exact ⟨by first|rfl|(simp;done)|(simp [*];done),by repeat (first|exact dD.refl _|apply dD.step)⟩
 rw [if_neg c3] at H
 have c3b0:((l0.length:Int)==(l1.length:Int))=false:=beq_eq_false_iff_ne.mpr c3
 have c3b1:((l0.length:Int) !=(l1.length:Int))=true:=bne_iff_ne.mpr c3
 have c3b2:(l0.length==l1.length)=false:=by first|simpa using c3|(simp at c3 ⊢;omega)
 obtain rfl:=Option.some.inj H
 go_enter Try.func50,Try.ntmps50
 go_wp2
 repeat (go_quiet (fail);try go_wp2)
 go_ret
 exact ⟨by first|rfl|(simp;done)|(simp [*];done),by repeat (first|exact dD.refl _|apply dD.step)⟩
end Go.Proofs.Ytbkjplomoegbdaa.PB
