/- Parts of the proof of CyclesSums, gathered by a program of this claim out of texts that it or the kit's print wrote: lemmas alone, no condition of their own. -/
import Derived.Test.YtbkjplomoegbdaaCcs8
namespace Go.Proofs.Ytbkjplomoegbdaa.PB
open Go.RowKit Go.Proofs.YtbkjplomoegbdaaW.bO Go.Proofs.YtbkjplomoegbdaaW.dA Go.Proofs.YtbkjplomoegbdaaW.dG
attribute [local go_sem] iQ iR jM jN gW gX iS iT
set_option linter.unusedVariables false
set_option linter.unusedSimpArgs false
mutual
def aQ.j0:Nat→Bool→Int→List (hO)→List (eu)→Option (Bool)
 |0,_,_,_,_=>none
 |k+1,x20,vE,tE,ku=>if x20=true then (some false) else (aQ.l0 k 0 vE tE ku)
def aQ.l0:Nat→Int→Int→List (hO)→List (eu)→Option (Bool)
 |0,_,_,_,_=>none
 |k+1,x3,vE,tE,ku=>if x3<(ku.length:Int) then (if 0≤x3 then ((bD.f ((aC ku x3).f1) 0 (wrap64 ((tE.length:Int) - 1))).bind fun JS=>(if JS=true then ((bD.f ((aC ku x3).f2) 0 (wrap64 ((tE.length:Int) - 1))).bind fun Bw=>(if Bw=true then (if ((aC ku x3).f1)=((aC ku x3).f2) then (some false) else (if ((aC ku x3).f3)<(-65536) then (some false) else (if ((aC ku x3).f4)>65536 then (some false) else (if ((aC ku x3).f3)>((aC ku x3).f4) then (some false) else (if (wrap64 (((aC ku x3).f4) - ((aC ku x3).f3)))≥vE then (some false) else ((bD.f ((aC ku x3).f5) 0 1048576).bind fun vo=>(if vo=true then (aQ.l0 k (wrap64 (x3+1)) vE tE ku) else (some false)))))))) else (some false))) else (some false))) else (none)) else (some true)
end
def aQ.f (k:Nat) (aI:Int) (aD:List (hO)) (au:List (eu)):Option (Bool):=(bD.f aI 2 7200).bind fun FW=>(if FW=true then (if (aD.length:Int)>48 then (aQ.j0 k true aI aD au) else (aQ.j0 k (decide ((au.length:Int)>512)) aI aD au)) else (aQ.j0 k true aI aD au))
set_option maxHeartbeats 8000000 in
set_option maxRecDepth 100000 in
theorem aQ.calls (k:Nat) (aI:Int) (bh:Option Addr) (bi:Nat) (aD:List (hO)) (bu:Option Addr) (aW:Nat) (au:List (eu)) (r:Bool) (w:World) (eI:Kd.C oS w bh aD.length aD) (eS:aD.length≤bi) (eC:Kd.C nD w bu au.length au) (eT:au.length≤aW) (h:aQ.f k aI aD au=some r):
  Calls Try.prog 85 #[.agg #[.int .i64 aI,.slice bh aD.length bi,.slice bu au.length aW]] w fun e w'=>e= .returned (.bool r)∧Below w.heap.size w w':=by
 have nu:=Try.underlying26
 have sj:=Try.underlying36
 have fA:=aa.mk eI
 have fB:=aa.mk eS
 clear eI eS
 have ez:=aa.mk eC
 have fC:=aa.mk eT
 clear eC eT
 have HB:=aa.mk (Below.refl w.heap.size w)
 have H:((bD.f aI 2 7200).bind fun FW=>(if FW=true then (if (aD.length:Int)>48 then (aQ.j0 k true aI aD au) else (aQ.j0 k (decide ((au.length:Int)>512)) aI aD au)) else (aQ.j0 k true aI aD au)))=some r:=h
 clear h
 have lm:=aa.mk H
 clear H
 go_enter Try.func85,Try.ntmps85
 go_upto_region 1 with (first|((with_reducible refine bF (N:=1) rfl ?_);(try (refine gB (by rfl) ?_;dsimp only));refine bH ?hg (N:=1) ?hd (cs:=#[.int .i64 aI,.slice bh aD.length bi,.slice bu au.length aW]) (t:=26) ?hr ?_;(case hd=>rfl);(case hg=>rfl);(case hr=>first|(go_simp;done)|(go_simp;rfl));intro cR hg w3 hbox hb;have br:=aa.mk (aE (by repeat (first|(with_reducible first|exact HB.out|apply ae|apply ab|apply af)|exact HB.out)) hb);have bt:=aa.mk (hbox);have bA:=aa.mk ((by rw [hg];exact (az (by repeat (first|(with_reducible first|exact HB.out|apply ae|apply ab|apply af)|exact HB.out))):w.heap.size≤cR));have bK:=aa.mk ((by rw [hg];exact (az (by repeat (first|(with_reducible first|exact HB.out|apply ae|apply ab|apply af)|exact HB.out))):w.heap.size≤cR));clear HB;have HB:=br;have bR:=bt;have abG:=bA;have gM:=bK;clear br bt bA bK;clear hb hbox hg))
 (try simp only [Act.put,dg,dh,di])
 go_cut [20] (fun Zm wc=>∃ (kq:Nat) (j4:Bool),Zm= .bool j4∧aa (aQ.j0 kq j4 aI aD au=some r)∧aa (kq≤k)∧aa (wc.heap[cR]? =some (.cells #[.int .i64 aI,(.slice bh aD.length bi),(.slice bu au.length aW)] 26 (0,0)))∧aa (Below w.heap.size w wc))
 case first=>
  have H:=lm.out
  clear lm
  replace H:=Option.bind_eq_some_iff.mp H
  obtain ⟨FW,yK,H⟩:=H
  replace H:(if FW=true then (if (aD.length:Int)>48 then (aQ.j0 k true aI aD au) else (aQ.j0 k (decide ((au.length:Int)>512)) aI aD au)) else (aQ.j0 k true aI aD au))=some r:=H
  have A4:=aa.mk yK
  clear yK
  by_cases c5:FW=true
  ·subst c5
   have H1:(if (aD.length:Int)>48 then (aQ.j0 k true aI aD au) else (aQ.j0 k (decide ((au.length:Int)>512)) aI aD au))=some r:=by rw [if_pos rfl] at H;exact H
   clear H
   have H:=H1
   clear H1
   by_cases c6:(aD.length:Int)>48
   ·rw [if_pos c6] at H
    have c6b0:decide (48<(aD.length:Int))=true:=decide_eq_true c6
    have c6b1:decide (48<aD.length)=true:=decide_eq_true (by omega)
    clear c6
    (first|rw [c6b0]|(simp only [aY,a9];rw [c6b0])|skip)
    have H':=aa.mk H
    clear H
    have mX:w3.cell? ⟨cR,0,none⟩=some (.int .i64 aI):=(ag bR.out 0).trans rfl
    have mY:w3.cell? ⟨cR,1,none⟩=some (.slice bh aD.length bi):=(ag bR.out 1).trans rfl
    have mZ:w3.cell? ⟨cR,2,none⟩=some (.slice bu au.length aW):=(ag bR.out 2).trans rfl
    have m5:=ah bR.out 0
    have m6:=ah bR.out 1
    have m7:=ah bR.out 2
    go_wp2_with (first|((with_reducible refine bY (f:=110) rfl ?_);refine er (some 7) rfl rfl Try.func110 (by kernel_rfl) rfl #[.int .i64 aI,.int .i64 2,.int .i64 7200] rfl (by (try simp only [List.map_toArray,List.map_cons,List.map_nil]);first|done|rfl|(simp only [List.length_drop,List.length_take];rfl)) ?_;(with_reducible refine (bD.calls aI 2 7200 true _ A4.out).mono ?_);rintro e w' ⟨rfl,⟨nd,rfl⟩⟩;refine ⟨_,rfl, ?_⟩))
    go_meet
    case rel=>exact ⟨_,(true),(by first|rfl|(simp;done)|(simp [*];done)),H',⟨by first|omega|exact Nat.le_refl _⟩,⟨by (with_reducible repeat (first|refine ak ?_ _|refine aq ?_|refine aj ?_ _));exact bR.out⟩,⟨by repeat (first|(with_reducible first|exact HB.out|apply ae|apply ab|apply af|refine ai ?_ gM.out)|exact HB.out)⟩⟩
   rw [if_neg c6] at H
   have c6b0:decide (48<(aD.length:Int))=false:=decide_eq_false c6
   have c6b1:decide (48<aD.length)=false:=decide_eq_false (by omega)
   clear c6
   (first|rw [c6b0]|(simp only [aY,a9];rw [c6b0])|skip)
   have H':=aa.mk H
   clear H
   have yZ:w3.cell? ⟨cR,0,none⟩=some (.int .i64 aI):=(ag bR.out 0).trans rfl
   have y4:w3.cell? ⟨cR,1,none⟩=some (.slice bh aD.length bi):=(ag bR.out 1).trans rfl
   have y5:w3.cell? ⟨cR,2,none⟩=some (.slice bu au.length aW):=(ag bR.out 2).trans rfl
   have y6:=ah bR.out 0
   have y7:=ah bR.out 1
   have y8:=ah bR.out 2
   go_wp2_with (first|((with_reducible refine bY (f:=110) rfl ?_);refine er (some 7) rfl rfl Try.func110 (by kernel_rfl) rfl #[.int .i64 aI,.int .i64 2,.int .i64 7200] rfl (by (try simp only [List.map_toArray,List.map_cons,List.map_nil]);first|done|rfl|(simp only [List.length_drop,List.length_take];rfl)) ?_;(with_reducible refine (bD.calls aI 2 7200 true _ A4.out).mono ?_);rintro e w' ⟨rfl,⟨nd,rfl⟩⟩;refine ⟨_,rfl, ?_⟩))
   go_meet
   case rel=>exact ⟨_,(decide ((au.length:Int)>512)),(by first|rfl|(simp;done)|(simp [*];done)),H',⟨by first|omega|exact Nat.le_refl _⟩,⟨by (with_reducible repeat (first|refine ak ?_ _|refine aq ?_|refine aj ?_ _));exact bR.out⟩,⟨by repeat (first|(with_reducible first|exact HB.out|apply ae|apply ab|apply af|refine ai ?_ gM.out)|exact HB.out)⟩⟩
  replace c5:=Bool.eq_false_iff.mpr c5
  subst c5
  have H1:(aQ.j0 k true aI aD au)=some r:=by rw [if_neg (show ¬(false=true) by decide)] at H;exact H
  clear H
  have H:=H1
  clear H1
  have H':=aa.mk H
  clear H
  have jP:w3.cell? ⟨cR,0,none⟩=some (.int .i64 aI):=(ag bR.out 0).trans rfl
  have jQ:w3.cell? ⟨cR,1,none⟩=some (.slice bh aD.length bi):=(ag bR.out 1).trans rfl
  have j9:w3.cell? ⟨cR,2,none⟩=some (.slice bu au.length aW):=(ag bR.out 2).trans rfl
  have ke:=ah bR.out 0
  have jR:=ah bR.out 1
  have kg:=ah bR.out 2
  go_wp2_with (first|((with_reducible refine bY (f:=110) rfl ?_);refine er (some 7) rfl rfl Try.func110 (by kernel_rfl) rfl #[.int .i64 aI,.int .i64 2,.int .i64 7200] rfl (by (try simp only [List.map_toArray,List.map_cons,List.map_nil]);first|done|rfl|(simp only [List.length_drop,List.length_take];rfl)) ?_;(with_reducible refine (bD.calls aI 2 7200 false _ A4.out).mono ?_);rintro e w' ⟨rfl,⟨nd,rfl⟩⟩;refine ⟨_,rfl, ?_⟩))
  go_meet
  case rel=>exact ⟨_,(true),(by first|rfl|(simp;done)|(simp [*];done)),H',⟨by first|omega|exact Nat.le_refl _⟩,⟨by (with_reducible repeat (first|refine ak ?_ _|refine aq ?_|refine aj ?_ _));exact bR.out⟩,⟨by repeat (first|(with_reducible first|exact HB.out|apply ae|apply ab|apply af|refine ai ?_ gM.out)|exact HB.out)⟩⟩
 case rest=>
  clear lm
  try clear c1
  try clear p2
  try clear c5
  try clear c6
  try clear c6b0
  try clear c6b1
  try clear c8
  try clear mX
  try clear mY
  try clear mZ
  try clear yZ
  try clear y4
  try clear y5
  try clear jP
  try clear jQ
  try clear j9
  try clear m5
  try clear m6
  try clear m7
  try clear y6
  try clear y7
  try clear y8
  try clear ke
  try clear jR
  try clear kg
  obtain ⟨kq,j4,rfl,HA,HJ1,bR,HB⟩:=hcut
  cases kq with
  |zero=>exact absurd HA.out (by simp [aQ.j0])
  |succ Zn=>
   have H:=HA.out
   clear HA
   simp only [aQ.j0] at H
   by_cases uq:j4=true
   ·subst uq
    have H1:(some false)=some r:=by rw [if_pos rfl] at H;exact H
    clear H
    have H:=H1
    clear H1
    obtain rfl:=Option.some.inj H
    go_wp2
    go_ret
    exact ⟨by first|rfl|(simp [bB,bC]<;>rfl)|(simp [*,bB,bC]<;>rfl),by repeat (first|(with_reducible first|exact HB.out|apply ae|apply ab|apply af|refine ai ?_ gM.out)|exact HB.out)⟩
   replace uq:=Bool.eq_false_iff.mpr uq
   subst uq
   have H1:(aQ.l0 Zn 0 aI aD au)=some r:=by rw [if_neg (show ¬(false=true) by decide)] at H;exact H
   clear H
   have H:=H1
   clear H1
   have H':=aa.mk H
   clear H
   go_wp2
   go_loopg [3] Zn (fun kq v3 w'=>∃ (dH:Int),v3= .int .i64 dH∧aa (aQ.l0 kq dH aI aD au=some r)∧aa (kq≤Zn)∧aa (w'.heap[cR]? =some (.cells #[.int .i64 aI,(.slice bh aD.length bi),(.slice bu au.length aW)] 26 (0,0)))∧aa (Below w.heap.size w w'))
   case atStart=>exact ⟨(0),(by first|rfl|(simp;done)|(simp [*];done)),H',⟨Nat.le_refl _⟩,⟨by (with_reducible repeat (first|refine ak ?_ _|refine aq ?_|refine aj ?_ _));exact bR.out⟩,⟨by repeat (first|(with_reducible first|exact HB.out|apply ae|apply ab|apply af|refine ai ?_ gM.out)|exact HB.out)⟩⟩
   case round=>
    clear H'
    try clear c1
    try clear p2
    try clear c5
    try clear c6
    try clear c6b0
    try clear c6b1
    try clear c8
    try clear uq
    try clear mX
    try clear mY
    try clear mZ
    try clear yZ
    try clear y4
    try clear y5
    try clear jP
    try clear jQ
    try clear j9
    try clear m5
    try clear m6
    try clear m7
    try clear y6
    try clear y7
    try clear y8
    try clear ke
    try clear jR
    try clear kg
    try clear p2
    obtain ⟨dH,rfl,HA,wG,bR,HB⟩:=hrel
    cases gk with
    |zero=>exact absurd HA.out (by simp [aQ.l0])
    |succ k2=>
     have H:=HA.out
     clear HA
     simp only [aQ.l0] at H
     by_cases xc:dH<(au.length:Int)
     ·rw [if_pos xc] at H
      have c11b0:decide (dH<(au.length:Int))=true:=decide_eq_true xc
      clear xc
      by_cases sZ:0≤dH
      ·rw [if_pos sZ] at H
       have c12b0:decide (0≤dH)=true:=decide_eq_true sZ
       clear sZ
       replace H:=Option.bind_eq_some_iff.mp H
       obtain ⟨JS,HU,H⟩:=H
       replace H:(if JS=true then ((bD.f ((aC au dH).f2) 0 (wrap64 ((aD.length:Int) - 1))).bind fun Bw=>(if Bw=true then (if ((aC au dH).f1)=((aC au dH).f2) then (some false) else (if ((aC au dH).f3)<(-65536) then (some false) else (if ((aC au dH).f4)>65536 then (some false) else (if ((aC au dH).f3)>((aC au dH).f4) then (some false) else (if (wrap64 (((aC au dH).f4) - ((aC au dH).f3)))≥aI then (some false) else ((bD.f ((aC au dH).f5) 0 1048576).bind fun vo=>(if vo=true then (aQ.l0 k2 (wrap64 (dH+1)) aI aD au) else (some false)))))))) else (some false))) else (some false))=some r:=H
       have HV:=aa.mk HU
       clear HU
       by_cases rR:JS=true
       ·subst rR
        have H1:((bD.f ((aC au dH).f2) 0 (wrap64 ((aD.length:Int) - 1))).bind fun Bw=>(if Bw=true then (if ((aC au dH).f1)=((aC au dH).f2) then (some false) else (if ((aC au dH).f3)<(-65536) then (some false) else (if ((aC au dH).f4)>65536 then (some false) else (if ((aC au dH).f3)>((aC au dH).f4) then (some false) else (if (wrap64 (((aC au dH).f4) - ((aC au dH).f3)))≥aI then (some false) else ((bD.f ((aC au dH).f5) 0 1048576).bind fun vo=>(if vo=true then (aQ.l0 k2 (wrap64 (dH+1)) aI aD au) else (some false)))))))) else (some false)))=some r:=by rw [if_pos rfl] at H;exact H
        clear H
        have H:=H1
        clear H1
        replace H:=Option.bind_eq_some_iff.mp H
        obtain ⟨Bw,AL,H⟩:=H
        replace H:(if Bw=true then (if ((aC au dH).f1)=((aC au dH).f2) then (some false) else (if ((aC au dH).f3)<(-65536) then (some false) else (if ((aC au dH).f4)>65536 then (some false) else (if ((aC au dH).f3)>((aC au dH).f4) then (some false) else (if (wrap64 (((aC au dH).f4) - ((aC au dH).f3)))≥aI then (some false) else ((bD.f ((aC au dH).f5) 0 1048576).bind fun vo=>(if vo=true then (aQ.l0 k2 (wrap64 (dH+1)) aI aD au) else (some false)))))))) else (some false))=some r:=H
        have AO:=aa.mk AL
        clear AL
        by_cases sI:Bw=true
        ·subst sI
         have H1:(if ((aC au dH).f1)=((aC au dH).f2) then (some false) else (if ((aC au dH).f3)<(-65536) then (some false) else (if ((aC au dH).f4)>65536 then (some false) else (if ((aC au dH).f3)>((aC au dH).f4) then (some false) else (if (wrap64 (((aC au dH).f4) - ((aC au dH).f3)))≥aI then (some false) else ((bD.f ((aC au dH).f5) 0 1048576).bind fun vo=>(if vo=true then (aQ.l0 k2 (wrap64 (dH+1)) aI aD au) else (some false))))))))=some r:=by rw [if_pos rfl] at H;exact H
         clear H
         have H:=H1
         clear H1
         by_cases qf:((aC au dH).f1)=((aC au dH).f2)
         ·rw [if_pos qf] at H
          have c17b0:(((aC au dH).f1)==((aC au dH).f2))=true:=beq_iff_eq.mpr qf
          have c17b1:(((aC au dH).f1) !=((aC au dH).f2))=false:=bne_eq_false_iff_eq.mpr qf
          clear qf
          obtain rfl:=Option.some.inj H
          have y9:wr.cell? ⟨cR,0,none⟩=some (.int .i64 aI):=(ag bR.out 0).trans rfl
          have za:wr.cell? ⟨cR,1,none⟩=some (.slice bh aD.length bi):=(ag bR.out 1).trans rfl
          have zb:wr.cell? ⟨cR,2,none⟩=some (.slice bu au.length aW):=(ag bR.out 2).trans rfl
          have ze:=ah bR.out 0
          have zf:=ah bR.out 1
          have zg:=ah bR.out 2
          have kQ:0≤(dH:Int):=of_decide_eq_true (by assumption)
          have kR:dH<(au.length:Int):=of_decide_eq_true (by assumption)
          obtain ⟨gE,qZ,eU,eV,eW,eX,eY,eZ⟩:=i9 ez.out dH kQ kR
          cases qZ
          replace eU:=(HB.out.cell (World.block_lt_of_cell? w _ eU)).trans eU
          replace eV:=(HB.out.cell (World.block_lt_of_cell? w _ eV)).trans eV
          replace eW:=(HB.out.cell (World.block_lt_of_cell? w _ eW)).trans eW
          replace eX:=(HB.out.cell (World.block_lt_of_cell? w _ eX)).trans eX
          replace eY:=(HB.out.cell (World.block_lt_of_cell? w _ eY)).trans eY
          replace eZ:=(HB.out.cell (World.block_lt_of_cell? w _ eZ)).trans eZ
          replace kQ:=eq_true kQ
          replace kR:=eq_true kR
          go_wp2_with (first|((with_reducible refine bF (N:=4) rfl ?_);(try (refine gB (by rfl) ?_;dsimp only));refine bH ?hg (N:=4) ?hd (cs:=#[.int .i64 0,.int .i64 0,.int .i64 0,.int .i64 0,.int .i64 0,.int .i64 0]) (t:=36) ?hr ?_;(case hd=>rfl);(case hg=>rfl);(case hr=>first|(go_simp;done)|(go_simp;rfl));intro dC hg Fw hbox hb;have br:=aa.mk (aH (g:=cR) (o:= .cells #[.int .i64 aI,.slice bh aD.length bi,.slice (some gE) au.length aW] 26 (0,0)) (by (with_reducible repeat (first|refine ak ?_ _|refine aq ?_|refine aj ?_ _));exact bR.out) hb);have bt:=aa.mk (aE (by repeat (first|(with_reducible first|exact HB.out|apply ae|apply ab|apply af|refine ai ?_ gM.out)|exact HB.out)) hb);have bA:=aa.mk (hbox);have bK:=aa.mk ((by rw [hg];exact (az (by repeat (first|(with_reducible first|exact HB.out|apply ae|apply ab|apply af|refine ai ?_ gM.out)|exact HB.out))):w.heap.size≤dC));have cL:=aa.mk ((by rw [hg];exact (az (by repeat (first|(with_reducible first|exact HB.out|apply ae|apply ab|apply af|refine ai ?_ gM.out)|exact HB.out))):w.heap.size≤dC));have dc:=aa.mk ((by rw [hg];exact Nat.ne_of_lt (cn (g:=cR) (o:= .cells #[.int .i64 aI,.slice bh aD.length bi,.slice (some gE) au.length aW] 26 (0,0)) (by (with_reducible repeat (first|refine ak ?_ _|refine aq ?_|refine aj ?_ _));exact bR.out)):cR≠dC));have dQ:=aa.mk ((by rw [hg];exact Nat.ne_of_gt (cn (g:=cR) (o:= .cells #[.int .i64 aI,.slice bh aD.length bi,.slice (some gE) au.length aW] 26 (0,0)) (by (with_reducible repeat (first|refine ak ?_ _|refine aq ?_|refine aj ?_ _));exact bR.out)):dC≠cR));clear bR;clear HB;have bR:=br;have HB:=bt;have cQ:=bA;have uS:=bK;have nC:=cL;have fG:=dc;have gQ:=dQ;clear br bt bA bK cL dc dQ;clear hb hbox hg;have abI:=gQ.out;have abJ:=fG.out;have vF:Fw.cell? ⟨dC,0,none⟩=some (.int .i64 0):=(ag cQ.out 0).trans rfl;have vG:Fw.cell? ⟨dC,1,none⟩=some (.int .i64 0):=(ag cQ.out 1).trans rfl;have vH:Fw.cell? ⟨dC,2,none⟩=some (.int .i64 0):=(ag cQ.out 2).trans rfl;have UI:Fw.cell? ⟨dC,3,none⟩=some (.int .i64 0):=(ag cQ.out 3).trans rfl;have UJ:Fw.cell? ⟨dC,4,none⟩=some (.int .i64 0):=(ag cQ.out 4).trans rfl;have UK:Fw.cell? ⟨dC,5,none⟩=some (.int .i64 0):=(ag cQ.out 5).trans rfl;have vI:=ah cQ.out 0;have vJ:=ah cQ.out 1;have vK:=ah cQ.out 2;have UL:=ah cQ.out 3;have UM:=ah cQ.out 4;have UN:=ah cQ.out 5;have JT:Fw.cell? ⟨cR,0,none⟩=some (.int .i64 aI):=(ag bR.out 0).trans rfl;have JU:Fw.cell? ⟨cR,1,none⟩=some (.slice bh aD.length bi):=(ag bR.out 1).trans rfl;have UO:Fw.cell? ⟨cR,2,none⟩=some (.slice (some gE) au.length aW):=(ag bR.out 2).trans rfl;have JV:=ah bR.out 0;have JW:=ah bR.out 1;have UQ:=ah bR.out 2)|((with_reducible refine bY (f:=110) rfl ?_);refine er (some 39) rfl rfl Try.func110 (by kernel_rfl) rfl #[.int .i64 ((aC au dH).f1),.int .i64 0,.int .i64 (wrap64 ((aD.length:Int) - 1))] rfl (by (try simp only [List.map_toArray,List.map_cons,List.map_nil]);first|done|rfl|(simp only [List.length_drop,List.length_take];rfl)) ?_;(with_reducible refine (bD.calls ((aC au dH).f1) 0 (wrap64 ((aD.length:Int) - 1)) true _ HV.out).mono ?_);rintro e w' ⟨rfl,⟨nd,rfl⟩⟩;refine ⟨_,rfl, ?_⟩)|(go_at_call 110;(with_reducible refine (bD.calls ((aC au dH).f2) 0 (wrap64 ((aD.length:Int) - 1)) true _ AO.out).mono ?_);rintro e w' ⟨rfl,⟨nd,rfl⟩⟩))
          go_ret
          exact ⟨by first|rfl|(simp [bB,bC]<;>rfl)|(simp [*,bB,bC]<;>rfl),by repeat (first|(with_reducible first|exact HB.out|apply ae|apply ab|apply af|refine ai ?_ gM.out|refine ai ?_ nC.out)|exact HB.out)⟩
         rw [if_neg qf] at H
         have c17b0:(((aC au dH).f1)==((aC au dH).f2))=false:=beq_eq_false_iff_ne.mpr qf
         have c17b1:(((aC au dH).f1) !=((aC au dH).f2))=true:=bne_iff_ne.mpr qf
         by_cases Pa:((aC au dH).f3)<(-65536)
         ·rw [if_pos Pa] at H
          have c23b0:decide (((aC au dH).f3)<(-65536))=true:=decide_eq_true Pa
          clear Pa
          obtain rfl:=Option.some.inj H
          have DT:wr.cell? ⟨cR,0,none⟩=some (.int .i64 aI):=(ag bR.out 0).trans rfl
          have DU:wr.cell? ⟨cR,1,none⟩=some (.slice bh aD.length bi):=(ag bR.out 1).trans rfl
          have UR:wr.cell? ⟨cR,2,none⟩=some (.slice bu au.length aW):=(ag bR.out 2).trans rfl
          have DV:=ah bR.out 0
          have DW:=ah bR.out 1
          have US:=ah bR.out 2
          have kQ:0≤(dH:Int):=of_decide_eq_true (by assumption)
          have kR:dH<(au.length:Int):=of_decide_eq_true (by assumption)
          obtain ⟨gE,qZ,eU,eV,eW,eX,eY,eZ⟩:=i9 ez.out dH kQ kR
          cases qZ
          replace eU:=(HB.out.cell (World.block_lt_of_cell? w _ eU)).trans eU
          replace eV:=(HB.out.cell (World.block_lt_of_cell? w _ eV)).trans eV
          replace eW:=(HB.out.cell (World.block_lt_of_cell? w _ eW)).trans eW
          replace eX:=(HB.out.cell (World.block_lt_of_cell? w _ eX)).trans eX
          replace eY:=(HB.out.cell (World.block_lt_of_cell? w _ eY)).trans eY
          replace eZ:=(HB.out.cell (World.block_lt_of_cell? w _ eZ)).trans eZ
          replace kQ:=eq_true kQ
          replace kR:=eq_true kR
          go_wp2_with (first|((with_reducible refine bF (N:=4) rfl ?_);(try (refine gB (by rfl) ?_;dsimp only));refine bH ?hg (N:=4) ?hd (cs:=#[.int .i64 0,.int .i64 0,.int .i64 0,.int .i64 0,.int .i64 0,.int .i64 0]) (t:=36) ?hr ?_;(case hd=>rfl);(case hg=>rfl);(case hr=>first|(go_simp;done)|(go_simp;rfl));intro dC hg zh hbox hb;have br:=aa.mk (aH (g:=cR) (o:= .cells #[.int .i64 aI,.slice bh aD.length bi,.slice (some gE) au.length aW] 26 (0,0)) (by (with_reducible repeat (first|refine ak ?_ _|refine aq ?_|refine aj ?_ _));exact bR.out) hb);have bt:=aa.mk (aE (by repeat (first|(with_reducible first|exact HB.out|apply ae|apply ab|apply af|refine ai ?_ gM.out)|exact HB.out)) hb);have bA:=aa.mk (hbox);have bK:=aa.mk ((by rw [hg];exact (az (by repeat (first|(with_reducible first|exact HB.out|apply ae|apply ab|apply af|refine ai ?_ gM.out)|exact HB.out))):w.heap.size≤dC));have cL:=aa.mk ((by rw [hg];exact (az (by repeat (first|(with_reducible first|exact HB.out|apply ae|apply ab|apply af|refine ai ?_ gM.out)|exact HB.out))):w.heap.size≤dC));have dc:=aa.mk ((by rw [hg];exact Nat.ne_of_lt (cn (g:=cR) (o:= .cells #[.int .i64 aI,.slice bh aD.length bi,.slice (some gE) au.length aW] 26 (0,0)) (by (with_reducible repeat (first|refine ak ?_ _|refine aq ?_|refine aj ?_ _));exact bR.out)):cR≠dC));have dQ:=aa.mk ((by rw [hg];exact Nat.ne_of_gt (cn (g:=cR) (o:= .cells #[.int .i64 aI,.slice bh aD.length bi,.slice (some gE) au.length aW] 26 (0,0)) (by (with_reducible repeat (first|refine ak ?_ _|refine aq ?_|refine aj ?_ _));exact bR.out)):dC≠cR));clear bR;clear HB;have bR:=br;have HB:=bt;have cQ:=bA;have uS:=bK;have nC:=cL;have fG:=dc;have gQ:=dQ;clear br bt bA bK cL dc dQ;clear hb hbox hg;have P1:=gQ.out;have P2:=fG.out;have UT:zh.cell? ⟨dC,0,none⟩=some (.int .i64 0):=(ag cQ.out 0).trans rfl;have UU:zh.cell? ⟨dC,1,none⟩=some (.int .i64 0):=(ag cQ.out 1).trans rfl;have UV:zh.cell? ⟨dC,2,none⟩=some (.int .i64 0):=(ag cQ.out 2).trans rfl;have UW:zh.cell? ⟨dC,3,none⟩=some (.int .i64 0):=(ag cQ.out 3).trans rfl;have UX:zh.cell? ⟨dC,4,none⟩=some (.int .i64 0):=(ag cQ.out 4).trans rfl;have UY:zh.cell? ⟨dC,5,none⟩=some (.int .i64 0):=(ag cQ.out 5).trans rfl;have UZ:=ah cQ.out 0;have U0:=ah cQ.out 1;have U1:=ah cQ.out 2;have U2:=ah cQ.out 3;have U3:=ah cQ.out 4;have U4:=ah cQ.out 5;have nQ:zh.cell? ⟨cR,0,none⟩=some (.int .i64 aI):=(ag bR.out 0).trans rfl;have nR:zh.cell? ⟨cR,1,none⟩=some (.slice bh aD.length bi):=(ag bR.out 1).trans rfl;have nS:zh.cell? ⟨cR,2,none⟩=some (.slice (some gE) au.length aW):=(ag bR.out 2).trans rfl;have nT:=ah bR.out 0;have nU:=ah bR.out 1;have nV:=ah bR.out 2)|((with_reducible refine bY (f:=110) rfl ?_);refine er (some 39) rfl rfl Try.func110 (by kernel_rfl) rfl #[.int .i64 ((aC au dH).f1),.int .i64 0,.int .i64 (wrap64 ((aD.length:Int) - 1))] rfl (by (try simp only [List.map_toArray,List.map_cons,List.map_nil]);first|done|rfl|(simp only [List.length_drop,List.length_take];rfl)) ?_;(with_reducible refine (bD.calls ((aC au dH).f1) 0 (wrap64 ((aD.length:Int) - 1)) true _ HV.out).mono ?_);rintro e w' ⟨rfl,⟨nd,rfl⟩⟩;refine ⟨_,rfl, ?_⟩)|(go_at_call 110;(with_reducible refine (bD.calls ((aC au dH).f2) 0 (wrap64 ((aD.length:Int) - 1)) true _ AO.out).mono ?_);rintro e w' ⟨rfl,⟨nd,rfl⟩⟩))
          go_ret
          exact ⟨by first|rfl|(simp [bB,bC]<;>rfl)|(simp [*,bB,bC]<;>rfl),by repeat (first|(with_reducible first|exact HB.out|apply ae|apply ab|apply af|refine ai ?_ gM.out|refine ai ?_ nC.out)|exact HB.out)⟩
         rw [if_neg Pa] at H
         have c23b0:decide (((aC au dH).f3)<(-65536))=false:=decide_eq_false Pa
         clear Pa
         by_cases Pb:((aC au dH).f4)>65536
         ·rw [if_pos Pb] at H
          have c29b0:decide (65536<((aC au dH).f4))=true:=decide_eq_true Pb
          clear Pb
          obtain rfl:=Option.some.inj H
          have JX:wr.cell? ⟨cR,0,none⟩=some (.int .i64 aI):=(ag bR.out 0).trans rfl
          have JY:wr.cell? ⟨cR,1,none⟩=some (.slice bh aD.length bi):=(ag bR.out 1).trans rfl
          have U5:wr.cell? ⟨cR,2,none⟩=some (.slice bu au.length aW):=(ag bR.out 2).trans rfl
          have JZ:=ah bR.out 0
          have J0:=ah bR.out 1
          have U6:=ah bR.out 2
          have kQ:0≤(dH:Int):=of_decide_eq_true (by assumption)
          have kR:dH<(au.length:Int):=of_decide_eq_true (by assumption)
          obtain ⟨gE,qZ,eU,eV,eW,eX,eY,eZ⟩:=i9 ez.out dH kQ kR
          cases qZ
          replace eU:=(HB.out.cell (World.block_lt_of_cell? w _ eU)).trans eU
          replace eV:=(HB.out.cell (World.block_lt_of_cell? w _ eV)).trans eV
          replace eW:=(HB.out.cell (World.block_lt_of_cell? w _ eW)).trans eW
          replace eX:=(HB.out.cell (World.block_lt_of_cell? w _ eX)).trans eX
          replace eY:=(HB.out.cell (World.block_lt_of_cell? w _ eY)).trans eY
          replace eZ:=(HB.out.cell (World.block_lt_of_cell? w _ eZ)).trans eZ
          replace kQ:=eq_true kQ
          replace kR:=eq_true kR
          go_wp2_with (first|((with_reducible refine bF (N:=4) rfl ?_);(try (refine gB (by rfl) ?_;dsimp only));refine bH ?hg (N:=4) ?hd (cs:=#[.int .i64 0,.int .i64 0,.int .i64 0,.int .i64 0,.int .i64 0,.int .i64 0]) (t:=36) ?hr ?_;(case hd=>rfl);(case hg=>rfl);(case hr=>first|(go_simp;done)|(go_simp;rfl));intro dC hg J1 hbox hb;have br:=aa.mk (aH (g:=cR) (o:= .cells #[.int .i64 aI,.slice bh aD.length bi,.slice (some gE) au.length aW] 26 (0,0)) (by (with_reducible repeat (first|refine ak ?_ _|refine aq ?_|refine aj ?_ _));exact bR.out) hb);have bt:=aa.mk (aE (by repeat (first|(with_reducible first|exact HB.out|apply ae|apply ab|apply af|refine ai ?_ gM.out)|exact HB.out)) hb);have bA:=aa.mk (hbox);have bK:=aa.mk ((by rw [hg];exact (az (by repeat (first|(with_reducible first|exact HB.out|apply ae|apply ab|apply af|refine ai ?_ gM.out)|exact HB.out))):w.heap.size≤dC));have cL:=aa.mk ((by rw [hg];exact (az (by repeat (first|(with_reducible first|exact HB.out|apply ae|apply ab|apply af|refine ai ?_ gM.out)|exact HB.out))):w.heap.size≤dC));have dc:=aa.mk ((by rw [hg];exact Nat.ne_of_lt (cn (g:=cR) (o:= .cells #[.int .i64 aI,.slice bh aD.length bi,.slice (some gE) au.length aW] 26 (0,0)) (by (with_reducible repeat (first|refine ak ?_ _|refine aq ?_|refine aj ?_ _));exact bR.out)):cR≠dC));have dQ:=aa.mk ((by rw [hg];exact Nat.ne_of_gt (cn (g:=cR) (o:= .cells #[.int .i64 aI,.slice bh aD.length bi,.slice (some gE) au.length aW] 26 (0,0)) (by (with_reducible repeat (first|refine ak ?_ _|refine aq ?_|refine aj ?_ _));exact bR.out)):dC≠cR));clear bR;clear HB;have bR:=br;have HB:=bt;have cQ:=bA;have uS:=bK;have nC:=cL;have fG:=dc;have gQ:=dQ;clear br bt bA bK cL dc dQ;clear hb hbox hg;have abK:=gQ.out;have abL:=fG.out;have zi:J1.cell? ⟨dC,0,none⟩=some (.int .i64 0):=(ag cQ.out 0).trans rfl;have zj:J1.cell? ⟨dC,1,none⟩=some (.int .i64 0):=(ag cQ.out 1).trans rfl;have zk:J1.cell? ⟨dC,2,none⟩=some (.int .i64 0):=(ag cQ.out 2).trans rfl;have U7:J1.cell? ⟨dC,3,none⟩=some (.int .i64 0):=(ag cQ.out 3).trans rfl;have U8:J1.cell? ⟨dC,4,none⟩=some (.int .i64 0):=(ag cQ.out 4).trans rfl;have U9:J1.cell? ⟨dC,5,none⟩=some (.int .i64 0):=(ag cQ.out 5).trans rfl;have zl:=ah cQ.out 0;have zm:=ah cQ.out 1;have zn:=ah cQ.out 2;have Va:=ah cQ.out 3;have Vb:=ah cQ.out 4;have Vc:=ah cQ.out 5;have Vd:J1.cell? ⟨cR,0,none⟩=some (.int .i64 aI):=(ag bR.out 0).trans rfl;have Ve:J1.cell? ⟨cR,1,none⟩=some (.slice bh aD.length bi):=(ag bR.out 1).trans rfl;have Vf:J1.cell? ⟨cR,2,none⟩=some (.slice (some gE) au.length aW):=(ag bR.out 2).trans rfl;have Vg:=ah bR.out 0;have Vh:=ah bR.out 1;have Vi:=ah bR.out 2)|((with_reducible refine bY (f:=110) rfl ?_);refine er (some 39) rfl rfl Try.func110 (by kernel_rfl) rfl #[.int .i64 ((aC au dH).f1),.int .i64 0,.int .i64 (wrap64 ((aD.length:Int) - 1))] rfl (by (try simp only [List.map_toArray,List.map_cons,List.map_nil]);first|done|rfl|(simp only [List.length_drop,List.length_take];rfl)) ?_;(with_reducible refine (bD.calls ((aC au dH).f1) 0 (wrap64 ((aD.length:Int) - 1)) true _ HV.out).mono ?_);rintro e w' ⟨rfl,⟨nd,rfl⟩⟩;refine ⟨_,rfl, ?_⟩)|(go_at_call 110;(with_reducible refine (bD.calls ((aC au dH).f2) 0 (wrap64 ((aD.length:Int) - 1)) true _ AO.out).mono ?_);rintro e w' ⟨rfl,⟨nd,rfl⟩⟩))
          go_ret
          exact ⟨by first|rfl|(simp [bB,bC]<;>rfl)|(simp [*,bB,bC]<;>rfl),by repeat (first|(with_reducible first|exact HB.out|apply ae|apply ab|apply af|refine ai ?_ gM.out|refine ai ?_ nC.out)|exact HB.out)⟩
         rw [if_neg Pb] at H
         have c29b0:decide (65536<((aC au dH).f4))=false:=decide_eq_false Pb
         clear Pb
         by_cases NF:((aC au dH).f3)>((aC au dH).f4)
         ·rw [if_pos NF] at H
          have c35b0:decide (((aC au dH).f4)<((aC au dH).f3))=true:=decide_eq_true NF
          clear NF
          obtain rfl:=Option.some.inj H
          have o4:wr.cell? ⟨cR,0,none⟩=some (.int .i64 aI):=(ag bR.out 0).trans rfl
          have o5:wr.cell? ⟨cR,1,none⟩=some (.slice bh aD.length bi):=(ag bR.out 1).trans rfl
          have o6:wr.cell? ⟨cR,2,none⟩=some (.slice bu au.length aW):=(ag bR.out 2).trans rfl
          have o7:=ah bR.out 0
          have o8:=ah bR.out 1
          have o9:=ah bR.out 2
          have kQ:0≤(dH:Int):=of_decide_eq_true (by assumption)
          have kR:dH<(au.length:Int):=of_decide_eq_true (by assumption)
          obtain ⟨gE,qZ,eU,eV,eW,eX,eY,eZ⟩:=i9 ez.out dH kQ kR
          cases qZ
          replace eU:=(HB.out.cell (World.block_lt_of_cell? w _ eU)).trans eU
          replace eV:=(HB.out.cell (World.block_lt_of_cell? w _ eV)).trans eV
          replace eW:=(HB.out.cell (World.block_lt_of_cell? w _ eW)).trans eW
          replace eX:=(HB.out.cell (World.block_lt_of_cell? w _ eX)).trans eX
          replace eY:=(HB.out.cell (World.block_lt_of_cell? w _ eY)).trans eY
          replace eZ:=(HB.out.cell (World.block_lt_of_cell? w _ eZ)).trans eZ
          replace kQ:=eq_true kQ
          replace kR:=eq_true kR
          go_wp2_with (first|((with_reducible refine bF (N:=4) rfl ?_);(try (refine gB (by rfl) ?_;dsimp only));refine bH ?hg (N:=4) ?hd (cs:=#[.int .i64 0,.int .i64 0,.int .i64 0,.int .i64 0,.int .i64 0,.int .i64 0]) (t:=36) ?hr ?_;(case hd=>rfl);(case hg=>rfl);(case hr=>first|(go_simp;done)|(go_simp;rfl));intro dC hg xR hbox hb;have br:=aa.mk (aH (g:=cR) (o:= .cells #[.int .i64 aI,.slice bh aD.length bi,.slice (some gE) au.length aW] 26 (0,0)) (by (with_reducible repeat (first|refine ak ?_ _|refine aq ?_|refine aj ?_ _));exact bR.out) hb);have bt:=aa.mk (aE (by repeat (first|(with_reducible first|exact HB.out|apply ae|apply ab|apply af|refine ai ?_ gM.out)|exact HB.out)) hb);have bA:=aa.mk (hbox);have bK:=aa.mk ((by rw [hg];exact (az (by repeat (first|(with_reducible first|exact HB.out|apply ae|apply ab|apply af|refine ai ?_ gM.out)|exact HB.out))):w.heap.size≤dC));have cL:=aa.mk ((by rw [hg];exact (az (by repeat (first|(with_reducible first|exact HB.out|apply ae|apply ab|apply af|refine ai ?_ gM.out)|exact HB.out))):w.heap.size≤dC));have dc:=aa.mk ((by rw [hg];exact Nat.ne_of_lt (cn (g:=cR) (o:= .cells #[.int .i64 aI,.slice bh aD.length bi,.slice (some gE) au.length aW] 26 (0,0)) (by (with_reducible repeat (first|refine ak ?_ _|refine aq ?_|refine aj ?_ _));exact bR.out)):cR≠dC));have dQ:=aa.mk ((by rw [hg];exact Nat.ne_of_gt (cn (g:=cR) (o:= .cells #[.int .i64 aI,.slice bh aD.length bi,.slice (some gE) au.length aW] 26 (0,0)) (by (with_reducible repeat (first|refine ak ?_ _|refine aq ?_|refine aj ?_ _));exact bR.out)):dC≠cR));clear bR;clear HB;have bR:=br;have HB:=bt;have cQ:=bA;have uS:=bK;have nC:=cL;have fG:=dc;have gQ:=dQ;clear br bt bA bK cL dc dQ;clear hb hbox hg;have abM:=gQ.out;have abN:=fG.out;have Vj:xR.cell? ⟨dC,0,none⟩=some (.int .i64 0):=(ag cQ.out 0).trans rfl;have Vk:xR.cell? ⟨dC,1,none⟩=some (.int .i64 0):=(ag cQ.out 1).trans rfl;have Vl:xR.cell? ⟨dC,2,none⟩=some (.int .i64 0):=(ag cQ.out 2).trans rfl;have Vm:xR.cell? ⟨dC,3,none⟩=some (.int .i64 0):=(ag cQ.out 3).trans rfl;have Vn:xR.cell? ⟨dC,4,none⟩=some (.int .i64 0):=(ag cQ.out 4).trans rfl;have Vo:xR.cell? ⟨dC,5,none⟩=some (.int .i64 0):=(ag cQ.out 5).trans rfl;have Vp:=ah cQ.out 0;have Vq:=ah cQ.out 1;have Vr:=ah cQ.out 2;have Vs:=ah cQ.out 3;have Vt:=ah cQ.out 4;have Vu:=ah cQ.out 5;have Vv:xR.cell? ⟨cR,0,none⟩=some (.int .i64 aI):=(ag bR.out 0).trans rfl;have Vw:xR.cell? ⟨cR,1,none⟩=some (.slice bh aD.length bi):=(ag bR.out 1).trans rfl;have Vx:xR.cell? ⟨cR,2,none⟩=some (.slice (some gE) au.length aW):=(ag bR.out 2).trans rfl;have Vy:=ah bR.out 0;have Vz:=ah bR.out 1;have VA:=ah bR.out 2)|((with_reducible refine bY (f:=110) rfl ?_);refine er (some 39) rfl rfl Try.func110 (by kernel_rfl) rfl #[.int .i64 ((aC au dH).f1),.int .i64 0,.int .i64 (wrap64 ((aD.length:Int) - 1))] rfl (by (try simp only [List.map_toArray,List.map_cons,List.map_nil]);first|done|rfl|(simp only [List.length_drop,List.length_take];rfl)) ?_;(with_reducible refine (bD.calls ((aC au dH).f1) 0 (wrap64 ((aD.length:Int) - 1)) true _ HV.out).mono ?_);rintro e w' ⟨rfl,⟨nd,rfl⟩⟩;refine ⟨_,rfl, ?_⟩)|(go_at_call 110;(with_reducible refine (bD.calls ((aC au dH).f2) 0 (wrap64 ((aD.length:Int) - 1)) true _ AO.out).mono ?_);rintro e w' ⟨rfl,⟨nd,rfl⟩⟩))
          go_ret
          exact ⟨by first|rfl|(simp [bB,bC]<;>rfl)|(simp [*,bB,bC]<;>rfl),by repeat (first|(with_reducible first|exact HB.out|apply ae|apply ab|apply af|refine ai ?_ gM.out|refine ai ?_ nC.out)|exact HB.out)⟩
         rw [if_neg NF] at H
         have c35b0:decide (((aC au dH).f4)<((aC au dH).f3))=false:=decide_eq_false NF
         clear NF
         by_cases GX:(wrap64 (((aC au dH).f4) - ((aC au dH).f3)))≥aI
         ·rw [if_pos GX] at H
          have c41b0:decide (aI≤(wrap64 (((aC au dH).f4) - ((aC au dH).f3))))=true:=decide_eq_true GX
          clear GX
          obtain rfl:=Option.some.inj H
          have DX:wr.cell? ⟨cR,0,none⟩=some (.int .i64 aI):=(ag bR.out 0).trans rfl
          have DY:wr.cell? ⟨cR,1,none⟩=some (.slice bh aD.length bi):=(ag bR.out 1).trans rfl
          have DZ:wr.cell? ⟨cR,2,none⟩=some (.slice bu au.length aW):=(ag bR.out 2).trans rfl
          have D0:=ah bR.out 0
          have D1:=ah bR.out 1
          have D2:=ah bR.out 2
          have kQ:0≤(dH:Int):=of_decide_eq_true (by assumption)
          have kR:dH<(au.length:Int):=of_decide_eq_true (by assumption)
          obtain ⟨gE,qZ,eU,eV,eW,eX,eY,eZ⟩:=i9 ez.out dH kQ kR
          cases qZ
          replace eU:=(HB.out.cell (World.block_lt_of_cell? w _ eU)).trans eU
          replace eV:=(HB.out.cell (World.block_lt_of_cell? w _ eV)).trans eV
          replace eW:=(HB.out.cell (World.block_lt_of_cell? w _ eW)).trans eW
          replace eX:=(HB.out.cell (World.block_lt_of_cell? w _ eX)).trans eX
          replace eY:=(HB.out.cell (World.block_lt_of_cell? w _ eY)).trans eY
          replace eZ:=(HB.out.cell (World.block_lt_of_cell? w _ eZ)).trans eZ
          replace kQ:=eq_true kQ
          replace kR:=eq_true kR
          go_wp2_with (first|((with_reducible refine bF (N:=4) rfl ?_);(try (refine gB (by rfl) ?_;dsimp only));refine bH ?hg (N:=4) ?hd (cs:=#[.int .i64 0,.int .i64 0,.int .i64 0,.int .i64 0,.int .i64 0,.int .i64 0]) (t:=36) ?hr ?_;(case hd=>rfl);(case hg=>rfl);(case hr=>first|(go_simp;done)|(go_simp;rfl));intro dC hg z8 hbox hb;have br:=aa.mk (aH (g:=cR) (o:= .cells #[.int .i64 aI,.slice bh aD.length bi,.slice (some gE) au.length aW] 26 (0,0)) (by (with_reducible repeat (first|refine ak ?_ _|refine aq ?_|refine aj ?_ _));exact bR.out) hb);have bt:=aa.mk (aE (by repeat (first|(with_reducible first|exact HB.out|apply ae|apply ab|apply af|refine ai ?_ gM.out)|exact HB.out)) hb);have bA:=aa.mk (hbox);have bK:=aa.mk ((by rw [hg];exact (az (by repeat (first|(with_reducible first|exact HB.out|apply ae|apply ab|apply af|refine ai ?_ gM.out)|exact HB.out))):w.heap.size≤dC));have cL:=aa.mk ((by rw [hg];exact (az (by repeat (first|(with_reducible first|exact HB.out|apply ae|apply ab|apply af|refine ai ?_ gM.out)|exact HB.out))):w.heap.size≤dC));have dc:=aa.mk ((by rw [hg];exact Nat.ne_of_lt (cn (g:=cR) (o:= .cells #[.int .i64 aI,.slice bh aD.length bi,.slice (some gE) au.length aW] 26 (0,0)) (by (with_reducible repeat (first|refine ak ?_ _|refine aq ?_|refine aj ?_ _));exact bR.out)):cR≠dC));have dQ:=aa.mk ((by rw [hg];exact Nat.ne_of_gt (cn (g:=cR) (o:= .cells #[.int .i64 aI,.slice bh aD.length bi,.slice (some gE) au.length aW] 26 (0,0)) (by (with_reducible repeat (first|refine ak ?_ _|refine aq ?_|refine aj ?_ _));exact bR.out)):dC≠cR));clear bR;clear HB;have bR:=br;have HB:=bt;have cQ:=bA;have uS:=bK;have nC:=cL;have fG:=dc;have gQ:=dQ;clear br bt bA bK cL dc dQ;clear hb hbox hg;have LS:=gQ.out;have LU:=fG.out;have D3:z8.cell? ⟨dC,0,none⟩=some (.int .i64 0):=(ag cQ.out 0).trans rfl;have D4:z8.cell? ⟨dC,1,none⟩=some (.int .i64 0):=(ag cQ.out 1).trans rfl;have D5:z8.cell? ⟨dC,2,none⟩=some (.int .i64 0):=(ag cQ.out 2).trans rfl;have D6:z8.cell? ⟨dC,3,none⟩=some (.int .i64 0):=(ag cQ.out 3).trans rfl;have D7:z8.cell? ⟨dC,4,none⟩=some (.int .i64 0):=(ag cQ.out 4).trans rfl;have D8:z8.cell? ⟨dC,5,none⟩=some (.int .i64 0):=(ag cQ.out 5).trans rfl;have D9:=ah cQ.out 0;have Ea:=ah cQ.out 1;have Eb:=ah cQ.out 2;have Ec:=ah cQ.out 3;have Ed:=ah cQ.out 4;have Ee:=ah cQ.out 5;have Ef:z8.cell? ⟨cR,0,none⟩=some (.int .i64 aI):=(ag bR.out 0).trans rfl;have Eg:z8.cell? ⟨cR,1,none⟩=some (.slice bh aD.length bi):=(ag bR.out 1).trans rfl;have VB:z8.cell? ⟨cR,2,none⟩=some (.slice (some gE) au.length aW):=(ag bR.out 2).trans rfl;have Eh:=ah bR.out 0;have Ei:=ah bR.out 1;have VC:=ah bR.out 2)|((with_reducible refine bY (f:=110) rfl ?_);refine er (some 39) rfl rfl Try.func110 (by kernel_rfl) rfl #[.int .i64 ((aC au dH).f1),.int .i64 0,.int .i64 (wrap64 ((aD.length:Int) - 1))] rfl (by (try simp only [List.map_toArray,List.map_cons,List.map_nil]);first|done|rfl|(simp only [List.length_drop,List.length_take];rfl)) ?_;(with_reducible refine (bD.calls ((aC au dH).f1) 0 (wrap64 ((aD.length:Int) - 1)) true _ HV.out).mono ?_);rintro e w' ⟨rfl,⟨nd,rfl⟩⟩;refine ⟨_,rfl, ?_⟩)|(go_at_call 110;(with_reducible refine (bD.calls ((aC au dH).f2) 0 (wrap64 ((aD.length:Int) - 1)) true _ AO.out).mono ?_);rintro e w' ⟨rfl,⟨nd,rfl⟩⟩))
          go_ret
          exact ⟨by first|rfl|(simp [bB,bC]<;>rfl)|(simp [*,bB,bC]<;>rfl),by repeat (first|(with_reducible first|exact HB.out|apply ae|apply ab|apply af|refine ai ?_ gM.out|refine ai ?_ nC.out)|exact HB.out)⟩
         rw [if_neg GX] at H
         have c41b0:decide (aI≤(wrap64 (((aC au dH).f4) - ((aC au dH).f3))))=false:=decide_eq_false GX
         clear GX
         replace H:=Option.bind_eq_some_iff.mp H
         obtain ⟨vo,Qx,H⟩:=H
         replace H:(if vo=true then (aQ.l0 k2 (wrap64 (dH+1)) aI aD au) else (some false))=some r:=H
         have A47:=aa.mk Qx
         clear Qx
         by_cases VD:vo=true
         ·subst VD
          have H1:(aQ.l0 k2 (wrap64 (dH+1)) aI aD au)=some r:=by rw [if_pos rfl] at H;exact H
          clear H
          have H:=H1
          clear H1
          have H':=aa.mk H
          clear H
          have yN:wr.cell? ⟨cR,0,none⟩=some (.int .i64 aI):=(ag bR.out 0).trans rfl
          have yO:wr.cell? ⟨cR,1,none⟩=some (.slice bh aD.length bi):=(ag bR.out 1).trans rfl
          have yP:wr.cell? ⟨cR,2,none⟩=some (.slice bu au.length aW):=(ag bR.out 2).trans rfl
          have yQ:=ah bR.out 0
          have yR:=ah bR.out 1
          have yS:=ah bR.out 2
          have kQ:0≤(dH:Int):=of_decide_eq_true (by assumption)
          have kR:dH<(au.length:Int):=of_decide_eq_true (by assumption)
          obtain ⟨gE,qZ,eU,eV,eW,eX,eY,eZ⟩:=i9 ez.out dH kQ kR
          cases qZ
          replace eU:=(HB.out.cell (World.block_lt_of_cell? w _ eU)).trans eU
          replace eV:=(HB.out.cell (World.block_lt_of_cell? w _ eV)).trans eV
          replace eW:=(HB.out.cell (World.block_lt_of_cell? w _ eW)).trans eW
          replace eX:=(HB.out.cell (World.block_lt_of_cell? w _ eX)).trans eX
          replace eY:=(HB.out.cell (World.block_lt_of_cell? w _ eY)).trans eY
          replace eZ:=(HB.out.cell (World.block_lt_of_cell? w _ eZ)).trans eZ
          replace kQ:=eq_true kQ
          replace kR:=eq_true kR
          go_wp2_with (first|((with_reducible refine bF (N:=4) rfl ?_);(try (refine gB (by rfl) ?_;dsimp only));refine bH ?hg (N:=4) ?hd (cs:=#[.int .i64 0,.int .i64 0,.int .i64 0,.int .i64 0,.int .i64 0,.int .i64 0]) (t:=36) ?hr ?_;(case hd=>rfl);(case hg=>rfl);(case hr=>first|(go_simp;done)|(go_simp;rfl));intro dC hg z9 hbox hb;have br:=aa.mk (aH (g:=cR) (o:= .cells #[.int .i64 aI,.slice bh aD.length bi,.slice (some gE) au.length aW] 26 (0,0)) (by (with_reducible repeat (first|refine ak ?_ _|refine aq ?_|refine aj ?_ _));exact bR.out) hb);have bt:=aa.mk (aE (by repeat (first|(with_reducible first|exact HB.out|apply ae|apply ab|apply af|refine ai ?_ gM.out)|exact HB.out)) hb);have bA:=aa.mk (hbox);have bK:=aa.mk ((by rw [hg];exact (az (by repeat (first|(with_reducible first|exact HB.out|apply ae|apply ab|apply af|refine ai ?_ gM.out)|exact HB.out))):w.heap.size≤dC));have cL:=aa.mk ((by rw [hg];exact (az (by repeat (first|(with_reducible first|exact HB.out|apply ae|apply ab|apply af|refine ai ?_ gM.out)|exact HB.out))):w.heap.size≤dC));have dc:=aa.mk ((by rw [hg];exact Nat.ne_of_lt (cn (g:=cR) (o:= .cells #[.int .i64 aI,.slice bh aD.length bi,.slice (some gE) au.length aW] 26 (0,0)) (by (with_reducible repeat (first|refine ak ?_ _|refine aq ?_|refine aj ?_ _));exact bR.out)):cR≠dC));have dQ:=aa.mk ((by rw [hg];exact Nat.ne_of_gt (cn (g:=cR) (o:= .cells #[.int .i64 aI,.slice bh aD.length bi,.slice (some gE) au.length aW] 26 (0,0)) (by (with_reducible repeat (first|refine ak ?_ _|refine aq ?_|refine aj ?_ _));exact bR.out)):dC≠cR));clear bR;clear HB;have bR:=br;have HB:=bt;have cQ:=bA;have uS:=bK;have nC:=cL;have fG:=dc;have gQ:=dQ;clear br bt bA bK cL dc dQ;clear hb hbox hg;have Qy:=gQ.out;have Qz:=fG.out;have Ej:z9.cell? ⟨dC,0,none⟩=some (.int .i64 0):=(ag cQ.out 0).trans rfl;have Ek:z9.cell? ⟨dC,1,none⟩=some (.int .i64 0):=(ag cQ.out 1).trans rfl;have El:z9.cell? ⟨dC,2,none⟩=some (.int .i64 0):=(ag cQ.out 2).trans rfl;have Em:z9.cell? ⟨dC,3,none⟩=some (.int .i64 0):=(ag cQ.out 3).trans rfl;have En:z9.cell? ⟨dC,4,none⟩=some (.int .i64 0):=(ag cQ.out 4).trans rfl;have Eo:z9.cell? ⟨dC,5,none⟩=some (.int .i64 0):=(ag cQ.out 5).trans rfl;have Ep:=ah cQ.out 0;have Er:=ah cQ.out 1;have Es:=ah cQ.out 2;have Et:=ah cQ.out 3;have Eu:=ah cQ.out 4;have Ew:=ah cQ.out 5;have Ex:z9.cell? ⟨cR,0,none⟩=some (.int .i64 aI):=(ag bR.out 0).trans rfl;have Ey:z9.cell? ⟨cR,1,none⟩=some (.slice bh aD.length bi):=(ag bR.out 1).trans rfl;have Ez:z9.cell? ⟨cR,2,none⟩=some (.slice (some gE) au.length aW):=(ag bR.out 2).trans rfl;have EA:=ah bR.out 0;have EB:=ah bR.out 1;have EC:=ah bR.out 2)|((with_reducible refine bY (f:=110) rfl ?_);refine er (some 39) rfl rfl Try.func110 (by kernel_rfl) rfl #[.int .i64 ((aC au dH).f1),.int .i64 0,.int .i64 (wrap64 ((aD.length:Int) - 1))] rfl (by (try simp only [List.map_toArray,List.map_cons,List.map_nil]);first|done|rfl|(simp only [List.length_drop,List.length_take];rfl)) ?_;(with_reducible refine (bD.calls ((aC au dH).f1) 0 (wrap64 ((aD.length:Int) - 1)) true _ HV.out).mono ?_);rintro e w' ⟨rfl,⟨nd,rfl⟩⟩;refine ⟨_,rfl, ?_⟩)|(go_at_call 110;(with_reducible refine (bD.calls ((aC au dH).f2) 0 (wrap64 ((aD.length:Int) - 1)) true _ AO.out).mono ?_);rintro e w' ⟨rfl,⟨nd,rfl⟩⟩)|(go_at_call 110;(with_reducible refine (bD.calls ((aC au dH).f5) 0 1048576 true _ A47.out).mono ?_);rintro e w' ⟨rfl,⟨nd,rfl⟩⟩))
          go_roundg k2
          case measure=>have:=HJ1.out;have:=wG.out;omega
          case rel=>exact ⟨(wrap64 (dH+1)),(by first|rfl|(simp;done)|(simp [*];done)),H',⟨by have:=HJ1.out;have:=wG.out;omega⟩,⟨by (with_reducible repeat (first|refine ak ?_ _|refine aq ?_|refine aj ?_ _));refine cI ?_ fG.out _;(with_reducible repeat (first|refine ak ?_ _|refine aq ?_|refine aj ?_ _));refine cI ?_ fG.out _;(with_reducible repeat (first|refine ak ?_ _|refine aq ?_|refine aj ?_ _));refine cI ?_ fG.out _;(with_reducible repeat (first|refine ak ?_ _|refine aq ?_|refine aj ?_ _));refine cI ?_ fG.out _;(with_reducible repeat (first|refine ak ?_ _|refine aq ?_|refine aj ?_ _));refine cI ?_ fG.out _;(with_reducible repeat (first|refine ak ?_ _|refine aq ?_|refine aj ?_ _));refine cI ?_ fG.out _;(with_reducible repeat (first|refine ak ?_ _|refine aq ?_|refine aj ?_ _));exact bR.out⟩,⟨by repeat (first|(with_reducible first|exact HB.out|apply ae|apply ab|apply af|refine ai ?_ gM.out|refine ai ?_ nC.out)|exact HB.out)⟩⟩
         replace VD:=Bool.eq_false_iff.mpr VD
         subst VD
         have H1:(some false)=some r:=by rw [if_neg (show ¬(false=true) by decide)] at H;exact H
         clear H
         have H:=H1
         clear H1
         obtain rfl:=Option.some.inj H
         have ED:wr.cell? ⟨cR,0,none⟩=some (.int .i64 aI):=(ag bR.out 0).trans rfl
         have EE:wr.cell? ⟨cR,1,none⟩=some (.slice bh aD.length bi):=(ag bR.out 1).trans rfl
         have EF:wr.cell? ⟨cR,2,none⟩=some (.slice bu au.length aW):=(ag bR.out 2).trans rfl
         have EH:=ah bR.out 0
         have EI:=ah bR.out 1
         have EJ:=ah bR.out 2
         have kQ:0≤(dH:Int):=of_decide_eq_true (by assumption)
         have kR:dH<(au.length:Int):=of_decide_eq_true (by assumption)
         obtain ⟨gE,qZ,eU,eV,eW,eX,eY,eZ⟩:=i9 ez.out dH kQ kR
         cases qZ
         replace eU:=(HB.out.cell (World.block_lt_of_cell? w _ eU)).trans eU
         replace eV:=(HB.out.cell (World.block_lt_of_cell? w _ eV)).trans eV
         replace eW:=(HB.out.cell (World.block_lt_of_cell? w _ eW)).trans eW
         replace eX:=(HB.out.cell (World.block_lt_of_cell? w _ eX)).trans eX
         replace eY:=(HB.out.cell (World.block_lt_of_cell? w _ eY)).trans eY
         replace eZ:=(HB.out.cell (World.block_lt_of_cell? w _ eZ)).trans eZ
         replace kQ:=eq_true kQ
         replace kR:=eq_true kR
         go_wp2_with (first|((with_reducible refine bF (N:=4) rfl ?_);(try (refine gB (by rfl) ?_;dsimp only));refine bH ?hg (N:=4) ?hd (cs:=#[.int .i64 0,.int .i64 0,.int .i64 0,.int .i64 0,.int .i64 0,.int .i64 0]) (t:=36) ?hr ?_;(case hd=>rfl);(case hg=>rfl);(case hr=>first|(go_simp;done)|(go_simp;rfl));intro dC hg IZ hbox hb;have br:=aa.mk (aH (g:=cR) (o:= .cells #[.int .i64 aI,.slice bh aD.length bi,.slice (some gE) au.length aW] 26 (0,0)) (by (with_reducible repeat (first|refine ak ?_ _|refine aq ?_|refine aj ?_ _));exact bR.out) hb);have bt:=aa.mk (aE (by repeat (first|(with_reducible first|exact HB.out|apply ae|apply ab|apply af|refine ai ?_ gM.out)|exact HB.out)) hb);have bA:=aa.mk (hbox);have bK:=aa.mk ((by rw [hg];exact (az (by repeat (first|(with_reducible first|exact HB.out|apply ae|apply ab|apply af|refine ai ?_ gM.out)|exact HB.out))):w.heap.size≤dC));have cL:=aa.mk ((by rw [hg];exact (az (by repeat (first|(with_reducible first|exact HB.out|apply ae|apply ab|apply af|refine ai ?_ gM.out)|exact HB.out))):w.heap.size≤dC));have dc:=aa.mk ((by rw [hg];exact Nat.ne_of_lt (cn (g:=cR) (o:= .cells #[.int .i64 aI,.slice bh aD.length bi,.slice (some gE) au.length aW] 26 (0,0)) (by (with_reducible repeat (first|refine ak ?_ _|refine aq ?_|refine aj ?_ _));exact bR.out)):cR≠dC));have dQ:=aa.mk ((by rw [hg];exact Nat.ne_of_gt (cn (g:=cR) (o:= .cells #[.int .i64 aI,.slice bh aD.length bi,.slice (some gE) au.length aW] 26 (0,0)) (by (with_reducible repeat (first|refine ak ?_ _|refine aq ?_|refine aj ?_ _));exact bR.out)):dC≠cR));clear bR;clear HB;have bR:=br;have HB:=bt;have cQ:=bA;have uS:=bK;have nC:=cL;have fG:=dc;have gQ:=dQ;clear br bt bA bK cL dc dQ;clear hb hbox hg;have abP:=gQ.out;have abQ:=fG.out;have VE:IZ.cell? ⟨dC,0,none⟩=some (.int .i64 0):=(ag cQ.out 0).trans rfl;have VF:IZ.cell? ⟨dC,1,none⟩=some (.int .i64 0):=(ag cQ.out 1).trans rfl;have VG:IZ.cell? ⟨dC,2,none⟩=some (.int .i64 0):=(ag cQ.out 2).trans rfl;have VH:IZ.cell? ⟨dC,3,none⟩=some (.int .i64 0):=(ag cQ.out 3).trans rfl;have VI:IZ.cell? ⟨dC,4,none⟩=some (.int .i64 0):=(ag cQ.out 4).trans rfl;have VJ:IZ.cell? ⟨dC,5,none⟩=some (.int .i64 0):=(ag cQ.out 5).trans rfl;have VK:=ah cQ.out 0;have VL:=ah cQ.out 1;have VM:=ah cQ.out 2;have VN:=ah cQ.out 3;have VO:=ah cQ.out 4;have VP:=ah cQ.out 5;have VQ:IZ.cell? ⟨cR,0,none⟩=some (.int .i64 aI):=(ag bR.out 0).trans rfl;have VR:IZ.cell? ⟨cR,1,none⟩=some (.slice bh aD.length bi):=(ag bR.out 1).trans rfl;have VS:IZ.cell? ⟨cR,2,none⟩=some (.slice (some gE) au.length aW):=(ag bR.out 2).trans rfl;have VT:=ah bR.out 0;have VU:=ah bR.out 1;have VV:=ah bR.out 2)|((with_reducible refine bY (f:=110) rfl ?_);refine er (some 39) rfl rfl Try.func110 (by kernel_rfl) rfl #[.int .i64 ((aC au dH).f1),.int .i64 0,.int .i64 (wrap64 ((aD.length:Int) - 1))] rfl (by (try simp only [List.map_toArray,List.map_cons,List.map_nil]);first|done|rfl|(simp only [List.length_drop,List.length_take];rfl)) ?_;(with_reducible refine (bD.calls ((aC au dH).f1) 0 (wrap64 ((aD.length:Int) - 1)) true _ HV.out).mono ?_);rintro e w' ⟨rfl,⟨nd,rfl⟩⟩;refine ⟨_,rfl, ?_⟩)|(go_at_call 110;(with_reducible refine (bD.calls ((aC au dH).f2) 0 (wrap64 ((aD.length:Int) - 1)) true _ AO.out).mono ?_);rintro e w' ⟨rfl,⟨nd,rfl⟩⟩)|(go_at_call 110;(with_reducible refine (bD.calls ((aC au dH).f5) 0 1048576 false _ A47.out).mono ?_);rintro e w' ⟨rfl,⟨nd,rfl⟩⟩))
         go_ret
         exact ⟨by first|rfl|(simp [bB,bC]<;>rfl)|(simp [*,bB,bC]<;>rfl),by repeat (first|(with_reducible first|exact HB.out|apply ae|apply ab|apply af|refine ai ?_ gM.out|refine ai ?_ nC.out)|exact HB.out)⟩
        replace sI:=Bool.eq_false_iff.mpr sI
        subst sI
        have H1:(some false)=some r:=by rw [if_neg (show ¬(false=true) by decide)] at H;exact H
        clear H
        have H:=H1
        clear H1
        obtain rfl:=Option.some.inj H
        have VW:wr.cell? ⟨cR,0,none⟩=some (.int .i64 aI):=(ag bR.out 0).trans rfl
        have VX:wr.cell? ⟨cR,1,none⟩=some (.slice bh aD.length bi):=(ag bR.out 1).trans rfl
        have VY:wr.cell? ⟨cR,2,none⟩=some (.slice bu au.length aW):=(ag bR.out 2).trans rfl
        have VZ:=ah bR.out 0
        have V0:=ah bR.out 1
        have V1:=ah bR.out 2
        have kQ:0≤(dH:Int):=of_decide_eq_true (by assumption)
        have kR:dH<(au.length:Int):=of_decide_eq_true (by assumption)
        obtain ⟨gE,qZ,eU,eV,eW,eX,eY,eZ⟩:=i9 ez.out dH kQ kR
        cases qZ
        replace eU:=(HB.out.cell (World.block_lt_of_cell? w _ eU)).trans eU
        replace eV:=(HB.out.cell (World.block_lt_of_cell? w _ eV)).trans eV
        replace eW:=(HB.out.cell (World.block_lt_of_cell? w _ eW)).trans eW
        replace eX:=(HB.out.cell (World.block_lt_of_cell? w _ eX)).trans eX
        replace eY:=(HB.out.cell (World.block_lt_of_cell? w _ eY)).trans eY
        replace eZ:=(HB.out.cell (World.block_lt_of_cell? w _ eZ)).trans eZ
        replace kQ:=eq_true kQ
        replace kR:=eq_true kR
        go_wp2_with (first|((with_reducible refine bF (N:=4) rfl ?_);(try (refine gB (by rfl) ?_;dsimp only));refine bH ?hg (N:=4) ?hd (cs:=#[.int .i64 0,.int .i64 0,.int .i64 0,.int .i64 0,.int .i64 0,.int .i64 0]) (t:=36) ?hr ?_;(case hd=>rfl);(case hg=>rfl);(case hr=>first|(go_simp;done)|(go_simp;rfl));intro dC hg xP hbox hb;have br:=aa.mk (aH (g:=cR) (o:= .cells #[.int .i64 aI,.slice bh aD.length bi,.slice (some gE) au.length aW] 26 (0,0)) (by (with_reducible repeat (first|refine ak ?_ _|refine aq ?_|refine aj ?_ _));exact bR.out) hb);have bt:=aa.mk (aE (by repeat (first|(with_reducible first|exact HB.out|apply ae|apply ab|apply af|refine ai ?_ gM.out)|exact HB.out)) hb);have bA:=aa.mk (hbox);have bK:=aa.mk ((by rw [hg];exact (az (by repeat (first|(with_reducible first|exact HB.out|apply ae|apply ab|apply af|refine ai ?_ gM.out)|exact HB.out))):w.heap.size≤dC));have cL:=aa.mk ((by rw [hg];exact (az (by repeat (first|(with_reducible first|exact HB.out|apply ae|apply ab|apply af|refine ai ?_ gM.out)|exact HB.out))):w.heap.size≤dC));have dc:=aa.mk ((by rw [hg];exact Nat.ne_of_lt (cn (g:=cR) (o:= .cells #[.int .i64 aI,.slice bh aD.length bi,.slice (some gE) au.length aW] 26 (0,0)) (by (with_reducible repeat (first|refine ak ?_ _|refine aq ?_|refine aj ?_ _));exact bR.out)):cR≠dC));have dQ:=aa.mk ((by rw [hg];exact Nat.ne_of_gt (cn (g:=cR) (o:= .cells #[.int .i64 aI,.slice bh aD.length bi,.slice (some gE) au.length aW] 26 (0,0)) (by (with_reducible repeat (first|refine ak ?_ _|refine aq ?_|refine aj ?_ _));exact bR.out)):dC≠cR));clear bR;clear HB;have bR:=br;have HB:=bt;have cQ:=bA;have uS:=bK;have nC:=cL;have fG:=dc;have gQ:=dQ;clear br bt bA bK cL dc dQ;clear hb hbox hg;have abR:=gQ.out;have abS:=fG.out;have V2:xP.cell? ⟨dC,0,none⟩=some (.int .i64 0):=(ag cQ.out 0).trans rfl;have V3:xP.cell? ⟨dC,1,none⟩=some (.int .i64 0):=(ag cQ.out 1).trans rfl;have V4:xP.cell? ⟨dC,2,none⟩=some (.int .i64 0):=(ag cQ.out 2).trans rfl;have V5:xP.cell? ⟨dC,3,none⟩=some (.int .i64 0):=(ag cQ.out 3).trans rfl;have V6:xP.cell? ⟨dC,4,none⟩=some (.int .i64 0):=(ag cQ.out 4).trans rfl;have V7:xP.cell? ⟨dC,5,none⟩=some (.int .i64 0):=(ag cQ.out 5).trans rfl;have V8:=ah cQ.out 0;have V9:=ah cQ.out 1;have Wa:=ah cQ.out 2;have Wb:=ah cQ.out 3;have Wc:=ah cQ.out 4;have Wd:=ah cQ.out 5;have We:xP.cell? ⟨cR,0,none⟩=some (.int .i64 aI):=(ag bR.out 0).trans rfl;have Wf:xP.cell? ⟨cR,1,none⟩=some (.slice bh aD.length bi):=(ag bR.out 1).trans rfl;have Wg:xP.cell? ⟨cR,2,none⟩=some (.slice (some gE) au.length aW):=(ag bR.out 2).trans rfl;have Wh:=ah bR.out 0;have Wi:=ah bR.out 1;have Wj:=ah bR.out 2)|((with_reducible refine bY (f:=110) rfl ?_);refine er (some 39) rfl rfl Try.func110 (by kernel_rfl) rfl #[.int .i64 ((aC au dH).f1),.int .i64 0,.int .i64 (wrap64 ((aD.length:Int) - 1))] rfl (by (try simp only [List.map_toArray,List.map_cons,List.map_nil]);first|done|rfl|(simp only [List.length_drop,List.length_take];rfl)) ?_;(with_reducible refine (bD.calls ((aC au dH).f1) 0 (wrap64 ((aD.length:Int) - 1)) true _ HV.out).mono ?_);rintro e w' ⟨rfl,⟨nd,rfl⟩⟩;refine ⟨_,rfl, ?_⟩)|(go_at_call 110;(with_reducible refine (bD.calls ((aC au dH).f2) 0 (wrap64 ((aD.length:Int) - 1)) false _ AO.out).mono ?_);rintro e w' ⟨rfl,⟨nd,rfl⟩⟩))
        go_ret
        exact ⟨by first|rfl|(simp [bB,bC]<;>rfl)|(simp [*,bB,bC]<;>rfl),by repeat (first|(with_reducible first|exact HB.out|apply ae|apply ab|apply af|refine ai ?_ gM.out|refine ai ?_ nC.out)|exact HB.out)⟩
       replace rR:=Bool.eq_false_iff.mpr rR
       subst rR
       have H1:(some false)=some r:=by rw [if_neg (show ¬(false=true) by decide)] at H;exact H
       clear H
       have H:=H1
       clear H1
       obtain rfl:=Option.some.inj H
       have DG:wr.cell? ⟨cR,0,none⟩=some (.int .i64 aI):=(ag bR.out 0).trans rfl
       have DH:wr.cell? ⟨cR,1,none⟩=some (.slice bh aD.length bi):=(ag bR.out 1).trans rfl
       have DI:wr.cell? ⟨cR,2,none⟩=some (.slice bu au.length aW):=(ag bR.out 2).trans rfl
       have DJ:=ah bR.out 0
       have DK:=ah bR.out 1
       have DL:=ah bR.out 2
       have kQ:0≤(dH:Int):=of_decide_eq_true (by assumption)
       have kR:dH<(au.length:Int):=of_decide_eq_true (by assumption)
       obtain ⟨gE,qZ,eU,eV,eW,eX,eY,eZ⟩:=i9 ez.out dH kQ kR
       cases qZ
       replace eU:=(HB.out.cell (World.block_lt_of_cell? w _ eU)).trans eU
       replace eV:=(HB.out.cell (World.block_lt_of_cell? w _ eV)).trans eV
       replace eW:=(HB.out.cell (World.block_lt_of_cell? w _ eW)).trans eW
       replace eX:=(HB.out.cell (World.block_lt_of_cell? w _ eX)).trans eX
       replace eY:=(HB.out.cell (World.block_lt_of_cell? w _ eY)).trans eY
       replace eZ:=(HB.out.cell (World.block_lt_of_cell? w _ eZ)).trans eZ
       replace kQ:=eq_true kQ
       replace kR:=eq_true kR
       go_wp2_with (first|((with_reducible refine bF (N:=4) rfl ?_);(try (refine gB (by rfl) ?_;dsimp only));refine bH ?hg (N:=4) ?hd (cs:=#[.int .i64 0,.int .i64 0,.int .i64 0,.int .i64 0,.int .i64 0,.int .i64 0]) (t:=36) ?hr ?_;(case hd=>rfl);(case hg=>rfl);(case hr=>first|(go_simp;done)|(go_simp;rfl));intro dC hg I1 hbox hb;have br:=aa.mk (aH (g:=cR) (o:= .cells #[.int .i64 aI,.slice bh aD.length bi,.slice (some gE) au.length aW] 26 (0,0)) (by (with_reducible repeat (first|refine ak ?_ _|refine aq ?_|refine aj ?_ _));exact bR.out) hb);have bt:=aa.mk (aE (by repeat (first|(with_reducible first|exact HB.out|apply ae|apply ab|apply af|refine ai ?_ gM.out)|exact HB.out)) hb);have bA:=aa.mk (hbox);have bK:=aa.mk ((by rw [hg];exact (az (by repeat (first|(with_reducible first|exact HB.out|apply ae|apply ab|apply af|refine ai ?_ gM.out)|exact HB.out))):w.heap.size≤dC));have cL:=aa.mk ((by rw [hg];exact (az (by repeat (first|(with_reducible first|exact HB.out|apply ae|apply ab|apply af|refine ai ?_ gM.out)|exact HB.out))):w.heap.size≤dC));have dc:=aa.mk ((by rw [hg];exact Nat.ne_of_lt (cn (g:=cR) (o:= .cells #[.int .i64 aI,.slice bh aD.length bi,.slice (some gE) au.length aW] 26 (0,0)) (by (with_reducible repeat (first|refine ak ?_ _|refine aq ?_|refine aj ?_ _));exact bR.out)):cR≠dC));have dQ:=aa.mk ((by rw [hg];exact Nat.ne_of_gt (cn (g:=cR) (o:= .cells #[.int .i64 aI,.slice bh aD.length bi,.slice (some gE) au.length aW] 26 (0,0)) (by (with_reducible repeat (first|refine ak ?_ _|refine aq ?_|refine aj ?_ _));exact bR.out)):dC≠cR));clear bR;clear HB;have bR:=br;have HB:=bt;have cQ:=bA;have uS:=bK;have nC:=cL;have fG:=dc;have gQ:=dQ;clear br bt bA bK cL dc dQ;clear hb hbox hg;have abT:=gQ.out;have abU:=fG.out;have Wk:I1.cell? ⟨dC,0,none⟩=some (.int .i64 0):=(ag cQ.out 0).trans rfl;have Wl:I1.cell? ⟨dC,1,none⟩=some (.int .i64 0):=(ag cQ.out 1).trans rfl;have Wm:I1.cell? ⟨dC,2,none⟩=some (.int .i64 0):=(ag cQ.out 2).trans rfl;have Wn:I1.cell? ⟨dC,3,none⟩=some (.int .i64 0):=(ag cQ.out 3).trans rfl;have Wo:I1.cell? ⟨dC,4,none⟩=some (.int .i64 0):=(ag cQ.out 4).trans rfl;have Wp:I1.cell? ⟨dC,5,none⟩=some (.int .i64 0):=(ag cQ.out 5).trans rfl;have Wq:=ah cQ.out 0;have Wr:=ah cQ.out 1;have Ws:=ah cQ.out 2;have Wt:=ah cQ.out 3;have Wu:=ah cQ.out 4;have Wv:=ah cQ.out 5;have JA:I1.cell? ⟨cR,0,none⟩=some (.int .i64 aI):=(ag bR.out 0).trans rfl;have JB:I1.cell? ⟨cR,1,none⟩=some (.slice bh aD.length bi):=(ag bR.out 1).trans rfl;have JC:I1.cell? ⟨cR,2,none⟩=some (.slice (some gE) au.length aW):=(ag bR.out 2).trans rfl;have JD:=ah bR.out 0;have JE:=ah bR.out 1;have JF:=ah bR.out 2)|((with_reducible refine bY (f:=110) rfl ?_);refine er (some 39) rfl rfl Try.func110 (by kernel_rfl) rfl #[.int .i64 ((aC au dH).f1),.int .i64 0,.int .i64 (wrap64 ((aD.length:Int) - 1))] rfl (by (try simp only [List.map_toArray,List.map_cons,List.map_nil]);first|done|rfl|(simp only [List.length_drop,List.length_take];rfl)) ?_;(with_reducible refine (bD.calls ((aC au dH).f1) 0 (wrap64 ((aD.length:Int) - 1)) false _ HV.out).mono ?_);rintro e w' ⟨rfl,⟨nd,rfl⟩⟩;refine ⟨_,rfl, ?_⟩))
       go_ret
       exact ⟨by first|rfl|(simp [bB,bC]<;>rfl)|(simp [*,bB,bC]<;>rfl),by repeat (first|(with_reducible first|exact HB.out|apply ae|apply ab|apply af|refine ai ?_ gM.out|refine ai ?_ nC.out)|exact HB.out)⟩
      rw [if_neg sZ] at H
      exact absurd H (by simp)
     rw [if_neg xc] at H
     have c11b0:decide (dH<(au.length:Int))=false:=decide_eq_false xc
     clear xc
     obtain rfl:=Option.some.inj H
     have Ww:wr.cell? ⟨cR,0,none⟩=some (.int .i64 aI):=(ag bR.out 0).trans rfl
     have Wx:wr.cell? ⟨cR,1,none⟩=some (.slice bh aD.length bi):=(ag bR.out 1).trans rfl
     have Wy:wr.cell? ⟨cR,2,none⟩=some (.slice bu au.length aW):=(ag bR.out 2).trans rfl
     have Wz:=ah bR.out 0
     have WA:=ah bR.out 1
     have WB:=ah bR.out 2
     go_wp2
     go_ret
     exact ⟨by first|rfl|(simp [bB,bC]<;>rfl)|(simp [*,bB,bC]<;>rfl),by repeat (first|(with_reducible first|exact HB.out|apply ae|apply ab|apply af|refine ai ?_ gM.out)|exact HB.out)⟩
end Go.Proofs.Ytbkjplomoegbdaa.PB
