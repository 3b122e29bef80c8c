/- Parts of the proof of CyclesSums, gathered by a program of this claim out of texts that it or the kit's print wrote: lemmas alone, no condition of their own. -/
import Derived.Test.YtbkjplomoegbdaaCcs3
namespace Go.Proofs.Ytbkjplomoegbdaa.PB
open Go.RowKit Go.Proofs.YtbkjplomoegbdaaW.bO Go.Proofs.YtbkjplomoegbdaaW.dA Go.Proofs.YtbkjplomoegbdaaW.dG
attribute [local go_sem] iQ iR jM jN gW gX iS iT
set_option linter.unusedVariables false
set_option linter.unusedSimpArgs false
mutual
def aG.l0:Nat→Int→List Int→Int→Int→List (hO)→Option (Int × (List (hO)) × (List (eu)))
 |0,_,_,_,_,_=>none
 |k+1,x5,jy,qe,lT,nh=>if x5>0 then ((aJ.f jy qe 2).bind fun LC=>((aJ.f jy LC.2 3).bind fun AH=>((aJ.f jy AH.2 3).bind fun uK=>(if nh.length<5864062014805 then (aG.l0 k (wrap64 (x5 - 1)) jy uK.2 lT (nh++[(⟨wrap64 (1+LC.1),AH.1,uK.1⟩:hO)])) else (none))))) else ((aJ.f jy qe 9).bind fun LD=>(aG.l1 k (nh.length:Int) LD.1 jy LD.2 lT nh ([]:List (eu))))
def aG.l1:Nat→Int→Int→List Int→Int→Int→List (hO)→List (eu)→Option (Int × (List (hO)) × (List (eu)))
 |0,_,_,_,_,_,_,_=>none
 |k+1,x6,x7,jy,qe,lT,nh,rG=>if x7>0 then (aG.j2 k x6 x7 (decide (x6>1)) jy qe lT nh rG) else (aG.j2 k x6 x7 false jy qe lT nh rG)
def aG.j2:Nat→Int→Int→Bool→List Int→Int→Int→List (hO)→List (eu)→Option (Int × (List (hO)) × (List (eu)))
 |0,_,_,_,_,_,_,_,_=>none
 |k+1,x6,x7,x45,jy,qe,lT,nh,rG=>if x45=true then ((aJ.f jy qe 6).bind fun AJ=>((aJ.f jy AJ.2 x6).bind fun qO=>((aJ.f jy qO.2 5).bind fun qP=>((aJ.f jy qP.2 (wrap64 (x6 - 1))).bind fun oX=>(if x6=0 then (none) else ((aJ.f jy oX.2 (wrap64 (3*lT))).bind fun kN=>((aJ.f jy kN.2 lT).bind fun mm=>(if rG.length<2932031007402 then (aG.l1 k x6 (wrap64 (x7 - 1)) jy mm.2 lT nh (rG++[(⟨wrap64 (1+AJ.1),qO.1,Int.tmod (wrap64 ((wrap64 (qO.1+1))+oX.1)) x6,wrap64 (kN.1 - lT),wrap64 ((wrap64 (kN.1 - lT))+mm.1),qP.1⟩:eu)])) else (none))))))))) else (some (lT,nh,rG))
end
def aG.f (k:Nat) (l0:List Int):Option (Int × (List (hO)) × (List (eu))):=(ef.f l0).bind fun tl=>((aJ.f tl.1 tl.2 8).bind fun uL=>((aJ.f tl.1 uL.2 5).bind fun qQ=>(aG.l0 k (wrap64 (1+qQ.1)) tl.1 qQ.2 (wrap64 (2+uL.1)) ([]:List (hO)))))
def aG.T6:Bool × List (List Nat × List Nat):=(true,[([],[]),([0],[0]),([],[]),([2],[2]),([3],[3]),([],[]),([5,3],[5]),([],[]),([7,6],[7]),([4,6,8],[4,6,8]),([9],[9]),([1,10,8],[1,10]),([0,1,2,3,4,5,6,7,8,9,10,11],[]),([12,11,11,0,1,2,3,4,5,6,7,8,9,10,11],[11,12])])
def aG.B6:List Nat:=[0,1,0,4,12,0,44,0,236,508,1020,2047,4095,8191]
theorem aG.MT:jX .any (opsOf Try.f31 6)=aG.T6:=by kernel_rfl
theorem aG.GN:gU aG.T6.2 aG.B6=true:=by kernel_rfl
def aG.T12:Bool × List (List Nat × List Nat):=(true,[([],[]),([0],[0]),([1],[1]),([],[]),([],[]),([4],[4]),([3,5],[3,5]),([2,6],[2,6]),([],[]),([7,8],[7,8]),([0,1,2,3,4,5,6,7,8,9],[]),([10,9,6,0,1,2,3,4,5,6,7,8,9],[9,10])])
def aG.B12:List Nat:=[0,1,3,0,0,16,56,127,0,511,1023,2047]
theorem aG.PU:jX .any (opsOf Try.f31 12)=aG.T12:=by kernel_rfl
theorem aG.MU:gU aG.T12.2 aG.B12=true:=by kernel_rfl
def aG.T13:Bool × List (List Nat × List Nat):=(true,[([],[]),([],[]),([1],[1]),([2],[2]),([0,3],[0,3]),([],[]),([5],[5]),([4,6],[4,6]),([0,1,2,3,4,5,6,7],[]),([8,7,4,0,1,2,3,4,5,6,7],[7,8])])
def aG.B13:List Nat:=[0,0,2,6,15,0,32,127,255,511]
theorem aG.PV:jX .any (opsOf Try.f31 13)=aG.T13:=by kernel_rfl
theorem aG.MV:gU aG.T13.2 aG.B13=true:=by kernel_rfl
def aG.T14:Bool × List (List Nat × List Nat):=(true,[([],[]),([0],[0]),([],[]),([],[]),([3],[3]),([2,4],[2,4]),([1,5],[1,5]),([0,1,2,3,4,5,6],[]),([7,6,5,0,1,2,3,4,5,6],[6,7])])
def aG.B14:List Nat:=[0,1,0,0,8,28,63,127,255]
theorem aG.PW:jX .any (opsOf Try.f31 14)=aG.T14:=by kernel_rfl
theorem aG.MW:gU aG.T14.2 aG.B14=true:=by kernel_rfl
set_option maxHeartbeats 8000000 in
set_option maxRecDepth 100000 in
theorem aG.calls (k:Nat) (A0:Option Addr) (c0:Nat) (l0:List Int) (r1:Int) (r2:List (hO)) (r3:List (eu)) (w:World) (hr0:Kd.C (Kd.int .i64) w A0 l0.length l0) (hc0:l0.length≤c0) (h:aG.f k l0=some (r1,r2,r3)):
  Calls Try.prog 31 #[.slice A0 l0.length c0] w fun e w'=>∃ Gd PX:Value,e= .returned (.agg #[.int .i64 r1,Gd,PX])∧Kd.R oS 97 w' w.heap.size (fun _=>True) Gd r2∧Kd.R nD 36 w' w.heap.size (fun _=>True) PX r3∧Below w.heap.size w w':=by
 have nu:=Try.underlying26
 have adi:=Try.underlying97
 have sj:=Try.underlying36
 have xJ:=aa.mk hr0
 have Fu:=aa.mk hc0
 clear hr0 hc0
 have HB:=aa.mk (Below.refl w.heap.size w)
 have H:((ef.f l0).bind fun tl=>((aJ.f tl.1 tl.2 8).bind fun uL=>((aJ.f tl.1 uL.2 5).bind fun qQ=>(aG.l0 k (wrap64 (1+qQ.1)) tl.1 qQ.2 (wrap64 (2+uL.1)) ([]:List (hO))))))=some (r1,r2,r3):=h
 clear h
 replace H:=Option.bind_eq_some_iff.mp H
 obtain ⟨⟨fe,MX⟩,LF,H⟩:=H
 replace H:((aJ.f fe MX 8).bind fun uL=>((aJ.f fe uL.2 5).bind fun qQ=>(aG.l0 k (wrap64 (1+qQ.1)) fe qQ.2 (wrap64 (2+uL.1)) ([]:List (hO)))))=some (r1,r2,r3):=H
 have A2:=aa.mk LF
 clear LF
 replace H:=Option.bind_eq_some_iff.mp H
 obtain ⟨⟨ej,GP⟩,AB,H⟩:=H
 replace H:((aJ.f fe GP 5).bind fun qQ=>(aG.l0 k (wrap64 (1+qQ.1)) fe qQ.2 (wrap64 (2+ej)) ([]:List (hO))))=some (r1,r2,r3):=H
 have A3:=aa.mk AB
 clear AB
 replace H:=Option.bind_eq_some_iff.mp H
 obtain ⟨⟨MY,MZ⟩,yK,H⟩:=H
 replace H:(aG.l0 k (wrap64 (1+MY)) fe MZ (wrap64 (2+ej)) ([]:List (hO)))=some (r1,r2,r3):=H
 have A4:=aa.mk yK
 clear yK
 have H':=aa.mk H
 clear H
 go_enter Try.func31,Try.ntmps31
 go_wp2_with (first|((with_reducible refine bF (N:=2) rfl ?_);refine bH ?hg (N:=2) ?hd (cs:=#[.int .i64 0,.slice none 0 0,.slice none 0 0]) (t:=26) ?hr ?_;(case hd=>rfl);(case hg=>rfl);(case hr=>first|(go_simp;done)|(go_simp;rfl));intro gA hg w5 hbox hb;have br:=aa.mk (aE (by repeat (first|(with_reducible first|exact HB.out|apply ae|apply ab|apply af)|exact HB.out)) hb);have bt:=aa.mk (hbox);have bA:=aa.mk ((by rw [hg];exact (az (by repeat (first|(with_reducible first|exact HB.out|apply ae|apply ab|apply af)|exact HB.out))):w.heap.size≤gA));have bK:=aa.mk ((by rw [hg];exact (az (by repeat (first|(with_reducible first|exact HB.out|apply ae|apply ab|apply af)|exact HB.out))):w.heap.size≤gA));clear HB;have HB:=br;have dm:=bt;have aa3:=bA;have iU:=bK;clear br bt bA bK;clear hb hbox hg)|((with_reducible refine bY (f:=83) rfl ?_);refine er (some 10) rfl rfl Try.func83 (by kernel_rfl) rfl #[.slice A0 l0.length c0] rfl (by (try simp only [List.map_toArray,List.map_cons,List.map_nil]);first|done|rfl|(simp only [List.length_drop,List.length_take];rfl)) ?_;(with_reducible refine (ef.calls _ _ l0 fe MX w _ ?bS ?bT ?cJ A2.out).mono ?_);(case bS=>repeat (first|(with_reducible first|exact HB.out|apply ae|apply ab|apply af|refine ai ?_ iU.out)|exact HB.out));(case bT=>exact xJ.out);(case cJ=>exact Fu.out);rintro e w6 ⟨ig,rfl,hi,hb,hb2⟩;refine ⟨_,rfl, ?_⟩;have br:=aa.mk (aH (g:=gA) (o:= .cells #[.int .i64 0,.slice none 0 0,.slice none 0 0] 26 (0,0)) (by (with_reducible repeat (first|refine ak ?_ _|refine aq ?_|refine aj ?_ _));exact dm.out) hb2);have bt:=aa.mk (hb);have bA:=aa.mk (hi);have bK:=aa.mk (ax.yH hi (aH (g:=gA) (o:= .cells #[.int .i64 0,.slice none 0 0,.slice none 0 0] 26 (0,0)) (by (with_reducible repeat (first|refine ak ?_ _|refine aq ?_|refine aj ?_ _));exact dm.out) hb2) (by decide));have cL:=aa.mk (Ne.symm (ax.yH hi (aH (g:=gA) (o:= .cells #[.int .i64 0,.slice none 0 0,.slice none 0 0] 26 (0,0)) (by (with_reducible repeat (first|refine ak ?_ _|refine aq ?_|refine aj ?_ _));exact dm.out) hb2) (by decide)));clear dm;clear HB;have dm:=br;have HB:=bt;have bU:=bA;have cY:=bK;have jj:=cL;clear br bt bA bK cL;(try clear hb);(try clear hb2);(try clear hk);(try clear hi))|((with_reducible refine bY (f:=84) rfl ?_);refine er (some 12) rfl rfl Try.func84 (by kernel_rfl) rfl #[.pointer (some ⟨ig,0,none⟩),.int .i64 8] rfl (by (try simp only [List.map_toArray,List.map_cons,List.map_nil]);first|done|rfl|(simp only [List.length_drop,List.length_take];rfl)) ?_;(with_reducible refine (aJ.calls ig fe MX 8 ej GP w _ ?bS ?bT A3.out).mono ?_);(case bS=>repeat (first|(with_reducible first|exact bU.out|apply ax.alloc|apply ax.drewN|apply ax.drew|apply ax.e9|refine ax.far ?_ cY.out _)|exact bU.out));(case bT=>repeat (first|(with_reducible first|exact HB.out|apply ae|apply ab|apply af|refine ai ?_ (ax.ge bU.out)|refine ai ?_ iU.out)|exact HB.out));rintro e w7 ⟨rfl,hi,hb,hk⟩;refine ⟨_,rfl, ?_⟩;have br:=aa.mk (dP.ue hk (g':=gA) (o:= .cells #[.int .i64 0,.slice none 0 0,.slice none 0 0] 26 (0,0)) (by (with_reducible repeat (first|refine ak ?_ _|refine aq ?_|refine aj ?_ _));exact dm.out) jj.out (by simp));have bt:=aa.mk (hb);have bA:=aa.mk (hi);clear dm;clear HB;clear bU;have dm:=br;have HB:=bt;have bU:=bA;clear br bt bA;(try clear hb);(try clear hb2);(try clear hk);(try clear hi))|((with_reducible refine bF (N:=4) rfl ?_);refine bH ?hg (N:=4) ?hd (cs:=#[.int .i64 0,.slice none 0 0,.slice none 0 0]) (t:=26) ?hr ?_;(case hd=>rfl);(case hg=>rfl);(case hr=>first|(go_simp;done)|(go_simp;rfl));intro fc hg w8 hbox hb;have br:=aa.mk (aH (g:=gA) (o:= .cells #[.int .i64 0,.slice none 0 0,.slice none 0 0] 26 (0,0)) (by (with_reducible repeat (first|refine ak ?_ _|refine aq ?_|refine aj ?_ _));exact dm.out) hb);have bt:=aa.mk (ax.below (by repeat (first|(with_reducible first|exact bU.out|apply ax.alloc|apply ax.drewN|apply ax.drew|apply ax.e9|refine ax.far ?_ cY.out _)|exact bU.out)) hb);have bA:=aa.mk (aE (by repeat (first|(with_reducible first|exact HB.out|apply ae|apply ab|apply af|refine ai ?_ (ax.ge bU.out)|refine ai ?_ iU.out)|exact HB.out)) hb);have bK:=aa.mk (hbox);have cL:=aa.mk ((by rw [hg];exact (az (by repeat (first|(with_reducible first|exact HB.out|apply ae|apply ab|apply af|refine ai ?_ (ax.ge bU.out)|refine ai ?_ iU.out)|exact HB.out))):w.heap.size≤fc));have dc:=aa.mk ((by rw [hg];exact (az (by repeat (first|(with_reducible first|exact HB.out|apply ae|apply ab|apply af|refine ai ?_ (ax.ge bU.out)|refine ai ?_ iU.out)|exact HB.out))):w.heap.size≤fc));have dQ:=aa.mk ((by rw [hg];exact Nat.ne_of_lt (cn (g:=gA) (o:= .cells #[.int .i64 0,.slice none 0 0,.slice none 0 0] 26 (0,0)) (by (with_reducible repeat (first|refine ak ?_ _|refine aq ?_|refine aj ?_ _));exact dm.out)):gA≠fc));have gL:=aa.mk ((by rw [hg];exact Nat.ne_of_gt (cn (g:=gA) (o:= .cells #[.int .i64 0,.slice none 0 0,.slice none 0 0] 26 (0,0)) (by (with_reducible repeat (first|refine ak ?_ _|refine aq ?_|refine aj ?_ _));exact dm.out)):fc≠gA));have hY:=aa.mk ((by rw [hg];exact Nat.ne_of_lt (ax.lt (show ax w _ ig fe GP from by repeat (first|(with_reducible first|exact bU.out|apply ax.alloc|apply ax.drewN|apply ax.drew|apply ax.e9|refine ax.far ?_ cY.out _)|exact bU.out))):ig≠fc));have jv:=aa.mk ((by rw [hg];exact Nat.ne_of_gt (ax.lt (show ax w _ ig fe GP from by repeat (first|(with_reducible first|exact bU.out|apply ax.alloc|apply ax.drewN|apply ax.drew|apply ax.e9|refine ax.far ?_ cY.out _)|exact bU.out))):fc≠ig));clear dm;clear bU;clear HB;have dm:=br;have bU:=bt;have HB:=bA;have cw:=bK;have aa4:=cL;have jF:=dc;have kC:=dQ;have pM:=gL;have db:=hY;have ij:=jv;clear br bt bA bK cL dc dQ gL hY jv;clear hb hbox hg;have adj:=pM.out;have adk:=kC.out;have x4:=ij.out;have yc:=db.out;have kT:w8.cell? ⟨fc,0,none⟩=some (.int .i64 0):=(ag cw.out 0).trans rfl;have kU:w8.cell? ⟨fc,1,none⟩=some (.slice none 0 0):=(ag cw.out 1).trans rfl;have kV:w8.cell? ⟨fc,2,none⟩=some (.slice none 0 0):=(ag cw.out 2).trans rfl;have kW:=ah cw.out 0;have kX:=ah cw.out 1;have kY:=ah cw.out 2)|((with_reducible refine bY (f:=84) rfl ?_);refine er (some 16) rfl rfl Try.func84 (by kernel_rfl) rfl #[.pointer (some ⟨ig,0,none⟩),.int .i64 5] rfl (by (try simp only [List.map_toArray,List.map_cons,List.map_nil]);first|done|rfl|(simp only [List.length_drop,List.length_take];rfl)) ?_;(with_reducible refine (aJ.calls ig fe GP 5 MY MZ w _ ?bS ?bT A4.out).mono ?_);(case bS=>repeat (first|(with_reducible first|exact bU.out|apply ax.alloc|apply ax.drewN|apply ax.drew|apply ax.e9|refine ax.far ?_ cY.out _|refine ax.far ?_ db.out _)|exact bU.out));(case bT=>repeat (first|(with_reducible first|exact HB.out|apply ae|apply ab|apply af|refine ai ?_ (ax.ge bU.out)|refine ai ?_ iU.out|refine ai ?_ jF.out)|exact HB.out));rintro e yd ⟨rfl,hi,hb,hk⟩;refine ⟨_,rfl, ?_⟩;have br:=aa.mk (dP.ue hk (g':=gA) (o:= .cells #[.int .i64 0,.slice none 0 0,.slice none 0 0] 26 (0,0)) (by (with_reducible repeat (first|refine ak ?_ _|refine aq ?_|refine aj ?_ _));refine cI ?_ kC.out _;(with_reducible repeat (first|refine ak ?_ _|refine aq ?_|refine aj ?_ _));refine cI ?_ kC.out _;(with_reducible repeat (first|refine ak ?_ _|refine aq ?_|refine aj ?_ _));refine cI ?_ kC.out _;(with_reducible repeat (first|refine ak ?_ _|refine aq ?_|refine aj ?_ _));exact dm.out) jj.out (by simp));have bt:=aa.mk (dP.ue hk (g':=fc) (o:= .cells #[.int .i64 (wrap64 (2+ej)),.slice none 0 0,.slice none 0 0] 26 (0,0)) (by (with_reducible repeat (first|refine ak ?_ _|refine aq ?_|refine aj ?_ _));refine df (cs:=#[.int .i64 (wrap64 (2+ej)),.slice none 0 0,.slice none 0 0]) ?_ 2 _ rfl;(with_reducible repeat (first|refine ak ?_ _|refine aq ?_|refine aj ?_ _));refine df (cs:=#[.int .i64 (wrap64 (2+ej)),.slice none 0 0,.slice none 0 0]) ?_ 1 _ rfl;(with_reducible repeat (first|refine ak ?_ _|refine aq ?_|refine aj ?_ _));refine df (cs:=#[.int .i64 0,.slice none 0 0,.slice none 0 0]) ?_ 0 _ rfl;(with_reducible repeat (first|refine ak ?_ _|refine aq ?_|refine aj ?_ _));exact cw.out) ij.out (by simp));have bA:=aa.mk (hb);have bK:=aa.mk (hi);clear dm;clear cw;clear HB;clear bU;have dm:=br;have cw:=bt;have HB:=bA;have bU:=bK;clear br bt bA bK;(try clear hb);(try clear hb2);(try clear hk);(try clear hi)))
 go_loopg [5] k (fun kq v5 w'=>∃ (gI:Int) (mS:Int) (bp:List (hO)) (lU:Value),v5= .int .i64 gI∧aa (aG.l0 kq gI fe mS (wrap64 (2+ej)) bp=some (r1,r2,r3))∧aa (kq≤k)∧aa (Kd.R oS 97 w' w.heap.size (fun _=>True) lU bp)∧aa (w'.heap[gA]? =some (.cells #[.int .i64 0,(.slice none 0 0),(.slice none 0 0)] 26 (0,0)))∧aa (w'.heap[fc]? =some (.cells #[.int .i64 (wrap64 (2+ej)),lU,(.slice none 0 0)] 26 (0,0)))∧aa (ax w w' ig fe mS)∧aa (Below w.heap.size w w'))
 case atStart=>exact ⟨(wrap64 (1+MY)),(MZ),(([]:List (hO))),(.slice none 0 0),(by first|rfl|(simp;done)|(simp [*];done)),H',⟨Nat.le_refl _⟩,⟨by first|exact Kd.jE _ _ _ _ _|exact Kd.sA _ _ _ _ _|exact Kd.sB _ _ _ _ _|exact Kd.sr _ _ _ _ _|exact Kd.sy _ _ _ _ _⟩,⟨by (with_reducible repeat (first|refine ak ?_ _|refine aq ?_|refine aj ?_ _));exact dm.out⟩,⟨by (with_reducible repeat (first|refine ak ?_ _|refine aq ?_|refine aj ?_ _));exact cw.out⟩,⟨by repeat (first|(with_reducible first|exact bU.out|apply ax.alloc|apply ax.drewN|apply ax.drew|apply ax.e9|refine ax.far ?_ cY.out _|refine ax.far ?_ db.out _)|exact bU.out)⟩,⟨by repeat (first|(with_reducible first|exact HB.out|apply ae|apply ab|apply af|refine ai ?_ (ax.ge bU.out)|refine ai ?_ iU.out|refine ai ?_ jF.out)|exact HB.out)⟩⟩
 case round=>
  clear H'
  try clear c1
  try clear p2
  try clear c3
  try clear p6
  try clear c8
  try clear c9
  try clear uq
  try clear kT
  try clear kU
  try clear kV
  try clear kW
  try clear kX
  try clear kY
  obtain ⟨gI,mS,bp,lU,rfl,HA,lw,HO_111001,dm,cw,bU,HB⟩:=hrel
  cases gk with
  |zero=>exact absurd HA.out (by simp [aG.l0])
  |succ k1=>
   have H:=HA.out
   clear HA
   simp only [aG.l0] at H
   by_cases oh:gI>0
   ·rw [if_pos oh] at H
    have c13b0:decide (0<gI)=true:=decide_eq_true oh
    clear oh
    replace H:=Option.bind_eq_some_iff.mp H
    obtain ⟨⟨AK,Jv⟩,AE,H⟩:=H
    replace H:((aJ.f fe Jv 3).bind fun AH=>((aJ.f fe AH.2 3).bind fun uK=>(if bp.length<5864062014805 then (aG.l0 k1 (wrap64 (gI - 1)) fe uK.2 (wrap64 (2+ej)) (bp++[(⟨wrap64 (1+AK),AH.1,uK.1⟩:hO)])) else (none))))=some (r1,r2,r3):=H
    have PQ:=aa.mk AE
    clear AE
    replace H:=Option.bind_eq_some_iff.mp H
    obtain ⟨⟨CE,Jw⟩,AL,H⟩:=H
    replace H:((aJ.f fe Jw 3).bind fun uK=>(if bp.length<5864062014805 then (aG.l0 k1 (wrap64 (gI - 1)) fe uK.2 (wrap64 (2+ej)) (bp++[(⟨wrap64 (1+AK),CE,uK.1⟩:hO)])) else (none)))=some (r1,r2,r3):=H
    have AO:=aa.mk AL
    clear AL
    replace H:=Option.bind_eq_some_iff.mp H
    obtain ⟨⟨Fv,GQ⟩,GR,H⟩:=H
    replace H:(if bp.length<5864062014805 then (aG.l0 k1 (wrap64 (gI - 1)) fe GQ (wrap64 (2+ej)) (bp++[(⟨wrap64 (1+AK),CE,Fv⟩:hO)])) else (none))=some (r1,r2,r3):=H
    have YJ:=aa.mk GR
    clear GR
    by_cases qf:bp.length<5864062014805
    ·rw [if_pos qf] at H
     have GS:=aa.mk qf
     clear qf
     obtain ⟨Jx,AQ⟩:∃ y_:List (hO),y_=(bp++[(⟨wrap64 (1+AK),CE,Fv⟩:hO)]):=⟨_,rfl⟩
     replace H:(aG.l0 k1 (wrap64 (gI - 1)) fe GQ (wrap64 (2+ej)) Jx)=some (r1,r2,r3):=by first|(rw [AQ];with_reducible exact H)|(have gT:=(Option.bind_some _ _).symm.trans H;rw [AQ];with_reducible exact gT)|(have gT:=(Option.bind_some _ _).symm.trans H;with_reducible exact gT)|with_reducible exact H|(rw [AQ];exact H)|exact H
     have PY:=aa.mk AQ
     clear AQ
     have H':=aa.mk H
     clear H
     try go_wp2
     have br:=aa.mk (Kd.aA HO_111001.out)
     have bt:=aa.mk (aq dm.out)
     have bA:=aa.mk (aq cw.out)
     have bK:=aa.mk (ax.drew bU.out)
     have cL:=aa.mk (af HB.out)
     clear HO_111001 dm cw bU HB
     have HO_111001:=br;have dm:=bt;have cw:=bA;have bU:=bK;have HB:=cL
     clear br bt bA bK cL
     refine ju (n:=14) (S:=fun w'=>w'.cell? ⟨fc,0,none⟩=some (.int .i64 (wrap64 (2+ej)))∧w'.cell? ⟨fc,1,none⟩=some (lU)∧w'.cell? ⟨fc,2,none⟩=some (.slice none 0 0)) (ds:=[13]) #[false,false,false,false,false,false,false,false,false,false,false,false,false,false] (by kernel_rfl) rfl rfl ⟨(ag cw.out 0).trans rfl,(ag cw.out 1).trans rfl,(ag cw.out 2).trans rfl⟩ (fun hHeld=> ?_);refine fN aG.MT aG.GN (fun HT_ HW_=> ?_)
     generalize wr.drew=AR at HO_111001 dm cw bU HB hHeld ⊢
     refine bP (i:=0) (N:=some 22) (v:= ?_) (a':= ?_) #[true,false,false,false,false,false,false,false,false,false,false,false,false,false] rfl rfl (bz HT_.out (by kernel_rfl)) (fun _ _ _ h=>h) (Or.inl ⟨by rfl, ?_⟩) ?_ ?_
     rotate_left
     ·intro w'
      go_simp
      with_reducible rfl
     rotate_left
     ·simp only [Act.put,dg,dh,di,aY,a9]
      rfl
     refine bP (i:=2) (N:=some 24) (v:= ?_) (a':= ?_) #[true,false,true,false,false,false,false,false,false,false,false,false,false,false] rfl rfl (bz HT_.out (by kernel_rfl)) (fun _ _ _ h=>h) (Or.inl ⟨by rfl, ?_⟩) ?_ ?_
     rotate_left
     ·intro w'
      go_simp
      with_reducible rfl
     rotate_left
     ·simp only [Act.put,dg,dh,di,aY,a9]
      rfl
     refine bP (i:=5) (N:=some 27) (v:= ?_) (a':= ?_) #[true,false,true,false,false,true,false,false,false,false,false,false,false,false] rfl rfl (bz HT_.out (by kernel_rfl)) (fun _ _ _ h=>h) (Or.inl ⟨by rfl, ?_⟩) ?_ ?_
     rotate_left
     ·intro w'
      go_simp
      with_reducible rfl
     rotate_left
     ·simp only [Act.put,dg,dh,di,aY,a9]
      rfl
     refine bP (i:=7) (N:=some 29) (v:= ?_) (a':= ?_) #[true,false,true,false,false,true,false,true,false,false,false,false,false,false] rfl rfl (bz HT_.out (by kernel_rfl)) (fun _ _ _ h=>h) (Or.inl ⟨by rfl, ?_⟩) ?_ ?_
     rotate_left
     ·intro w'
      go_simp
      with_reducible rfl
     rotate_left
     ·simp only [Act.put,dg,dh,di,aY,a9]
      rfl
     refine eL (i:=1) (N:=some 23) (v:= ?_) (a':= ?_) #[true,true,true,false,false,true,false,true,false,false,false,false,false,false] rfl rfl (cO HT_.out HW_.out (by kernel_rfl)) (fun _ _ _ h=>h) (Or.inl ⟨by rfl, ?_⟩) hHeld ?_ ?_
     rotate_left
     ·rintro w' ⟨s0,s1,s2⟩
      go_simp
      with_reducible rfl
     rotate_left
     ·simp only [Act.put,dg,dh,di,aY,a9]
      rfl
     refine iP (i:=3) (N:=some 25) #[true,true,true,true,false,true,false,true,false,false,false,false,false,false] rfl rfl (dZ HT_.out (by kernel_rfl)) (by decide) (fun K hK=> ?_)
     refine mA Try.func84 (by kernel_rfl) rfl #[.pointer (some ⟨ig,0,none⟩),.int .i64 2] (by rfl) rfl rfl (by (try simp only [List.map_toArray,List.map_cons,List.map_nil]);first|done|rfl|(simp only [List.length_drop,List.length_take];rfl)) ?_
     with_reducible refine (aJ.calls ig fe mS 2 AK Jv w _ ?bS ?bT PQ.out).mono ?_
     (case bS=>repeat (first|(with_reducible first|exact bU.out|apply ax.alloc|apply ax.drewN|apply ax.drew|apply ax.e9|refine ax.far ?_ cY.out _|refine ax.far ?_ db.out _)|exact bU.out))
     (case bT=>repeat (first|(with_reducible first|exact HB.out|apply ae|apply ab|apply af|refine ai ?_ (ax.ge bU.out)|refine ai ?_ iU.out|refine ai ?_ jF.out)|exact HB.out))
     rintro e Fw ⟨rfl,hi,hb,hk⟩
     refine ⟨_,rfl, ?_⟩
     have br:=aa.mk (Kd.bN (Kd.kD (ax.apart (show ax w _ ig fe mS from by repeat (first|(with_reducible first|exact bU.out|apply ax.alloc|apply ax.drewN|apply ax.drew|apply ax.e9|refine ax.far ?_ cY.out _|refine ax.far ?_ db.out _)|exact bU.out)) (by (with_reducible repeat (first|apply Kd.aw|apply Kd.av|apply Kd.aA));exact HO_111001.out) (by decide)) hk (fun _ h=>h.2)) (fun _ h=>h.1))
     have bt:=aa.mk (dP.ue hk (g':=gA) (o:= .cells #[.int .i64 0,.slice none 0 0,.slice none 0 0] 26 (0,0)) (by (with_reducible repeat (first|refine ak ?_ _|refine aq ?_|refine aj ?_ _));exact dm.out) jj.out (by simp))
     have bA:=aa.mk (dP.ue hk (g':=fc) (o:= .cells #[.int .i64 (wrap64 (2+ej)),lU,.slice none 0 0] 26 (0,0)) (by (with_reducible repeat (first|refine ak ?_ _|refine aq ?_|refine aj ?_ _));exact cw.out) ij.out (by simp))
     have bK:=aa.mk (hb)
     have cL:=aa.mk (hi)
     clear HO_111001 dm cw HB bU
     have HO_111001:=br;have dm:=bt;have cw:=bA;have HB:=bK;have bU:=cL
     clear br bt bA bK cL
     (try clear hb);(try clear hb2);(try clear hk);(try clear hi)
     refine hK.out _ _ ⟨(ag cw.out 0).trans rfl,(ag cw.out 1).trans rfl,(ag cw.out 2).trans rfl⟩ (fun hHeld=> ?_)
     clear hK K
     refine eM (a':= ?_) ?_ ?_
     rotate_left
     ·show Act.put _ (some 25) _=_
      simp only [Act.put,dg,dh,di,aY,a9]
      rfl
     refine bP (i:=4) (N:=some 26) (v:= ?_) (a':= ?_) #[true,true,true,true,true,true,false,true,false,false,false,false,false,false] rfl rfl (bz HT_.out (by kernel_rfl)) (fun _ _ _ h=>h) (Or.inl ⟨by rfl, ?_⟩) ?_ ?_
     rotate_left
     ·intro w'
      go_simp
      with_reducible rfl
     rotate_left
     ·simp only [Act.put,dg,dh,di,aY,a9]
      rfl
     refine iP (i:=6) (N:=some 28) #[true,true,true,true,true,true,true,true,false,false,false,false,false,false] rfl rfl (dZ HT_.out (by kernel_rfl)) (by decide) (fun K hK=> ?_)
     refine mA Try.func84 (by kernel_rfl) rfl #[.pointer (some ⟨ig,0,none⟩),.int .i64 3] (by rfl) rfl rfl (by (try simp only [List.map_toArray,List.map_cons,List.map_nil]);first|done|rfl|(simp only [List.length_drop,List.length_take];rfl)) ?_
     with_reducible refine (aJ.calls ig fe Jv 3 CE Jw w _ ?bS ?bT AO.out).mono ?_
     (case bS=>repeat (first|(with_reducible first|exact bU.out|apply ax.alloc|apply ax.drewN|apply ax.drew|apply ax.e9|refine ax.far ?_ cY.out _|refine ax.far ?_ db.out _)|exact bU.out))
     (case bT=>repeat (first|(with_reducible first|exact HB.out|apply ae|apply ab|apply af|refine ai ?_ (ax.ge bU.out)|refine ai ?_ iU.out|refine ai ?_ jF.out)|exact HB.out))
     rintro e AG ⟨rfl,hi,hb,hk⟩
     refine ⟨_,rfl, ?_⟩
     have br:=aa.mk (Kd.bN (Kd.kD (ax.apart (show ax w _ ig fe Jv from by repeat (first|(with_reducible first|exact bU.out|apply ax.alloc|apply ax.drewN|apply ax.drew|apply ax.e9|refine ax.far ?_ cY.out _|refine ax.far ?_ db.out _)|exact bU.out)) (by (with_reducible repeat (first|apply Kd.aw|apply Kd.av|apply Kd.aA));exact HO_111001.out) (by decide)) hk (fun _ h=>h.2)) (fun _ h=>h.1))
     have bt:=aa.mk (dP.ue hk (g':=gA) (o:= .cells #[.int .i64 0,.slice none 0 0,.slice none 0 0] 26 (0,0)) (by (with_reducible repeat (first|refine ak ?_ _|refine aq ?_|refine aj ?_ _));exact dm.out) jj.out (by simp))
     have bA:=aa.mk (dP.ue hk (g':=fc) (o:= .cells #[.int .i64 (wrap64 (2+ej)),lU,.slice none 0 0] 26 (0,0)) (by (with_reducible repeat (first|refine ak ?_ _|refine aq ?_|refine aj ?_ _));exact cw.out) ij.out (by simp))
     have bK:=aa.mk (hb)
     have cL:=aa.mk (hi)
     clear HO_111001 dm cw HB bU
     have HO_111001:=br;have dm:=bt;have cw:=bA;have HB:=bK;have bU:=cL
     clear br bt bA bK cL
     (try clear hb);(try clear hb2);(try clear hk);(try clear hi)
     refine hK.out _ _ ⟨(ag cw.out 0).trans rfl,(ag cw.out 1).trans rfl,(ag cw.out 2).trans rfl⟩ (fun hHeld=> ?_)
     clear hK K
     refine eM (a':= ?_) ?_ ?_
     rotate_left
     ·show Act.put _ (some 28) _=_
      simp only [Act.put,dg,dh,di,aY,a9]
      rfl
     refine iP (i:=8) (N:=some 30) #[true,true,true,true,true,true,true,true,true,false,false,false,false,false] rfl rfl (dZ HT_.out (by kernel_rfl)) (by decide) (fun K hK=> ?_)
     refine mA Try.func84 (by kernel_rfl) rfl #[.pointer (some ⟨ig,0,none⟩),.int .i64 3] (by rfl) rfl rfl (by (try simp only [List.map_toArray,List.map_cons,List.map_nil]);first|done|rfl|(simp only [List.length_drop,List.length_take];rfl)) ?_
     with_reducible refine (aJ.calls ig fe Jw 3 Fv GQ w _ ?bS ?bT YJ.out).mono ?_
     (case bS=>repeat (first|(with_reducible first|exact bU.out|apply ax.alloc|apply ax.drewN|apply ax.drew|apply ax.e9|refine ax.far ?_ cY.out _|refine ax.far ?_ db.out _)|exact bU.out))
     (case bT=>repeat (first|(with_reducible first|exact HB.out|apply ae|apply ab|apply af|refine ai ?_ (ax.ge bU.out)|refine ai ?_ iU.out|refine ai ?_ jF.out)|exact HB.out))
     rintro e PZ ⟨rfl,hi,hb,hk⟩
     refine ⟨_,rfl, ?_⟩
     have br:=aa.mk (Kd.bN (Kd.kD (ax.apart (show ax w _ ig fe Jw from by repeat (first|(with_reducible first|exact bU.out|apply ax.alloc|apply ax.drewN|apply ax.drew|apply ax.e9|refine ax.far ?_ cY.out _|refine ax.far ?_ db.out _)|exact bU.out)) (by (with_reducible repeat (first|apply Kd.aw|apply Kd.av|apply Kd.aA));exact HO_111001.out) (by decide)) hk (fun _ h=>h.2)) (fun _ h=>h.1))
     have bt:=aa.mk (dP.ue hk (g':=gA) (o:= .cells #[.int .i64 0,.slice none 0 0,.slice none 0 0] 26 (0,0)) (by (with_reducible repeat (first|refine ak ?_ _|refine aq ?_|refine aj ?_ _));exact dm.out) jj.out (by simp))
     have bA:=aa.mk (dP.ue hk (g':=fc) (o:= .cells #[.int .i64 (wrap64 (2+ej)),lU,.slice none 0 0] 26 (0,0)) (by (with_reducible repeat (first|refine ak ?_ _|refine aq ?_|refine aj ?_ _));exact cw.out) ij.out (by simp))
     have bK:=aa.mk (hb)
     have cL:=aa.mk (hi)
     clear HO_111001 dm cw HB bU
     have HO_111001:=br;have dm:=bt;have cw:=bA;have HB:=bK;have bU:=cL
     clear br bt bA bK cL
     (try clear hb);(try clear hb2);(try clear hk);(try clear hi)
     refine hK.out _ _ ⟨(ag cw.out 0).trans rfl,(ag cw.out 1).trans rfl,(ag cw.out 2).trans rfl⟩ (fun hHeld=> ?_)
     clear hK K
     refine eM (a':= ?_) ?_ ?_
     rotate_left
     ·show Act.put _ (some 30) _=_
      simp only [Act.put,dg,dh,di,aY,a9]
      rfl
     refine bP (i:=9) (N:=some 31) (v:= ?_) (a':= ?_) #[true,true,true,true,true,true,true,true,true,true,false,false,false,false] rfl rfl (bz HT_.out (by kernel_rfl)) (fun _ _ _ h=>h) (Or.inl ⟨by rfl, ?_⟩) ?_ ?_
     rotate_left
     ·intro w'
      go_simp
      with_reducible rfl
     rotate_left
     ·simp only [Act.put,dg,dh,di,aY,a9]
      rfl
     refine iP (i:=10) (N:=some 32) #[true,true,true,true,true,true,true,true,true,true,true,false,false,false] rfl rfl (dZ HT_.out (by kernel_rfl)) (by decide) (fun K hK=> ?_)
     refine kL (w1:= ?_) (v:= ?_) (by rfl) rfl ?_ ?_
     rotate_left 2
     ·go_simp
      constructor
      ·rfl
      rfl
     refine hK.out _ _ ⟨(ag (aj cw.out _) 0).trans rfl,(ag (aj cw.out _) 1).trans rfl,(ag (aj cw.out _) 2).trans rfl⟩ (fun hHeld=> ?_)
     clear hK K
     refine eM (a':= ?_) ?_ ?_
     rotate_left
     ·show Act.put _ (some 32) _=_
      simp only [Act.put,dg,dh,di,aY,a9]
      rfl
     refine iP (i:=11) (N:=some 33) #[true,true,true,true,true,true,true,true,true,true,true,true,false,false] rfl rfl (dZ HT_.out (by kernel_rfl)) (by decide) (fun K hK=> ?_)
     refine Kd.pz oS (w0:=w) w.heap.size (by rfl) (.tmp 23) (.tmp 32) 23 97 (.agg #[(.int .i64 0),(.int .i64 0),(.int .i64 0)]) 24 rfl Try.underlying23 GA rfl (by decide) (by omega) lU bp (⟨wrap64 (1+AK),CE,Fv⟩:hO) [.int .i64 (wrap64 (1+AK)),.int .i64 CE,.int .i64 Fv] (fun _=>True) (fun _=>False) rfl rfl ?aP (fun _ hk=>hk.elim) ?aF ?aO ?aB ?aS ?aL ?_
     (case aP=>exact Dy _ _ _ (⟨wrap64 (1+AK),CE,Fv⟩:hO))
     (case aB=>exact (by repeat (first|(with_reducible first|exact HB.out|apply ae|apply ab|apply af|refine ai ?_ (ax.ge bU.out)|refine ai ?_ iU.out|refine ai ?_ jF.out)|exact HB.out)))
     (case aF=>exact (fun _ _=>trivial))
     (case aO=>exact (by (with_reducible repeat (first|apply Kd.aw|apply Kd.av|apply Kd.aA));exact HO_111001.out))
     (case aS=>exact (az (by repeat (first|(with_reducible first|exact HB.out|apply ae|apply ab|apply af|refine ai ?_ (ax.ge bU.out)|refine ai ?_ iU.out|refine ai ?_ jF.out)|exact HB.out))))
     (case aL=>have:=GS.out;omega)
     intro adl Ju ho hb hg hat
     rw [← PY.out] at ho
     have br:=aa.mk (dq (g:=gA) (o:= .cells #[.int .i64 0,.slice none 0 0,.slice none 0 0] 26 (0,0)) (by (with_reducible repeat (first|refine ak ?_ _|refine aq ?_|refine aj ?_ _));exact dm.out) hg (Kd.mz HO_111001.out dm.out (by decide)))
     have bt:=aa.mk (dq (g:=fc) (o:= .cells #[.int .i64 (wrap64 (2+ej)),lU,.slice none 0 0] 26 (0,0)) (by (with_reducible repeat (first|refine ak ?_ _|refine aq ?_|refine aj ?_ _));exact cw.out) hg (Kd.mz HO_111001.out cw.out (by decide)))
     have bA:=aa.mk (ax.grown (show ax w _ ig fe GQ from by repeat (first|(with_reducible first|exact bU.out|apply ax.alloc|apply ax.drewN|apply ax.drew|apply ax.e9|refine ax.far ?_ cY.out _|refine ax.far ?_ db.out _)|exact bU.out)) hg (ax.mO bU.out HO_111001.out (by decide)))
     have bK:=aa.mk (hb)
     have cL:=aa.mk (ho)
     clear dm cw bU HB HO_111001
     have dm:=br;have cw:=bt;have bU:=bA;have HB:=bK;have LG:=cL
     clear br bt bA bK cL ho hb hg hat
     obtain ⟨qR,qT,Fx⟩:=Kd.cA LG.out
     (first|subst Fx|(injection Fx with uM AU uN;have AV:=uM.symm;have AW:=uN.symm;clear uM AU uN;subst AV;subst AW))
     refine hK.out _ _ ⟨(ag cw.out 0).trans rfl,(ag cw.out 1).trans rfl,(ag cw.out 2).trans rfl⟩ (fun hHeld=> ?_)
     clear hK K
     refine eM (a':= ?_) ?_ ?_
     rotate_left
     ·show Act.put _ (some 33) _=_
      simp only [Act.put,dg,dh,di,aY,a9]
      rfl
     refine bP (i:=12) (N:=some 34) (v:= ?_) (a':= ?_) #[true,true,true,true,true,true,true,true,true,true,true,true,true,false] rfl rfl (bz HT_.out (by kernel_rfl)) (fun _ _ _ h=>h) (Or.inl ⟨by rfl, ?_⟩) ?_ ?_
     rotate_left
     ·intro w'
      go_simp
      with_reducible rfl
     rotate_left
     ·simp only [Act.put,dg,dh,di,aY,a9]
      rfl
     refine qz (i:=13) (N:=none) #[true,true,true,true,true,true,true,true,true,true,true,true,true,true] rfl rfl (dZ HT_.out (by kernel_rfl)) (by decide) (fun K hK=> ?_)
     have adm:Ju.cell? ⟨fc,1,none⟩=some (lU):=(ag cw.out 1).trans rfl
     have aa5:=ah cw.out 1
     have TQ:=kC.out
     have TR:=pM.out
     refine oz (w1:= ?_) (by rfl) rfl ?_ ?_
     rotate_left
     ·go_simp
      rfl
     refine hK.out _ _ ?_
     clear hK K
     refine j1 (gD HT_.out (by kernel_rfl)) ?_
     try go_wp2
     go_roundg k1
     case measure=>have:=lw.out;omega
     case rel=>exact ⟨(wrap64 (gI - 1)),(GQ),(Jx),(.slice qR Jx.length qT),(by first|rfl|(simp;done)|(simp [*];done)),H',⟨by have:=lw.out;omega⟩,⟨by (with_reducible repeat (first|apply Kd.aw|apply Kd.av|apply Kd.aA));exact Kd.bN (Kd.cg (p:=⟨fc,1,none⟩) (Kd.dL LG.out cw.out (by decide)) (fun _ hk=>hk.2) (.slice qR Jx.length qT)) (fun _ hk=>trivial)⟩,⟨by (with_reducible repeat (first|refine ak ?_ _|refine aq ?_|refine aj ?_ _));refine cI ?_ kC.out _;(with_reducible repeat (first|refine ak ?_ _|refine aq ?_|refine aj ?_ _));exact dm.out⟩,⟨by (with_reducible repeat (first|refine ak ?_ _|refine aq ?_|refine aj ?_ _));refine df (cs:=#[.int .i64 (wrap64 (2+ej)),lU,.slice none 0 0]) ?_ 1 _ rfl;(with_reducible repeat (first|refine ak ?_ _|refine aq ?_|refine aj ?_ _));exact cw.out⟩,⟨by repeat (first|(with_reducible first|exact bU.out|apply ax.alloc|apply ax.drewN|apply ax.drew|apply ax.e9|refine ax.far ?_ cY.out _|refine ax.far ?_ db.out _)|exact bU.out)⟩,⟨by repeat (first|(with_reducible first|exact HB.out|apply ae|apply ab|apply af|refine ai ?_ (ax.ge bU.out)|refine ai ?_ iU.out|refine ai ?_ jF.out)|exact HB.out)⟩⟩
    rw [if_neg qf] at H
    exact absurd H (by simp)
   rw [if_neg oh] at H
   have c13b0:decide (0<gI)=false:=decide_eq_false oh
   clear oh
   replace H:=Option.bind_eq_some_iff.mp H
   obtain ⟨⟨M0,M3⟩,P0,H⟩:=H
   replace H:(aG.l1 k1 (bp.length:Int) M0 fe M3 (wrap64 (2+ej)) bp ([]:List (eu)))=some (r1,r2,r3):=H
   have A25:=aa.mk P0
   clear P0
   have H':=aa.mk H
   clear H
   have P1:=pM.out
   have P2:=kC.out
   have ye:=ij.out
   have yf:=db.out
   have nQ:wr.cell? ⟨fc,0,none⟩=some (.int .i64 (wrap64 (2+ej))):=(ag cw.out 0).trans rfl
   have nR:wr.cell? ⟨fc,1,none⟩=some (lU):=(ag cw.out 1).trans rfl
   have nS:wr.cell? ⟨fc,2,none⟩=some (.slice none 0 0):=(ag cw.out 2).trans rfl
   have nT:=ah cw.out 0
   have nU:=ah cw.out 1
   have nV:=ah cw.out 2
   obtain ⟨kZ,lc,M4⟩:=Kd.cA HO_111001.out
   subst M4
   go_wp2_with (first|((with_reducible refine bY (f:=84) rfl ?_);refine er (some 39) rfl rfl Try.func84 (by kernel_rfl) rfl #[.pointer (some ⟨ig,0,none⟩),.int .i64 9] rfl (by (try simp only [List.map_toArray,List.map_cons,List.map_nil]);first|done|rfl|(simp only [List.length_drop,List.length_take];rfl)) ?_;(with_reducible refine (aJ.calls ig fe mS 9 M0 M3 w _ ?bS ?bT A25.out).mono ?_);(case bS=>repeat (first|(with_reducible first|exact bU.out|apply ax.alloc|apply ax.drewN|apply ax.drew|apply ax.e9|refine ax.far ?_ cY.out _|refine ax.far ?_ db.out _)|exact bU.out));(case bT=>repeat (first|(with_reducible first|exact HB.out|apply ae|apply ab|apply af|refine ai ?_ (ax.ge bU.out)|refine ai ?_ iU.out|refine ai ?_ jF.out)|exact HB.out));rintro e vm ⟨rfl,hi,hb,hk⟩;refine ⟨_,rfl, ?_⟩;have br:=aa.mk (Kd.bN (Kd.kD (ax.apart (show ax w _ ig fe mS from by repeat (first|(with_reducible first|exact bU.out|apply ax.alloc|apply ax.drewN|apply ax.drew|apply ax.e9|refine ax.far ?_ cY.out _|refine ax.far ?_ db.out _)|exact bU.out)) (by (with_reducible repeat (first|apply Kd.aw|apply Kd.av|apply Kd.aA));exact HO_111001.out) (by decide)) hk (fun _ h=>h.2)) (fun _ h=>h.1));have bt:=aa.mk (dP.ue hk (g':=gA) (o:= .cells #[.int .i64 0,.slice none 0 0,.slice none 0 0] 26 (0,0)) (by (with_reducible repeat (first|refine ak ?_ _|refine aq ?_|refine aj ?_ _));exact dm.out) jj.out (by simp));have bA:=aa.mk (dP.ue hk (g':=fc) (o:= .cells #[.int .i64 (wrap64 (2+ej)),.slice kZ bp.length lc,.slice none 0 0] 26 (0,0)) (by (with_reducible repeat (first|refine ak ?_ _|refine aq ?_|refine aj ?_ _));exact cw.out) ij.out (by simp));have bK:=aa.mk (hb);have cL:=aa.mk (hi);clear HO_111001;clear dm;clear cw;clear HB;clear bU;have HO_111001:=br;have dm:=bt;have cw:=bA;have HB:=bK;have bU:=cL;clear br bt bA bK cL;(try clear hb);(try clear hb2);(try clear hk);(try clear hi)))
   go_loopg [7] k1 (fun kq v7 w'=>∃ (sm:Int) (ld:Int) (eB:List (eu)) (gm:Value),v7= .int .i64 sm∧aa (aG.l1 kq (bp.length:Int) sm fe ld (wrap64 (2+ej)) bp eB=some (r1,r2,r3))∧aa (kq≤k1)∧aa (Kd.R oS 97 w' w.heap.size (fun _=>True) (.slice kZ bp.length lc) bp)∧aa (Kd.R nD 36 w' w.heap.size (fun _=>True) gm eB)∧aa (w'.heap[gA]? =some (.cells #[.int .i64 0,(.slice none 0 0),(.slice none 0 0)] 26 (0,0)))∧aa (w'.heap[fc]? =some (.cells #[.int .i64 (wrap64 (2+ej)),(.slice kZ bp.length lc),gm] 26 (0,0)))∧aa (ax w w' ig fe ld)∧aa (Below w.heap.size w w'))
   case atStart=>exact ⟨(M0),(M3),(([]:List (eu))),(.slice none 0 0),(by first|rfl|(simp;done)|(simp [*];done)),H',⟨Nat.le_refl _⟩,⟨by (with_reducible repeat (first|apply Kd.aw|apply Kd.av|apply Kd.aA));exact HO_111001.out⟩,⟨by first|exact Kd.jE _ _ _ _ _|exact Kd.sA _ _ _ _ _|exact Kd.sB _ _ _ _ _|exact Kd.sr _ _ _ _ _|exact Kd.sy _ _ _ _ _⟩,⟨by (with_reducible repeat (first|refine ak ?_ _|refine aq ?_|refine aj ?_ _));exact dm.out⟩,⟨by (with_reducible repeat (first|refine ak ?_ _|refine aq ?_|refine aj ?_ _));exact cw.out⟩,⟨by repeat (first|(with_reducible first|exact bU.out|apply ax.alloc|apply ax.drewN|apply ax.drew|apply ax.e9|refine ax.far ?_ cY.out _|refine ax.far ?_ db.out _)|exact bU.out)⟩,⟨by repeat (first|(with_reducible first|exact HB.out|apply ae|apply ab|apply af|refine ai ?_ (ax.ge bU.out)|refine ai ?_ iU.out|refine ai ?_ jF.out)|exact HB.out)⟩⟩
   case round=>
    clear H'
    try clear c1
    try clear c2
    try clear p2
    try clear c3
    try clear p6
    try clear c8
    try clear c9
    try clear uq
    try clear oh
    try clear c13b0
    try clear qf
    try clear Jy
    try clear M5
    try clear kT
    try clear kU
    try clear kV
    try clear nQ
    try clear nR
    try clear nS
    try clear kW
    try clear kX
    try clear kY
    try clear nT
    try clear nU
    try clear nV
    try clear p2
    try clear p6
    obtain ⟨sm,ld,eB,gm,rfl,HA,wG,HO_111001,HO_111002,dm,cw,bU,HB⟩:=hrel
    cases gk with
    |zero=>exact absurd HA.out (by simp [aG.l1])
    |succ k2=>
     have H:=HA.out
     clear HA
     simp only [aG.l1] at H
     have M6:=aa.mk H
     clear H
     go_upto_region 9 with (fail)
     go_cut [45] (fun v45 wc=>∃ (kq:Nat) (yL:Bool),v45= .bool yL∧aa (aG.j2 kq (bp.length:Int) sm yL fe ld (wrap64 (2+ej)) bp eB=some (r1,r2,r3))∧aa (kq≤k2)∧aa (Kd.R oS 97 wc w.heap.size (fun _=>True) (.slice kZ bp.length lc) bp)∧aa (Kd.R nD 36 wc w.heap.size (fun _=>True) gm eB)∧aa (wc.heap[gA]? =some (.cells #[.int .i64 0,(.slice none 0 0),(.slice none 0 0)] 26 (0,0)))∧aa (wc.heap[fc]? =some (.cells #[.int .i64 (wrap64 (2+ej)),(.slice kZ bp.length lc),gm] 26 (0,0)))∧aa (ax w wc ig fe ld)∧aa (Below w.heap.size w wc))
     case first=>
      have H:=M6.out
      clear M6
      by_cases LH:sm>0
      ·rw [if_pos LH] at H
       have c32b0:decide (0<sm)=true:=decide_eq_true LH
       clear LH
       (first|rw [c32b0]|(simp only [aY,a9];rw [c32b0])|skip)
       have H':=aa.mk H
       clear H
       go_wp2
       go_meet
       case rel=>exact ⟨_,(decide ((bp.length:Int)>1)),(by first|rfl|(simp;done)|(simp [*];done)),H',⟨by have:=lw.out;have:=wG.out;first|omega|exact Nat.le_refl _⟩,⟨by (with_reducible repeat (first|apply Kd.aw|apply Kd.av|apply Kd.aA));exact HO_111001.out⟩,⟨by (with_reducible repeat (first|apply Kd.aw|apply Kd.av|apply Kd.aA));exact HO_111002.out⟩,⟨by (with_reducible repeat (first|refine ak ?_ _|refine aq ?_|refine aj ?_ _));exact dm.out⟩,⟨by (with_reducible repeat (first|refine ak ?_ _|refine aq ?_|refine aj ?_ _));exact cw.out⟩,⟨by repeat (first|(with_reducible first|exact bU.out|apply ax.alloc|apply ax.drewN|apply ax.drew|apply ax.e9|refine ax.far ?_ cY.out _|refine ax.far ?_ db.out _)|exact bU.out)⟩,⟨by repeat (first|(with_reducible first|exact HB.out|apply ae|apply ab|apply af|refine ai ?_ (ax.ge bU.out)|refine ai ?_ iU.out|refine ai ?_ jF.out)|exact HB.out)⟩⟩
      rw [if_neg LH] at H
      have c32b0:decide (0<sm)=false:=decide_eq_false LH
      clear LH
      (first|rw [c32b0]|(simp only [aY,a9];rw [c32b0])|skip)
      have H':=aa.mk H
      clear H
      go_wp2
      go_meet
      case rel=>exact ⟨_,(false),(by first|rfl|(simp;done)|(simp [*];done)),H',⟨by have:=lw.out;have:=wG.out;first|omega|exact Nat.le_refl _⟩,⟨by (with_reducible repeat (first|apply Kd.aw|apply Kd.av|apply Kd.aA));exact HO_111001.out⟩,⟨by (with_reducible repeat (first|apply Kd.aw|apply Kd.av|apply Kd.aA));exact HO_111002.out⟩,⟨by (with_reducible repeat (first|refine ak ?_ _|refine aq ?_|refine aj ?_ _));exact dm.out⟩,⟨by (with_reducible repeat (first|refine ak ?_ _|refine aq ?_|refine aj ?_ _));exact cw.out⟩,⟨by repeat (first|(with_reducible first|exact bU.out|apply ax.alloc|apply ax.drewN|apply ax.drew|apply ax.e9|refine ax.far ?_ cY.out _|refine ax.far ?_ db.out _)|exact bU.out)⟩,⟨by repeat (first|(with_reducible first|exact HB.out|apply ae|apply ab|apply af|refine ai ?_ (ax.ge bU.out)|refine ai ?_ iU.out|refine ai ?_ jF.out)|exact HB.out)⟩⟩
     case rest=>
      clear M6
      try clear c1
      try clear c2
      try clear p2
      try clear c3
      try clear p6
      try clear c8
      try clear c9
      try clear uq
      try clear oh
      try clear c13b0
      try clear qf
      try clear Jy
      try clear M5
      try clear O4
      try clear LH
      try clear c32b0
      try clear kT
      try clear kU
      try clear kV
      try clear nQ
      try clear nR
      try clear nS
      try clear kW
      try clear kX
      try clear kY
      try clear nT
      try clear nU
      try clear nV
      try clear p2
      try clear p6
      obtain ⟨kq,yL,rfl,HA,P3,HO_111001,HO_111002,dm,cw,bU,HB⟩:=hcut
      cases kq with
      |zero=>exact absurd HA.out (by simp [aG.j2])
      |succ yM=>
       have H:=HA.out
       clear HA
       simp only [aG.j2] at H
       by_cases TS:yL=true
       ·subst TS
        have H1:((aJ.f fe ld 6).bind fun AJ=>((aJ.f fe AJ.2 (bp.length:Int)).bind fun qO=>((aJ.f fe qO.2 5).bind fun qP=>((aJ.f fe qP.2 (wrap64 ((bp.length:Int) - 1))).bind fun oX=>(if (bp.length:Int)=0 then (none) else ((aJ.f fe oX.2 (wrap64 (3*(wrap64 (2+ej))))).bind fun kN=>((aJ.f fe kN.2 (wrap64 (2+ej))).bind fun mm=>(if eB.length<2932031007402 then (aG.l1 yM (bp.length:Int) (wrap64 (sm - 1)) fe mm.2 (wrap64 (2+ej)) bp (eB++[(⟨wrap64 (1+AJ.1),qO.1,Int.tmod (wrap64 ((wrap64 (qO.1+1))+oX.1)) (bp.length:Int),wrap64 (kN.1 - (wrap64 (2+ej))),wrap64 ((wrap64 (kN.1 - (wrap64 (2+ej))))+mm.1),qP.1⟩:eu)])) else (none)))))))))=some (r1,r2,r3):=by rw [if_pos rfl] at H;exact H
        clear H
        have H:=H1
        clear H1
        replace H:=Option.bind_eq_some_iff.mp H
        obtain ⟨⟨jS,GU⟩,P4,H⟩:=H
        replace H:((aJ.f fe GU (bp.length:Int)).bind fun qO=>((aJ.f fe qO.2 5).bind fun qP=>((aJ.f fe qP.2 (wrap64 ((bp.length:Int) - 1))).bind fun oX=>(if (bp.length:Int)=0 then (none) else ((aJ.f fe oX.2 (wrap64 (3*(wrap64 (2+ej))))).bind fun kN=>((aJ.f fe kN.2 (wrap64 (2+ej))).bind fun mm=>(if eB.length<2932031007402 then (aG.l1 yM (bp.length:Int) (wrap64 (sm - 1)) fe mm.2 (wrap64 (2+ej)) bp (eB++[(⟨wrap64 (1+jS),qO.1,Int.tmod (wrap64 ((wrap64 (qO.1+1))+oX.1)) (bp.length:Int),wrap64 (kN.1 - (wrap64 (2+ej))),wrap64 ((wrap64 (kN.1 - (wrap64 (2+ej))))+mm.1),qP.1⟩:eu)])) else (none))))))))=some (r1,r2,r3):=H
        have A34:=aa.mk P4
        clear P4
        replace H:=Option.bind_eq_some_iff.mp H
        obtain ⟨⟨gu,GV⟩,P5,H⟩:=H
        replace H:((aJ.f fe GV 5).bind fun qP=>((aJ.f fe qP.2 (wrap64 ((bp.length:Int) - 1))).bind fun oX=>(if (bp.length:Int)=0 then (none) else ((aJ.f fe oX.2 (wrap64 (3*(wrap64 (2+ej))))).bind fun kN=>((aJ.f fe kN.2 (wrap64 (2+ej))).bind fun mm=>(if eB.length<2932031007402 then (aG.l1 yM (bp.length:Int) (wrap64 (sm - 1)) fe mm.2 (wrap64 (2+ej)) bp (eB++[(⟨wrap64 (1+jS),gu,Int.tmod (wrap64 ((wrap64 (gu+1))+oX.1)) (bp.length:Int),wrap64 (kN.1 - (wrap64 (2+ej))),wrap64 ((wrap64 (kN.1 - (wrap64 (2+ej))))+mm.1),qP.1⟩:eu)])) else (none)))))))=some (r1,r2,r3):=H
        have A35:=aa.mk P5
        clear P5
        replace H:=Option.bind_eq_some_iff.mp H
        obtain ⟨⟨lf,AX⟩,P6,H⟩:=H
        replace H:((aJ.f fe AX (wrap64 ((bp.length:Int) - 1))).bind fun oX=>(if (bp.length:Int)=0 then (none) else ((aJ.f fe oX.2 (wrap64 (3*(wrap64 (2+ej))))).bind fun kN=>((aJ.f fe kN.2 (wrap64 (2+ej))).bind fun mm=>(if eB.length<2932031007402 then (aG.l1 yM (bp.length:Int) (wrap64 (sm - 1)) fe mm.2 (wrap64 (2+ej)) bp (eB++[(⟨wrap64 (1+jS),gu,Int.tmod (wrap64 ((wrap64 (gu+1))+oX.1)) (bp.length:Int),wrap64 (kN.1 - (wrap64 (2+ej))),wrap64 ((wrap64 (kN.1 - (wrap64 (2+ej))))+mm.1),lf⟩:eu)])) else (none))))))=some (r1,r2,r3):=H
        have A36:=aa.mk P6
        clear P6
        replace H:=Option.bind_eq_some_iff.mp H
        obtain ⟨⟨mB,Fy⟩,P7,H⟩:=H
        replace H:(if (bp.length:Int)=0 then (none) else ((aJ.f fe Fy (wrap64 (3*(wrap64 (2+ej))))).bind fun kN=>((aJ.f fe kN.2 (wrap64 (2+ej))).bind fun mm=>(if eB.length<2932031007402 then (aG.l1 yM (bp.length:Int) (wrap64 (sm - 1)) fe mm.2 (wrap64 (2+ej)) bp (eB++[(⟨wrap64 (1+jS),gu,Int.tmod (wrap64 ((wrap64 (gu+1))+mB)) (bp.length:Int),wrap64 (kN.1 - (wrap64 (2+ej))),wrap64 ((wrap64 (kN.1 - (wrap64 (2+ej))))+mm.1),lf⟩:eu)])) else (none)))))=some (r1,r2,r3):=H
        have A37:=aa.mk P7
        clear P7
        by_cases P8:(bp.length:Int)=0
        ·rw [if_pos P8] at H
         exact absurd H (by simp)
        rw [if_neg P8] at H
        have c38b0:((bp.length:Int)==0)=false:=beq_eq_false_iff_ne.mpr P8
        have c38b1:((bp.length:Int) !=0)=true:=bne_iff_ne.mpr P8
        have c38b2:¬(bp=[]):=fun h_=>P8 (by rw [h_];rfl)
        replace H:=Option.bind_eq_some_iff.mp H
        obtain ⟨⟨kK,Fz⟩,P9,H⟩:=H
        replace H:((aJ.f fe Fz (wrap64 (2+ej))).bind fun mm=>(if eB.length<2932031007402 then (aG.l1 yM (bp.length:Int) (wrap64 (sm - 1)) fe mm.2 (wrap64 (2+ej)) bp (eB++[(⟨wrap64 (1+jS),gu,Int.tmod (wrap64 ((wrap64 (gu+1))+mB)) (bp.length:Int),wrap64 (kK - (wrap64 (2+ej))),wrap64 ((wrap64 (kK - (wrap64 (2+ej))))+mm.1),lf⟩:eu)])) else (none)))=some (r1,r2,r3):=H
        have A39:=aa.mk P9
        clear P9
        replace H:=Option.bind_eq_some_iff.mp H
        obtain ⟨⟨wH,GW⟩,Qa,H⟩:=H
        replace H:(if eB.length<2932031007402 then (aG.l1 yM (bp.length:Int) (wrap64 (sm - 1)) fe GW (wrap64 (2+ej)) bp (eB++[(⟨wrap64 (1+jS),gu,Int.tmod (wrap64 ((wrap64 (gu+1))+mB)) (bp.length:Int),wrap64 (kK - (wrap64 (2+ej))),wrap64 ((wrap64 (kK - (wrap64 (2+ej))))+wH),lf⟩:eu)])) else (none))=some (r1,r2,r3):=H
        have yK:=aa.mk Qa
        clear Qa
        by_cases GX:eB.length<2932031007402
        ·rw [if_pos GX] at H
         have Qb:=aa.mk GX
         clear GX
         obtain ⟨GY,AY⟩:∃ y_:List (eu),y_=(eB++[(⟨wrap64 (1+jS),gu,Int.tmod (wrap64 ((wrap64 (gu+1))+mB)) (bp.length:Int),wrap64 (kK - (wrap64 (2+ej))),wrap64 ((wrap64 (kK - (wrap64 (2+ej))))+wH),lf⟩:eu)]):=⟨_,rfl⟩
         replace H:(aG.l1 yM (bp.length:Int) (wrap64 (sm - 1)) fe GW (wrap64 (2+ej)) bp GY)=some (r1,r2,r3):=by first|(rw [AY];with_reducible exact H)|(have gT:=(Option.bind_some _ _).symm.trans H;rw [AY];with_reducible exact gT)|(have gT:=(Option.bind_some _ _).symm.trans H;with_reducible exact gT)|with_reducible exact H|(rw [AY];exact H)|exact H
         have Qc:=aa.mk AY
         clear AY
         have H':=aa.mk H
         clear H
         try go_wp2_with (first|((with_reducible refine bY (f:=84) rfl ?_);refine er (some 49) rfl rfl Try.func84 (by kernel_rfl) rfl #[.pointer (some ⟨ig,0,none⟩),.int .i64 6] rfl (by (try simp only [List.map_toArray,List.map_cons,List.map_nil]);first|done|rfl|(simp only [List.length_drop,List.length_take];rfl)) ?_;(with_reducible refine (aJ.calls ig fe ld 6 jS GU w _ ?bS ?bT A34.out).mono ?_);(case bS=>repeat (first|(with_reducible first|exact bU.out|apply ax.alloc|apply ax.drewN|apply ax.drew|apply ax.e9|refine ax.far ?_ cY.out _|refine ax.far ?_ db.out _)|exact bU.out));(case bT=>repeat (first|(with_reducible first|exact HB.out|apply ae|apply ab|apply af|refine ai ?_ (ax.ge bU.out)|refine ai ?_ iU.out|refine ai ?_ jF.out)|exact HB.out));rintro e w42 ⟨rfl,hi,hb,hk⟩;refine ⟨_,rfl, ?_⟩;have br:=aa.mk (Kd.bN (Kd.kD (ax.apart (show ax w _ ig fe ld from by repeat (first|(with_reducible first|exact bU.out|apply ax.alloc|apply ax.drewN|apply ax.drew|apply ax.e9|refine ax.far ?_ cY.out _|refine ax.far ?_ db.out _)|exact bU.out)) (by (with_reducible repeat (first|apply Kd.aw|apply Kd.av|apply Kd.aA));exact HO_111001.out) (by decide)) hk (fun _ h=>h.2)) (fun _ h=>h.1));have bt:=aa.mk (Kd.bN (Kd.kD (ax.apart (show ax w _ ig fe ld from by repeat (first|(with_reducible first|exact bU.out|apply ax.alloc|apply ax.drewN|apply ax.drew|apply ax.e9|refine ax.far ?_ cY.out _|refine ax.far ?_ db.out _)|exact bU.out)) (by (with_reducible repeat (first|apply Kd.aw|apply Kd.av|apply Kd.aA));exact HO_111002.out) (by decide)) hk (fun _ h=>h.2)) (fun _ h=>h.1));have bA:=aa.mk (dP.ue hk (g':=gA) (o:= .cells #[.int .i64 0,.slice none 0 0,.slice none 0 0] 26 (0,0)) (by (with_reducible repeat (first|refine ak ?_ _|refine aq ?_|refine aj ?_ _));exact dm.out) jj.out (by simp));have bK:=aa.mk (dP.ue hk (g':=fc) (o:= .cells #[.int .i64 (wrap64 (2+ej)),.slice kZ bp.length lc,gm] 26 (0,0)) (by (with_reducible repeat (first|refine ak ?_ _|refine aq ?_|refine aj ?_ _));exact cw.out) ij.out (by simp));have cL:=aa.mk (hb);have dc:=aa.mk (hi);clear HO_111001;clear HO_111002;clear dm;clear cw;clear HB;clear bU;have HO_111001:=br;have HO_111002:=bt;have dm:=bA;have cw:=bK;have HB:=cL;have bU:=dc;clear br bt bA bK cL dc;(try clear hb);(try clear hb2);(try clear hk);(try clear hi))|((with_reducible refine bY (f:=84) rfl ?_);refine er (some 53) rfl rfl Try.func84 (by kernel_rfl) rfl #[.pointer (some ⟨ig,0,none⟩),.int .i64 (bp.length:Int)] rfl (by (try simp only [List.map_toArray,List.map_cons,List.map_nil]);first|done|rfl|(simp only [List.length_drop,List.length_take];rfl)) ?_;(with_reducible refine (aJ.calls ig fe GU (bp.length:Int) gu GV w _ ?bS ?bT A35.out).mono ?_);(case bS=>repeat (first|(with_reducible first|exact bU.out|apply ax.alloc|apply ax.drewN|apply ax.drew|apply ax.e9|refine ax.far ?_ cY.out _|refine ax.far ?_ db.out _)|exact bU.out));(case bT=>repeat (first|(with_reducible first|exact HB.out|apply ae|apply ab|apply af|refine ai ?_ (ax.ge bU.out)|refine ai ?_ iU.out|refine ai ?_ jF.out)|exact HB.out));rintro e z8 ⟨rfl,hi,hb,hk⟩;refine ⟨_,rfl, ?_⟩;have br:=aa.mk (Kd.bN (Kd.kD (ax.apart (show ax w _ ig fe GU from by repeat (first|(with_reducible first|exact bU.out|apply ax.alloc|apply ax.drewN|apply ax.drew|apply ax.e9|refine ax.far ?_ cY.out _|refine ax.far ?_ db.out _)|exact bU.out)) (by (with_reducible repeat (first|apply Kd.aw|apply Kd.av|apply Kd.aA));exact HO_111001.out) (by decide)) hk (fun _ h=>h.2)) (fun _ h=>h.1));have bt:=aa.mk (Kd.bN (Kd.kD (ax.apart (show ax w _ ig fe GU from by repeat (first|(with_reducible first|exact bU.out|apply ax.alloc|apply ax.drewN|apply ax.drew|apply ax.e9|refine ax.far ?_ cY.out _|refine ax.far ?_ db.out _)|exact bU.out)) (by (with_reducible repeat (first|apply Kd.aw|apply Kd.av|apply Kd.aA));exact HO_111002.out) (by decide)) hk (fun _ h=>h.2)) (fun _ h=>h.1));have bA:=aa.mk (dP.ue hk (g':=gA) (o:= .cells #[.int .i64 0,.slice none 0 0,.slice none 0 0] 26 (0,0)) (by (with_reducible repeat (first|refine ak ?_ _|refine aq ?_|refine aj ?_ _));exact dm.out) jj.out (by simp));have bK:=aa.mk (dP.ue hk (g':=fc) (o:= .cells #[.int .i64 (wrap64 (2+ej)),.slice kZ bp.length lc,gm] 26 (0,0)) (by (with_reducible repeat (first|refine ak ?_ _|refine aq ?_|refine aj ?_ _));exact cw.out) ij.out (by simp));have cL:=aa.mk (hb);have dc:=aa.mk (hi);clear HO_111001;clear HO_111002;clear dm;clear cw;clear HB;clear bU;have HO_111001:=br;have HO_111002:=bt;have dm:=bA;have cw:=bK;have HB:=cL;have bU:=dc;clear br bt bA bK cL dc;(try clear hb);(try clear hb2);(try clear hk);(try clear hi))|((with_reducible refine bY (f:=84) rfl ?_);refine er (some 55) rfl rfl Try.func84 (by kernel_rfl) rfl #[.pointer (some ⟨ig,0,none⟩),.int .i64 5] rfl (by (try simp only [List.map_toArray,List.map_cons,List.map_nil]);first|done|rfl|(simp only [List.length_drop,List.length_take];rfl)) ?_;(with_reducible refine (aJ.calls ig fe GV 5 lf AX w _ ?bS ?bT A36.out).mono ?_);(case bS=>repeat (first|(with_reducible first|exact bU.out|apply ax.alloc|apply ax.drewN|apply ax.drew|apply ax.e9|refine ax.far ?_ cY.out _|refine ax.far ?_ db.out _)|exact bU.out));(case bT=>repeat (first|(with_reducible first|exact HB.out|apply ae|apply ab|apply af|refine ai ?_ (ax.ge bU.out)|refine ai ?_ iU.out|refine ai ?_ jF.out)|exact HB.out));rintro e w44 ⟨rfl,hi,hb,hk⟩;refine ⟨_,rfl, ?_⟩;have br:=aa.mk (Kd.bN (Kd.kD (ax.apart (show ax w _ ig fe GV from by repeat (first|(with_reducible first|exact bU.out|apply ax.alloc|apply ax.drewN|apply ax.drew|apply ax.e9|refine ax.far ?_ cY.out _|refine ax.far ?_ db.out _)|exact bU.out)) (by (with_reducible repeat (first|apply Kd.aw|apply Kd.av|apply Kd.aA));exact HO_111001.out) (by decide)) hk (fun _ h=>h.2)) (fun _ h=>h.1));have bt:=aa.mk (Kd.bN (Kd.kD (ax.apart (show ax w _ ig fe GV from by repeat (first|(with_reducible first|exact bU.out|apply ax.alloc|apply ax.drewN|apply ax.drew|apply ax.e9|refine ax.far ?_ cY.out _|refine ax.far ?_ db.out _)|exact bU.out)) (by (with_reducible repeat (first|apply Kd.aw|apply Kd.av|apply Kd.aA));exact HO_111002.out) (by decide)) hk (fun _ h=>h.2)) (fun _ h=>h.1));have bA:=aa.mk (dP.ue hk (g':=gA) (o:= .cells #[.int .i64 0,.slice none 0 0,.slice none 0 0] 26 (0,0)) (by (with_reducible repeat (first|refine ak ?_ _|refine aq ?_|refine aj ?_ _));exact dm.out) jj.out (by simp));have bK:=aa.mk (dP.ue hk (g':=fc) (o:= .cells #[.int .i64 (wrap64 (2+ej)),.slice kZ bp.length lc,gm] 26 (0,0)) (by (with_reducible repeat (first|refine ak ?_ _|refine aq ?_|refine aj ?_ _));exact cw.out) ij.out (by simp));have cL:=aa.mk (hb);have dc:=aa.mk (hi);clear HO_111001;clear HO_111002;clear dm;clear cw;clear HB;clear bU;have HO_111001:=br;have HO_111002:=bt;have dm:=bA;have cw:=bK;have HB:=cL;have bU:=dc;clear br bt bA bK cL dc;(try clear hb);(try clear hb2);(try clear hk);(try clear hi))|((with_reducible refine bF (N:=8) rfl ?_);refine bH ?hg (N:=8) ?hd (cs:=#[.int .i64 0,.int .i64 0,.int .i64 0,.int .i64 0,.int .i64 0,.int .i64 0]) (t:=36) ?hr ?_;(case hd=>rfl);(case hg=>rfl);(case hr=>first|(go_simp;done)|(go_simp;rfl));intro cB hg DF hbox hb;have br:=aa.mk (Kd.aZ (by (with_reducible repeat (first|apply Kd.aw|apply Kd.av|apply Kd.aA));exact HO_111001.out) hb);have bt:=aa.mk (Kd.aZ (Kd.Gm (by (with_reducible repeat (first|apply Kd.aw|apply Kd.av|apply Kd.aA));exact HO_111002.out) cB (Nat.le_of_eq hg.symm)) hb);have bA:=aa.mk (aH (g:=gA) (o:= .cells #[.int .i64 0,.slice none 0 0,.slice none 0 0] 26 (0,0)) (by (with_reducible repeat (first|refine ak ?_ _|refine aq ?_|refine aj ?_ _));exact dm.out) hb);have bK:=aa.mk (aH (g:=fc) (o:= .cells #[.int .i64 (wrap64 (2+ej)),.slice kZ bp.length lc,gm] 26 (0,0)) (by (with_reducible repeat (first|refine ak ?_ _|refine aq ?_|refine aj ?_ _));exact cw.out) hb);have cL:=aa.mk (ax.below (by repeat (first|(with_reducible first|exact bU.out|apply ax.alloc|apply ax.drewN|apply ax.drew|apply ax.e9|refine ax.far ?_ cY.out _|refine ax.far ?_ db.out _)|exact bU.out)) hb);have dc:=aa.mk (aE (by repeat (first|(with_reducible first|exact HB.out|apply ae|apply ab|apply af|refine ai ?_ (ax.ge bU.out)|refine ai ?_ iU.out|refine ai ?_ jF.out)|exact HB.out)) hb);have dQ:=aa.mk (hbox);have gL:=aa.mk ((by rw [hg];exact (az (by repeat (first|(with_reducible first|exact HB.out|apply ae|apply ab|apply af|refine ai ?_ (ax.ge bU.out)|refine ai ?_ iU.out|refine ai ?_ jF.out)|exact HB.out))):w.heap.size≤cB));have hY:=aa.mk ((by rw [hg];exact (az (by repeat (first|(with_reducible first|exact HB.out|apply ae|apply ab|apply af|refine ai ?_ (ax.ge bU.out)|refine ai ?_ iU.out|refine ai ?_ jF.out)|exact HB.out))):w.heap.size≤cB));have jv:=aa.mk ((by rw [hg];exact Nat.ne_of_lt (cn (g:=gA) (o:= .cells #[.int .i64 0,.slice none 0 0,.slice none 0 0] 26 (0,0)) (by (with_reducible repeat (first|refine ak ?_ _|refine aq ?_|refine aj ?_ _));exact dm.out)):gA≠cB));have fz:=aa.mk ((by rw [hg];exact Nat.ne_of_gt (cn (g:=gA) (o:= .cells #[.int .i64 0,.slice none 0 0,.slice none 0 0] 26 (0,0)) (by (with_reducible repeat (first|refine ak ?_ _|refine aq ?_|refine aj ?_ _));exact dm.out)):cB≠gA));have fO:=aa.mk ((by rw [hg];exact Nat.ne_of_lt (cn (g:=fc) (o:= .cells #[.int .i64 (wrap64 (2+ej)),.slice kZ bp.length lc,gm] 26 (0,0)) (by (with_reducible repeat (first|refine ak ?_ _|refine aq ?_|refine aj ?_ _));exact cw.out)):fc≠cB));have oD:=aa.mk ((by rw [hg];exact Nat.ne_of_gt (cn (g:=fc) (o:= .cells #[.int .i64 (wrap64 (2+ej)),.slice kZ bp.length lc,gm] 26 (0,0)) (by (with_reducible repeat (first|refine ak ?_ _|refine aq ?_|refine aj ?_ _));exact cw.out)):cB≠fc));have tq:=aa.mk ((by rw [hg];exact Nat.ne_of_lt (ax.lt (show ax w _ ig fe AX from by repeat (first|(with_reducible first|exact bU.out|apply ax.alloc|apply ax.drewN|apply ax.drew|apply ax.e9|refine ax.far ?_ cY.out _|refine ax.far ?_ db.out _)|exact bU.out))):ig≠cB));have tr:=aa.mk ((by rw [hg];exact Nat.ne_of_gt (ax.lt (show ax w _ ig fe AX from by repeat (first|(with_reducible first|exact bU.out|apply ax.alloc|apply ax.drewN|apply ax.drew|apply ax.e9|refine ax.far ?_ cY.out _|refine ax.far ?_ db.out _)|exact bU.out))):cB≠ig));clear HO_111001;clear HO_111002;clear dm;clear cw;clear bU;clear HB;have HO_111001:=br;have HO_111002:=bt;have dm:=bA;have cw:=bK;have bU:=cL;have HB:=dc;have dK:=dQ;have aa6:=gL;have tu:=hY;have jk:=jv;have rH:=fz;have gY:=fO;have rI:=oD;have ik:=tq;have rJ:=tr;clear br bt bA bK cL dc dQ gL hY jv fz fO oD tq tr;clear hb hbox hg;have aa7:=rH.out;have aa8:=jk.out;have aa9:=rI.out;have aba:=gY.out;have abb:=rJ.out;have abc:=ik.out;have yN:DF.cell? ⟨cB,0,none⟩=some (.int .i64 0):=(ag dK.out 0).trans rfl;have yO:DF.cell? ⟨cB,1,none⟩=some (.int .i64 0):=(ag dK.out 1).trans rfl;have yP:DF.cell? ⟨cB,2,none⟩=some (.int .i64 0):=(ag dK.out 2).trans rfl;have TT:DF.cell? ⟨cB,3,none⟩=some (.int .i64 0):=(ag dK.out 3).trans rfl;have TU:DF.cell? ⟨cB,4,none⟩=some (.int .i64 0):=(ag dK.out 4).trans rfl;have TV:DF.cell? ⟨cB,5,none⟩=some (.int .i64 0):=(ag dK.out 5).trans rfl;have yQ:=ah dK.out 0;have yR:=ah dK.out 1;have yS:=ah dK.out 2;have TW:=ah dK.out 3;have TX:=ah dK.out 4;have TY:=ah dK.out 5))
         have br:aa (Kd.R oS 97 ((((((DF.setCell ⟨cB,0,none⟩ (.int .i64 (wrap64 (1+jS)))).setCell ⟨cB,1,none⟩ (.int .i64 gu)).setCell ⟨cB,2,none⟩ (.int .i64 0)).setCell ⟨cB,3,none⟩ (.int .i64 0)).setCell ⟨cB,4,none⟩ (.int .i64 0)).setCell ⟨cB,5,none⟩ (.int .i64 lf)) w.heap.size (fun _=>True) (.slice kZ bp.length lc) bp):=⟨by (with_reducible repeat (first|apply Kd.aw|apply Kd.av|apply Kd.aA));exact Kd.bN (Kd.cg (p:=⟨cB,5,none⟩) (Kd.cg (p:=⟨cB,4,none⟩) (Kd.cg (p:=⟨cB,3,none⟩) (Kd.cg (p:=⟨cB,2,none⟩) (Kd.cg (p:=⟨cB,1,none⟩) (Kd.cg (p:=⟨cB,0,none⟩) (Kd.dL HO_111001.out dK.out (by decide)) (fun _ hk=>hk.2) (.int .i64 (wrap64 (1+jS)))) (fun _ hk=>hk.2) (.int .i64 gu)) (fun _ hk=>hk.2) (.int .i64 0)) (fun _ hk=>hk.2) (.int .i64 0)) (fun _ hk=>hk.2) (.int .i64 0)) (fun _ hk=>hk.2) (.int .i64 lf)) (fun _ hk=>trivial)⟩
         have bt:aa (Kd.R nD 36 ((((((DF.setCell ⟨cB,0,none⟩ (.int .i64 (wrap64 (1+jS)))).setCell ⟨cB,1,none⟩ (.int .i64 gu)).setCell ⟨cB,2,none⟩ (.int .i64 0)).setCell ⟨cB,3,none⟩ (.int .i64 0)).setCell ⟨cB,4,none⟩ (.int .i64 0)).setCell ⟨cB,5,none⟩ (.int .i64 lf)) w.heap.size (fun k_=>k_≠cB) gm eB):=⟨by (with_reducible repeat (first|apply Kd.aw|apply Kd.av|apply Kd.aA));exact Kd.bN (Kd.cg (p:=⟨cB,5,none⟩) (Kd.cg (p:=⟨cB,4,none⟩) (Kd.cg (p:=⟨cB,3,none⟩) (Kd.cg (p:=⟨cB,2,none⟩) (Kd.cg (p:=⟨cB,1,none⟩) (Kd.cg (p:=⟨cB,0,none⟩) (Kd.bN HO_111002.out (fun k_ hk=>(⟨hk,hk.2⟩:_∧k_≠cB))) (fun _ hk=>hk.2) (.int .i64 (wrap64 (1+jS)))) (fun _ hk=>hk.2) (.int .i64 gu)) (fun _ hk=>hk.2) (.int .i64 0)) (fun _ hk=>hk.2) (.int .i64 0)) (fun _ hk=>hk.2) (.int .i64 0)) (fun _ hk=>hk.2) (.int .i64 lf)) (fun _ hk=>hk.1.2)⟩
         have bA:aa (((((((DF.setCell ⟨cB,0,none⟩ (.int .i64 (wrap64 (1+jS)))).setCell ⟨cB,1,none⟩ (.int .i64 gu)).setCell ⟨cB,2,none⟩ (.int .i64 0)).setCell ⟨cB,3,none⟩ (.int .i64 0)).setCell ⟨cB,4,none⟩ (.int .i64 0)).setCell ⟨cB,5,none⟩ (.int .i64 lf)).heap[gA]? =some (.cells #[.int .i64 0,.slice none 0 0,.slice none 0 0] 26 (0,0))):=⟨by (with_reducible repeat (first|refine ak ?_ _|refine aq ?_|refine aj ?_ _));refine cI ?_ jk.out _;(with_reducible repeat (first|refine ak ?_ _|refine aq ?_|refine aj ?_ _));refine cI ?_ jk.out _;(with_reducible repeat (first|refine ak ?_ _|refine aq ?_|refine aj ?_ _));refine cI ?_ jk.out _;(with_reducible repeat (first|refine ak ?_ _|refine aq ?_|refine aj ?_ _));refine cI ?_ jk.out _;(with_reducible repeat (first|refine ak ?_ _|refine aq ?_|refine aj ?_ _));refine cI ?_ jk.out _;(with_reducible repeat (first|refine ak ?_ _|refine aq ?_|refine aj ?_ _));refine cI ?_ jk.out _;(with_reducible repeat (first|refine ak ?_ _|refine aq ?_|refine aj ?_ _));exact dm.out⟩
         have bK:aa (((((((DF.setCell ⟨cB,0,none⟩ (.int .i64 (wrap64 (1+jS)))).setCell ⟨cB,1,none⟩ (.int .i64 gu)).setCell ⟨cB,2,none⟩ (.int .i64 0)).setCell ⟨cB,3,none⟩ (.int .i64 0)).setCell ⟨cB,4,none⟩ (.int .i64 0)).setCell ⟨cB,5,none⟩ (.int .i64 lf)).heap[fc]? =some (.cells #[.int .i64 (wrap64 (2+ej)),.slice kZ bp.length lc,gm] 26 (0,0))):=⟨by (with_reducible repeat (first|refine ak ?_ _|refine aq ?_|refine aj ?_ _));refine cI ?_ gY.out _;(with_reducible repeat (first|refine ak ?_ _|refine aq ?_|refine aj ?_ _));refine cI ?_ gY.out _;(with_reducible repeat (first|refine ak ?_ _|refine aq ?_|refine aj ?_ _));refine cI ?_ gY.out _;(with_reducible repeat (first|refine ak ?_ _|refine aq ?_|refine aj ?_ _));refine cI ?_ gY.out _;(with_reducible repeat (first|refine ak ?_ _|refine aq ?_|refine aj ?_ _));refine cI ?_ gY.out _;(with_reducible repeat (first|refine ak ?_ _|refine aq ?_|refine aj ?_ _));refine cI ?_ gY.out _;(with_reducible repeat (first|refine ak ?_ _|refine aq ?_|refine aj ?_ _));exact cw.out⟩
         have cL:aa (((((((DF.setCell ⟨cB,0,none⟩ (.int .i64 (wrap64 (1+jS)))).setCell ⟨cB,1,none⟩ (.int .i64 gu)).setCell ⟨cB,2,none⟩ (.int .i64 0)).setCell ⟨cB,3,none⟩ (.int .i64 0)).setCell ⟨cB,4,none⟩ (.int .i64 0)).setCell ⟨cB,5,none⟩ (.int .i64 lf)).heap[cB]? =some (.cells #[.int .i64 (wrap64 (1+jS)),.int .i64 gu,.int .i64 0,.int .i64 0,.int .i64 0,.int .i64 lf] 36 (0,0))):=⟨by (with_reducible repeat (first|refine ak ?_ _|refine aq ?_|refine aj ?_ _));refine df (cs:=#[.int .i64 (wrap64 (1+jS)),.int .i64 gu,.int .i64 0,.int .i64 0,.int .i64 0,.int .i64 0]) ?_ 5 _ rfl;(with_reducible repeat (first|refine ak ?_ _|refine aq ?_|refine aj ?_ _));refine df (cs:=#[.int .i64 (wrap64 (1+jS)),.int .i64 gu,.int .i64 0,.int .i64 0,.int .i64 0,.int .i64 0]) ?_ 4 _ rfl;(with_reducible repeat (first|refine ak ?_ _|refine aq ?_|refine aj ?_ _));refine df (cs:=#[.int .i64 (wrap64 (1+jS)),.int .i64 gu,.int .i64 0,.int .i64 0,.int .i64 0,.int .i64 0]) ?_ 3 _ rfl;(with_reducible repeat (first|refine ak ?_ _|refine aq ?_|refine aj ?_ _));refine df (cs:=#[.int .i64 (wrap64 (1+jS)),.int .i64 gu,.int .i64 0,.int .i64 0,.int .i64 0,.int .i64 0]) ?_ 2 _ rfl;(with_reducible repeat (first|refine ak ?_ _|refine aq ?_|refine aj ?_ _));refine df (cs:=#[.int .i64 (wrap64 (1+jS)),.int .i64 0,.int .i64 0,.int .i64 0,.int .i64 0,.int .i64 0]) ?_ 1 _ rfl;(with_reducible repeat (first|refine ak ?_ _|refine aq ?_|refine aj ?_ _));refine df (cs:=#[.int .i64 0,.int .i64 0,.int .i64 0,.int .i64 0,.int .i64 0,.int .i64 0]) ?_ 0 _ rfl;(with_reducible repeat (first|refine ak ?_ _|refine aq ?_|refine aj ?_ _));exact dK.out⟩
         have dc:aa (ax w ((((((DF.setCell ⟨cB,0,none⟩ (.int .i64 (wrap64 (1+jS)))).setCell ⟨cB,1,none⟩ (.int .i64 gu)).setCell ⟨cB,2,none⟩ (.int .i64 0)).setCell ⟨cB,3,none⟩ (.int .i64 0)).setCell ⟨cB,4,none⟩ (.int .i64 0)).setCell ⟨cB,5,none⟩ (.int .i64 lf)) ig fe AX):=⟨by repeat (first|(with_reducible first|exact bU.out|apply ax.alloc|apply ax.drewN|apply ax.drew|apply ax.e9|refine ax.far ?_ cY.out _|refine ax.far ?_ db.out _|refine ax.far ?_ ik.out _)|exact bU.out)⟩
         have dQ:aa (Below w.heap.size w ((((((DF.setCell ⟨cB,0,none⟩ (.int .i64 (wrap64 (1+jS)))).setCell ⟨cB,1,none⟩ (.int .i64 gu)).setCell ⟨cB,2,none⟩ (.int .i64 0)).setCell ⟨cB,3,none⟩ (.int .i64 0)).setCell ⟨cB,4,none⟩ (.int .i64 0)).setCell ⟨cB,5,none⟩ (.int .i64 lf))):=⟨by repeat (first|(with_reducible first|exact HB.out|apply ae|apply ab|apply af|refine ai ?_ (ax.ge bU.out)|refine ai ?_ iU.out|refine ai ?_ jF.out|refine ai ?_ tu.out)|exact HB.out)⟩
         (try clear HO_111001);(try clear HO_111002);(try clear dm);(try clear cw);(try clear dK);(try clear bU);(try clear HB)
         generalize ((((((DF.setCell ⟨cB,0,none⟩ (.int .i64 (wrap64 (1+jS)))).setCell ⟨cB,1,none⟩ (.int .i64 gu)).setCell ⟨cB,2,none⟩ (.int .i64 0)).setCell ⟨cB,3,none⟩ (.int .i64 0)).setCell ⟨cB,4,none⟩ (.int .i64 0)).setCell ⟨cB,5,none⟩ (.int .i64 lf))=z9 at br bt bA bK cL dc dQ ⊢
         have HO_111001:=br;have HO_111002:=bt;have dm:=bA;have cw:=bK;have dK:=cL;have bU:=dc;have HB:=dQ
         clear br bt bA bK cL dc dQ
         have br:=aa.mk (Kd.aA HO_111001.out)
         have bt:=aa.mk (Kd.aA HO_111002.out)
         have bA:=aa.mk (aq dm.out)
         have bK:=aa.mk (aq cw.out)
         have cL:=aa.mk (aq dK.out)
         have dc:=aa.mk (ax.drew bU.out)
         have dQ:=aa.mk (af HB.out)
         clear HO_111001 HO_111002 dm cw dK bU HB
         have HO_111001:=br;have HO_111002:=bt;have dm:=bA;have cw:=bK;have dK:=cL;have bU:=dc;have HB:=dQ
         clear br bt bA bK cL dc dQ
         refine ju (n:=12) (S:=fun w'=>w'.cell? ⟨cB,0,none⟩=some (.int .i64 (wrap64 (1+jS)))∧w'.cell? ⟨cB,1,none⟩=some (.int .i64 gu)∧w'.cell? ⟨cB,2,none⟩=some (.int .i64 0)∧w'.cell? ⟨cB,3,none⟩=some (.int .i64 0)∧w'.cell? ⟨cB,4,none⟩=some (.int .i64 0)∧w'.cell? ⟨cB,5,none⟩=some (.int .i64 lf)) (ds:=[11]) #[false,false,false,false,false,false,false,false,false,false,false,false] (by kernel_rfl) rfl rfl ⟨(ag dK.out 0).trans rfl,(ag dK.out 1).trans rfl,(ag dK.out 2).trans rfl,(ag dK.out 3).trans rfl,(ag dK.out 4).trans rfl,(ag dK.out 5).trans rfl⟩ (fun hHeld=> ?_);refine fN aG.PU aG.MU (fun HT_ HW_=> ?_)
         generalize z9.drew=w51 at HO_111001 HO_111002 dm cw dK bU HB hHeld ⊢
         refine bP (i:=0) (N:=some 57) (v:= ?_) (a':= ?_) #[true,false,false,false,false,false,false,false,false,false,false,false] rfl rfl (bz HT_.out (by kernel_rfl)) (fun _ _ _ h=>h) (Or.inl ⟨by rfl, ?_⟩) ?_ ?_
         rotate_left
         ·intro w'
          go_simp
          with_reducible rfl
         rotate_left
         ·simp only [Act.put,dg,dh,di,aY,a9]
          rfl
         refine bP (i:=3) (N:=some 60) (v:= ?_) (a':= ?_) #[true,false,false,true,false,false,false,false,false,false,false,false] rfl rfl (bz HT_.out (by kernel_rfl)) (fun _ _ _ h=>h) (Or.inl ⟨by rfl, ?_⟩) ?_ ?_
         rotate_left
         ·intro w'
          go_simp
          with_reducible rfl
         rotate_left
         ·simp only [Act.put,dg,dh,di,aY,a9]
          rfl
         refine bP (i:=4) (N:=some 61) (v:= ?_) (a':= ?_) #[true,false,false,true,true,false,false,false,false,false,false,false] rfl rfl (bz HT_.out (by kernel_rfl)) (fun _ _ _ h=>h) (Or.inl ⟨by rfl, ?_⟩) ?_ ?_
         rotate_left
         ·intro w'
          go_simp
          with_reducible rfl
         rotate_left
         ·simp only [Act.put,dg,dh,di,aY,a9]
          rfl
         refine bP (i:=5) (N:=some 62) (v:= ?_) (a':= ?_) #[true,false,false,true,true,true,false,false,false,false,false,false] rfl rfl (bz HT_.out (by kernel_rfl)) (fun _ _ _ h=>h) (Or.inl ⟨by rfl, ?_⟩) ?_ ?_
         rotate_left
         ·intro w'
          go_simp
          with_reducible rfl
         rotate_left
         ·simp only [Act.put,dg,dh,di,aY,a9]
          rfl
         refine bP (i:=8) (N:=some 65) (v:= ?_) (a':= ?_) #[true,false,false,true,true,true,false,false,true,false,false,false] rfl rfl (bz HT_.out (by kernel_rfl)) (fun _ _ _ h=>h) (Or.inl ⟨by rfl, ?_⟩) ?_ ?_
         rotate_left
         ·intro w'
          go_simp
          with_reducible rfl
         rotate_left
         ·simp only [Act.put,dg,dh,di,aY,a9]
          rfl
         refine eL (i:=1) (N:=some 58) (v:= ?_) (a':= ?_) #[true,true,false,true,true,true,false,false,true,false,false,false] rfl rfl (cO HT_.out HW_.out (by kernel_rfl)) (fun _ _ _ h=>h) (Or.inl ⟨by rfl, ?_⟩) hHeld ?_ ?_
         rotate_left
         ·rintro w' ⟨s0,s1,s2,s3,s4,s5⟩
          go_simp
          with_reducible rfl
         rotate_left
         ·simp only [Act.put,dg,dh,di,aY,a9]
          rfl
         refine bP (i:=2) (N:=some 59) (v:= ?_) (a':= ?_) #[true,true,true,true,true,true,false,false,true,false,false,false] rfl rfl (bz HT_.out (by kernel_rfl)) (fun _ _ _ h=>h) (Or.inl ⟨by rfl, ?_⟩) ?_ ?_
         rotate_left
         ·intro w'
          go_simp
          with_reducible rfl
         rotate_left
         ·simp only [Act.put,dg,dh,di,aY,a9]
          rfl
         refine iP (i:=6) (N:=some 63) #[true,true,true,true,true,true,true,false,true,false,false,false] rfl rfl (dZ HT_.out (by kernel_rfl)) (by decide) (fun K hK=> ?_)
         refine mA Try.func84 (by kernel_rfl) rfl #[.pointer (some ⟨ig,0,none⟩),.int .i64 (wrap64 ((bp.length:Int) - 1))] (by rfl) rfl rfl (by (try simp only [List.map_toArray,List.map_cons,List.map_nil]);first|done|rfl|(simp only [List.length_drop,List.length_take];rfl)) ?_
         with_reducible refine (aJ.calls ig fe AX (wrap64 ((bp.length:Int) - 1)) mB Fy w _ ?bS ?bT A37.out).mono ?_
         (case bS=>repeat (first|(with_reducible first|exact bU.out|apply ax.alloc|apply ax.drewN|apply ax.drew|apply ax.e9|refine ax.far ?_ cY.out _|refine ax.far ?_ db.out _|refine ax.far ?_ ik.out _)|exact bU.out))
         (case bT=>repeat (first|(with_reducible first|exact HB.out|apply ae|apply ab|apply af|refine ai ?_ (ax.ge bU.out)|refine ai ?_ iU.out|refine ai ?_ jF.out|refine ai ?_ tu.out)|exact HB.out))
         rintro e uO ⟨rfl,hi,hb,hk⟩
         refine ⟨_,rfl, ?_⟩
         have br:=aa.mk (Kd.bN (Kd.kD (ax.apart (show ax w _ ig fe AX from by repeat (first|(with_reducible first|exact bU.out|apply ax.alloc|apply ax.drewN|apply ax.drew|apply ax.e9|refine ax.far ?_ cY.out _|refine ax.far ?_ db.out _|refine ax.far ?_ ik.out _)|exact bU.out)) (by (with_reducible repeat (first|apply Kd.aw|apply Kd.av|apply Kd.aA));exact HO_111001.out) (by decide)) hk (fun _ h=>h.2)) (fun _ h=>h.1))
         have bt:=aa.mk (Kd.bN (Kd.kD (ax.apart (show ax w _ ig fe AX from by repeat (first|(with_reducible first|exact bU.out|apply ax.alloc|apply ax.drewN|apply ax.drew|apply ax.e9|refine ax.far ?_ cY.out _|refine ax.far ?_ db.out _|refine ax.far ?_ ik.out _)|exact bU.out)) (by (with_reducible repeat (first|apply Kd.aw|apply Kd.av|apply Kd.aA));exact HO_111002.out) (by decide)) hk (fun _ h=>h.2)) (fun _ h=>h.1))
         have bA:=aa.mk (dP.ue hk (g':=gA) (o:= .cells #[.int .i64 0,.slice none 0 0,.slice none 0 0] 26 (0,0)) (by (with_reducible repeat (first|refine ak ?_ _|refine aq ?_|refine aj ?_ _));exact dm.out) jj.out (by simp))
         have bK:=aa.mk (dP.ue hk (g':=fc) (o:= .cells #[.int .i64 (wrap64 (2+ej)),.slice kZ bp.length lc,gm] 26 (0,0)) (by (with_reducible repeat (first|refine ak ?_ _|refine aq ?_|refine aj ?_ _));exact cw.out) ij.out (by simp))
         have cL:=aa.mk (dP.ue hk (g':=cB) (o:= .cells #[.int .i64 (wrap64 (1+jS)),.int .i64 gu,.int .i64 0,.int .i64 0,.int .i64 0,.int .i64 lf] 36 (0,0)) (by (with_reducible repeat (first|refine ak ?_ _|refine aq ?_|refine aj ?_ _));exact dK.out) rJ.out (by simp))
         have dc:=aa.mk (hb)
         have dQ:=aa.mk (hi)
         clear HO_111001 HO_111002 dm cw dK HB bU
         have HO_111001:=br;have HO_111002:=bt;have dm:=bA;have cw:=bK;have dK:=cL;have HB:=dc;have bU:=dQ
         clear br bt bA bK cL dc dQ
         (try clear hb);(try clear hb2);(try clear hk);(try clear hi)
         refine hK.out _ _ ⟨(ag dK.out 0).trans rfl,(ag dK.out 1).trans rfl,(ag dK.out 2).trans rfl,(ag dK.out 3).trans rfl,(ag dK.out 4).trans rfl,(ag dK.out 5).trans rfl⟩ (fun hHeld=> ?_)
         clear hK K
         refine eM (a':= ?_) ?_ ?_
         rotate_left
         ·show Act.put _ (some 63) _=_
          simp only [Act.put,dg,dh,di,aY,a9]
          rfl
         refine bP (i:=7) (N:=some 64) (v:= ?_) (a':= ?_) #[true,true,true,true,true,true,true,true,true,false,false,false] rfl rfl (bz HT_.out (by kernel_rfl)) (fun _ _ _ h=>h) (Or.inl ⟨by rfl, ?_⟩) ?_ ?_
         rotate_left
         ·intro w'
          go_simp
          with_reducible rfl
         rotate_left
         ·simp only [Act.put,dg,dh,di,aY,a9]
          rfl
         refine bP (i:=9) (N:=some 66) (v:= ?_) (a':= ?_) #[true,true,true,true,true,true,true,true,true,true,false,false] rfl rfl (bz HT_.out (by kernel_rfl)) (fun _ _ _ h=>h) (Or.inl ⟨by rfl, ?_⟩) ?_ ?_
         rotate_left
         ·intro w'
          go_simp
          with_reducible rfl
         rotate_left
         ·simp only [Act.put,dg,dh,di,aY,a9]
          rfl
         refine bP (i:=10) (N:=some 67) (v:= ?_) (a':= ?_) #[true,true,true,true,true,true,true,true,true,true,true,false] rfl rfl (bz HT_.out (by kernel_rfl)) (fun _ _ _ h=>h) (Or.inl ⟨by rfl, ?_⟩) ?_ ?_
         rotate_left
         ·intro w'
          go_simp
          with_reducible rfl
         rotate_left
         ·simp only [Act.put,dg,dh,di,aY,a9]
          rfl
         refine qz (i:=11) (N:=none) #[true,true,true,true,true,true,true,true,true,true,true,true] rfl rfl (dZ HT_.out (by kernel_rfl)) (by decide) (fun K hK=> ?_)
         have adu:uO.cell? ⟨cB,2,none⟩=some (.int .i64 0):=(ag dK.out 2).trans rfl
         have abd:=ah dK.out 2
         have TZ:=jk.out
         have T1:=gY.out
         have T3:=rH.out
         have T4:=rI.out
         refine oz (w1:= ?_) (by rfl) rfl ?_ ?_
         rotate_left
         ·go_simp
          rfl
         refine hK.out _ _ ?_
         clear hK K
         refine j1 (gD HT_.out (by kernel_rfl)) ?_
         try go_wp2
         have br:aa (Kd.R oS 97 (uO.setCell ⟨cB,2,none⟩ (.int .i64 (Int.tmod (wrap64 ((wrap64 (gu+1))+mB)) (bp.length:Int)))) w.heap.size (fun _=>True) (.slice kZ bp.length lc) bp):=⟨by (with_reducible repeat (first|apply Kd.aw|apply Kd.av|apply Kd.aA));exact Kd.bN (Kd.cg (p:=⟨cB,2,none⟩) (Kd.dL HO_111001.out dK.out (by decide)) (fun _ hk=>hk.2) (.int .i64 (Int.tmod (wrap64 ((wrap64 (gu+1))+mB)) (bp.length:Int)))) (fun _ hk=>trivial)⟩
         have bt:aa (Kd.R nD 36 (uO.setCell ⟨cB,2,none⟩ (.int .i64 (Int.tmod (wrap64 ((wrap64 (gu+1))+mB)) (bp.length:Int)))) w.heap.size (fun k_=>k_≠cB) gm eB):=⟨by (with_reducible repeat (first|apply Kd.aw|apply Kd.av|apply Kd.aA));exact Kd.bN (Kd.cg (p:=⟨cB,2,none⟩) (Kd.bN HO_111002.out (fun k_ hk=>(⟨hk,hk⟩:_∧k_≠cB))) (fun _ hk=>hk.2) (.int .i64 (Int.tmod (wrap64 ((wrap64 (gu+1))+mB)) (bp.length:Int)))) (fun _ hk=>hk.1)⟩
         have bA:aa ((uO.setCell ⟨cB,2,none⟩ (.int .i64 (Int.tmod (wrap64 ((wrap64 (gu+1))+mB)) (bp.length:Int)))).heap[gA]? =some (.cells #[.int .i64 0,.slice none 0 0,.slice none 0 0] 26 (0,0))):=⟨by (with_reducible repeat (first|refine ak ?_ _|refine aq ?_|refine aj ?_ _));refine cI ?_ jk.out _;(with_reducible repeat (first|refine ak ?_ _|refine aq ?_|refine aj ?_ _));exact dm.out⟩
         have bK:aa ((uO.setCell ⟨cB,2,none⟩ (.int .i64 (Int.tmod (wrap64 ((wrap64 (gu+1))+mB)) (bp.length:Int)))).heap[fc]? =some (.cells #[.int .i64 (wrap64 (2+ej)),.slice kZ bp.length lc,gm] 26 (0,0))):=⟨by (with_reducible repeat (first|refine ak ?_ _|refine aq ?_|refine aj ?_ _));refine cI ?_ gY.out _;(with_reducible repeat (first|refine ak ?_ _|refine aq ?_|refine aj ?_ _));exact cw.out⟩
         have cL:aa ((uO.setCell ⟨cB,2,none⟩ (.int .i64 (Int.tmod (wrap64 ((wrap64 (gu+1))+mB)) (bp.length:Int)))).heap[cB]? =some (.cells #[.int .i64 (wrap64 (1+jS)),.int .i64 gu,.int .i64 (Int.tmod (wrap64 ((wrap64 (gu+1))+mB)) (bp.length:Int)),.int .i64 0,.int .i64 0,.int .i64 lf] 36 (0,0))):=⟨by (with_reducible repeat (first|refine ak ?_ _|refine aq ?_|refine aj ?_ _));refine df (cs:=#[.int .i64 (wrap64 (1+jS)),.int .i64 gu,.int .i64 0,.int .i64 0,.int .i64 0,.int .i64 lf]) ?_ 2 _ rfl;(with_reducible repeat (first|refine ak ?_ _|refine aq ?_|refine aj ?_ _));exact dK.out⟩
         have dc:aa (ax w (uO.setCell ⟨cB,2,none⟩ (.int .i64 (Int.tmod (wrap64 ((wrap64 (gu+1))+mB)) (bp.length:Int)))) ig fe Fy):=⟨by repeat (first|(with_reducible first|exact bU.out|apply ax.alloc|apply ax.drewN|apply ax.drew|apply ax.e9|refine ax.far ?_ cY.out _|refine ax.far ?_ db.out _|refine ax.far ?_ ik.out _)|exact bU.out)⟩
         have dQ:aa (Below w.heap.size w (uO.setCell ⟨cB,2,none⟩ (.int .i64 (Int.tmod (wrap64 ((wrap64 (gu+1))+mB)) (bp.length:Int))))):=⟨by repeat (first|(with_reducible first|exact HB.out|apply ae|apply ab|apply af|refine ai ?_ (ax.ge bU.out)|refine ai ?_ iU.out|refine ai ?_ jF.out|refine ai ?_ tu.out)|exact HB.out)⟩
         (try clear HO_111001);(try clear HO_111002);(try clear dm);(try clear cw);(try clear dK);(try clear bU);(try clear HB)
         generalize (uO.setCell ⟨cB,2,none⟩ (.int .i64 (Int.tmod (wrap64 ((wrap64 (gu+1))+mB)) (bp.length:Int))))=w54 at br bt bA bK cL dc dQ ⊢
         have HO_111001:=br;have HO_111002:=bt;have dm:=bA;have cw:=bK;have dK:=cL;have bU:=dc;have HB:=dQ
         clear br bt bA bK cL dc dQ
         have br:=aa.mk (Kd.aA HO_111001.out)
         have bt:=aa.mk (Kd.aA HO_111002.out)
         have bA:=aa.mk (aq dm.out)
         have bK:=aa.mk (aq cw.out)
         have cL:=aa.mk (aq dK.out)
         have dc:=aa.mk (ax.drew bU.out)
         have dQ:=aa.mk (af HB.out)
         clear HO_111001 HO_111002 dm cw dK bU HB
         have HO_111001:=br;have HO_111002:=bt;have dm:=bA;have cw:=bK;have dK:=cL;have bU:=dc;have HB:=dQ
         clear br bt bA bK cL dc dQ
         refine ju (n:=10) (S:=fun w'=>w'.cell? ⟨fc,0,none⟩=some (.int .i64 (wrap64 (2+ej)))∧w'.cell? ⟨fc,1,none⟩=some (.slice kZ bp.length lc)∧w'.cell? ⟨fc,2,none⟩=some (gm)) (ds:=[]) #[false,false,false,false,false,false,false,false,false,false] (by kernel_rfl) rfl rfl ⟨(ag cw.out 0).trans rfl,(ag cw.out 1).trans rfl,(ag cw.out 2).trans rfl⟩ (fun hHeld=> ?_);refine fN aG.PV aG.MV (fun HT_ HW_=> ?_)
         generalize w54.drew=IZ at HO_111001 HO_111002 dm cw dK bU HB hHeld ⊢
         refine bP (i:=0) (N:=some 68) (v:= ?_) (a':= ?_) #[true,false,false,false,false,false,false,false,false,false] rfl rfl (bz HT_.out (by kernel_rfl)) (fun _ _ _ h=>h) (Or.inl ⟨by rfl, ?_⟩) ?_ ?_
         rotate_left
         ·intro w'
          go_simp
          with_reducible rfl
         rotate_left
         ·simp only [Act.put,dg,dh,di,aY,a9]
          rfl
         refine bP (i:=1) (N:=some 69) (v:= ?_) (a':= ?_) #[true,true,false,false,false,false,false,false,false,false] rfl rfl (bz HT_.out (by kernel_rfl)) (fun _ _ _ h=>h) (Or.inl ⟨by rfl, ?_⟩) ?_ ?_
         rotate_left
         ·intro w'
          go_simp
          with_reducible rfl
         rotate_left
         ·simp only [Act.put,dg,dh,di,aY,a9]
          rfl
         refine bP (i:=5) (N:=some 73) (v:= ?_) (a':= ?_) #[true,true,false,false,false,true,false,false,false,false] rfl rfl (bz HT_.out (by kernel_rfl)) (fun _ _ _ h=>h) (Or.inl ⟨by rfl, ?_⟩) ?_ ?_
         rotate_left
         ·intro w'
          go_simp
          with_reducible rfl
         rotate_left
         ·simp only [Act.put,dg,dh,di,aY,a9]
          rfl
         refine eL (i:=2) (N:=some 70) (v:= ?_) (a':= ?_) #[true,true,true,false,false,true,false,false,false,false] rfl rfl (cO HT_.out HW_.out (by kernel_rfl)) (fun _ _ _ h=>h) (Or.inl ⟨by rfl, ?_⟩) hHeld ?_ ?_
         rotate_left
         ·rintro w' ⟨s0,s1,s2⟩
          go_simp
          with_reducible rfl
         rotate_left
         ·simp only [Act.put,dg,dh,di,aY,a9]
          rfl
         refine bP (i:=3) (N:=some 71) (v:= ?_) (a':= ?_) #[true,true,true,true,false,true,false,false,false,false] rfl rfl (bz HT_.out (by kernel_rfl)) (fun _ _ _ h=>h) (Or.inl ⟨by rfl, ?_⟩) ?_ ?_
         rotate_left
         ·intro w'
          go_simp
          with_reducible rfl
         rotate_left
         ·simp only [Act.put,dg,dh,di,aY,a9]
          rfl
         refine eL (i:=6) (N:=some 74) (v:= ?_) (a':= ?_) #[true,true,true,true,false,true,true,false,false,false] rfl rfl (cO HT_.out HW_.out (by kernel_rfl)) (fun _ _ _ h=>h) (Or.inl ⟨by rfl, ?_⟩) hHeld ?_ ?_
         rotate_left
         ·rintro w' ⟨s0,s1,s2⟩
          go_simp
          with_reducible rfl
         rotate_left
         ·simp only [Act.put,dg,dh,di,aY,a9]
          rfl
         refine iP (i:=4) (N:=some 72) #[true,true,true,true,true,true,true,false,false,false] rfl rfl (dZ HT_.out (by kernel_rfl)) (by decide) (fun K hK=> ?_)
         refine mA Try.func84 (by kernel_rfl) rfl #[.pointer (some ⟨ig,0,none⟩),.int .i64 (wrap64 (3*(wrap64 (2+ej))))] (by rfl) rfl rfl (by (try simp only [List.map_toArray,List.map_cons,List.map_nil]);first|done|rfl|(simp only [List.length_drop,List.length_take];rfl)) ?_
         with_reducible refine (aJ.calls ig fe Fy (wrap64 (3*(wrap64 (2+ej)))) kK Fz w _ ?bS ?bT A39.out).mono ?_
         (case bS=>repeat (first|(with_reducible first|exact bU.out|apply ax.alloc|apply ax.drewN|apply ax.drew|apply ax.e9|refine ax.far ?_ cY.out _|refine ax.far ?_ db.out _|refine ax.far ?_ ik.out _)|exact bU.out))
         (case bT=>repeat (first|(with_reducible first|exact HB.out|apply ae|apply ab|apply af|refine ai ?_ (ax.ge bU.out)|refine ai ?_ iU.out|refine ai ?_ jF.out|refine ai ?_ tu.out)|exact HB.out))
         rintro e Jz ⟨rfl,hi,hb,hk⟩
         refine ⟨_,rfl, ?_⟩
         have br:=aa.mk (Kd.bN (Kd.kD (ax.apart (show ax w _ ig fe Fy from by repeat (first|(with_reducible first|exact bU.out|apply ax.alloc|apply ax.drewN|apply ax.drew|apply ax.e9|refine ax.far ?_ cY.out _|refine ax.far ?_ db.out _|refine ax.far ?_ ik.out _)|exact bU.out)) (by (with_reducible repeat (first|apply Kd.aw|apply Kd.av|apply Kd.aA));exact HO_111001.out) (by decide)) hk (fun _ h=>h.2)) (fun _ h=>h.1))
         have bt:=aa.mk (Kd.bN (Kd.kD (ax.apart (show ax w _ ig fe Fy from by repeat (first|(with_reducible first|exact bU.out|apply ax.alloc|apply ax.drewN|apply ax.drew|apply ax.e9|refine ax.far ?_ cY.out _|refine ax.far ?_ db.out _|refine ax.far ?_ ik.out _)|exact bU.out)) (by (with_reducible repeat (first|apply Kd.aw|apply Kd.av|apply Kd.aA));exact HO_111002.out) (by decide)) hk (fun _ h=>h.2)) (fun _ h=>h.1))
         have bA:=aa.mk (dP.ue hk (g':=gA) (o:= .cells #[.int .i64 0,.slice none 0 0,.slice none 0 0] 26 (0,0)) (by (with_reducible repeat (first|refine ak ?_ _|refine aq ?_|refine aj ?_ _));exact dm.out) jj.out (by simp))
         have bK:=aa.mk (dP.ue hk (g':=fc) (o:= .cells #[.int .i64 (wrap64 (2+ej)),.slice kZ bp.length lc,gm] 26 (0,0)) (by (with_reducible repeat (first|refine ak ?_ _|refine aq ?_|refine aj ?_ _));exact cw.out) ij.out (by simp))
         have cL:=aa.mk (dP.ue hk (g':=cB) (o:= .cells #[.int .i64 (wrap64 (1+jS)),.int .i64 gu,.int .i64 (Int.tmod (wrap64 ((wrap64 (gu+1))+mB)) (bp.length:Int)),.int .i64 0,.int .i64 0,.int .i64 lf] 36 (0,0)) (by (with_reducible repeat (first|refine ak ?_ _|refine aq ?_|refine aj ?_ _));exact dK.out) rJ.out (by simp))
         have dc:=aa.mk (hb)
         have dQ:=aa.mk (hi)
         clear HO_111001 HO_111002 dm cw dK HB bU
         have HO_111001:=br;have HO_111002:=bt;have dm:=bA;have cw:=bK;have dK:=cL;have HB:=dc;have bU:=dQ
         clear br bt bA bK cL dc dQ
         (try clear hb);(try clear hb2);(try clear hk);(try clear hi)
         refine hK.out _ _ ⟨(ag cw.out 0).trans rfl,(ag cw.out 1).trans rfl,(ag cw.out 2).trans rfl⟩ (fun hHeld=> ?_)
         clear hK K
         refine eM (a':= ?_) ?_ ?_
         rotate_left
         ·show Act.put _ (some 72) _=_
          simp only [Act.put,dg,dh,di,aY,a9]
          rfl
         refine bP (i:=7) (N:=some 75) (v:= ?_) (a':= ?_) #[true,true,true,true,true,true,true,true,false,false] rfl rfl (bz HT_.out (by kernel_rfl)) (fun _ _ _ h=>h) (Or.inl ⟨by rfl, ?_⟩) ?_ ?_
         rotate_left
         ·intro w'
          go_simp
          with_reducible rfl
         rotate_left
         ·simp only [Act.put,dg,dh,di,aY,a9]
          rfl
         refine bP (i:=8) (N:=some 76) (v:= ?_) (a':= ?_) #[true,true,true,true,true,true,true,true,true,false] rfl rfl (bz HT_.out (by kernel_rfl)) (fun _ _ _ h=>h) (Or.inl ⟨by rfl, ?_⟩) ?_ ?_
         rotate_left
         ·intro w'
          go_simp
          with_reducible rfl
         rotate_left
         ·simp only [Act.put,dg,dh,di,aY,a9]
          rfl
         refine iP (i:=9) (N:=none) #[true,true,true,true,true,true,true,true,true,true] rfl rfl (dZ HT_.out (by kernel_rfl)) (by decide) (fun K hK=> ?_)
         have adw:Jz.cell? ⟨cB,3,none⟩=some (.int .i64 0):=(ag dK.out 3).trans rfl
         have abe:=ah dK.out 3
         have T5:=jk.out
         have Ua:=gY.out
         have Ub:=rH.out
         have Uc:=rI.out
         refine oz (w1:= ?_) (by rfl) rfl ?_ ?_
         rotate_left
         ·go_simp
          rfl
         refine hK.out _ _ ⟨((cell_far (p:=⟨cB,_,none⟩) gY.out _).trans (hHeld.1)),((cell_far (p:=⟨cB,_,none⟩) gY.out _).trans (hHeld.2.1)),((cell_far (p:=⟨cB,_,none⟩) gY.out _).trans (hHeld.2.2))⟩ (fun hHeld=> ?_)
         clear hK K
         refine j1 (gD HT_.out (by kernel_rfl)) ?_
         try go_wp2
         have br:aa (Kd.R oS 97 (Jz.setCell ⟨cB,3,none⟩ (.int .i64 (wrap64 (kK - (wrap64 (2+ej)))))) w.heap.size (fun _=>True) (.slice kZ bp.length lc) bp):=⟨by (with_reducible repeat (first|apply Kd.aw|apply Kd.av|apply Kd.aA));exact Kd.bN (Kd.cg (p:=⟨cB,3,none⟩) (Kd.dL HO_111001.out dK.out (by decide)) (fun _ hk=>hk.2) (.int .i64 (wrap64 (kK - (wrap64 (2+ej)))))) (fun _ hk=>trivial)⟩
         have bt:aa (Kd.R nD 36 (Jz.setCell ⟨cB,3,none⟩ (.int .i64 (wrap64 (kK - (wrap64 (2+ej)))))) w.heap.size (fun k_=>k_≠cB) gm eB):=⟨by (with_reducible repeat (first|apply Kd.aw|apply Kd.av|apply Kd.aA));exact Kd.bN (Kd.cg (p:=⟨cB,3,none⟩) (Kd.bN HO_111002.out (fun k_ hk=>(⟨hk,hk⟩:_∧k_≠cB))) (fun _ hk=>hk.2) (.int .i64 (wrap64 (kK - (wrap64 (2+ej)))))) (fun _ hk=>hk.1)⟩
         have bA:aa ((Jz.setCell ⟨cB,3,none⟩ (.int .i64 (wrap64 (kK - (wrap64 (2+ej)))))).heap[gA]? =some (.cells #[.int .i64 0,.slice none 0 0,.slice none 0 0] 26 (0,0))):=⟨by (with_reducible repeat (first|refine ak ?_ _|refine aq ?_|refine aj ?_ _));refine cI ?_ jk.out _;(with_reducible repeat (first|refine ak ?_ _|refine aq ?_|refine aj ?_ _));exact dm.out⟩
         have bK:aa ((Jz.setCell ⟨cB,3,none⟩ (.int .i64 (wrap64 (kK - (wrap64 (2+ej)))))).heap[fc]? =some (.cells #[.int .i64 (wrap64 (2+ej)),.slice kZ bp.length lc,gm] 26 (0,0))):=⟨by (with_reducible repeat (first|refine ak ?_ _|refine aq ?_|refine aj ?_ _));refine cI ?_ gY.out _;(with_reducible repeat (first|refine ak ?_ _|refine aq ?_|refine aj ?_ _));exact cw.out⟩
         have cL:aa ((Jz.setCell ⟨cB,3,none⟩ (.int .i64 (wrap64 (kK - (wrap64 (2+ej)))))).heap[cB]? =some (.cells #[.int .i64 (wrap64 (1+jS)),.int .i64 gu,.int .i64 (Int.tmod (wrap64 ((wrap64 (gu+1))+mB)) (bp.length:Int)),.int .i64 (wrap64 (kK - (wrap64 (2+ej)))),.int .i64 0,.int .i64 lf] 36 (0,0))):=⟨by (with_reducible repeat (first|refine ak ?_ _|refine aq ?_|refine aj ?_ _));refine df (cs:=#[.int .i64 (wrap64 (1+jS)),.int .i64 gu,.int .i64 (Int.tmod (wrap64 ((wrap64 (gu+1))+mB)) (bp.length:Int)),.int .i64 0,.int .i64 0,.int .i64 lf]) ?_ 3 _ rfl;(with_reducible repeat (first|refine ak ?_ _|refine aq ?_|refine aj ?_ _));exact dK.out⟩
         have dc:aa (ax w (Jz.setCell ⟨cB,3,none⟩ (.int .i64 (wrap64 (kK - (wrap64 (2+ej)))))) ig fe Fz):=⟨by repeat (first|(with_reducible first|exact bU.out|apply ax.alloc|apply ax.drewN|apply ax.drew|apply ax.e9|refine ax.far ?_ cY.out _|refine ax.far ?_ db.out _|refine ax.far ?_ ik.out _)|exact bU.out)⟩
         have dQ:aa (Below w.heap.size w (Jz.setCell ⟨cB,3,none⟩ (.int .i64 (wrap64 (kK - (wrap64 (2+ej))))))):=⟨by repeat (first|(with_reducible first|exact HB.out|apply ae|apply ab|apply af|refine ai ?_ (ax.ge bU.out)|refine ai ?_ iU.out|refine ai ?_ jF.out|refine ai ?_ tu.out)|exact HB.out)⟩
         (try clear HO_111001);(try clear HO_111002);(try clear dm);(try clear cw);(try clear dK);(try clear bU);(try clear HB)
         generalize (Jz.setCell ⟨cB,3,none⟩ (.int .i64 (wrap64 (kK - (wrap64 (2+ej))))))=w58 at br bt bA bK cL dc dQ ⊢
         have HO_111001:=br;have HO_111002:=bt;have dm:=bA;have cw:=bK;have dK:=cL;have bU:=dc;have HB:=dQ
         clear br bt bA bK cL dc dQ
         have br:=aa.mk (Kd.aA HO_111001.out)
         have bt:=aa.mk (Kd.aA HO_111002.out)
         have bA:=aa.mk (aq dm.out)
         have bK:=aa.mk (aq cw.out)
         have cL:=aa.mk (aq dK.out)
         have dc:=aa.mk (ax.drew bU.out)
         have dQ:=aa.mk (af HB.out)
         clear HO_111001 HO_111002 dm cw dK bU HB
         have HO_111001:=br;have HO_111002:=bt;have dm:=bA;have cw:=bK;have dK:=cL;have bU:=dc;have HB:=dQ
         clear br bt bA bK cL dc dQ
         refine ju (n:=9) (S:=fun w'=>w'.cell? ⟨cB,0,none⟩=some (.int .i64 (wrap64 (1+jS)))∧w'.cell? ⟨cB,1,none⟩=some (.int .i64 gu)∧w'.cell? ⟨cB,2,none⟩=some (.int .i64 (Int.tmod (wrap64 ((wrap64 (gu+1))+mB)) (bp.length:Int)))∧w'.cell? ⟨cB,3,none⟩=some (.int .i64 (wrap64 (kK - (wrap64 (2+ej)))))∧w'.cell? ⟨cB,4,none⟩=some (.int .i64 0)∧w'.cell? ⟨cB,5,none⟩=some (.int .i64 lf)∧w'.cell? ⟨fc,0,none⟩=some (.int .i64 (wrap64 (2+ej)))∧w'.cell? ⟨fc,1,none⟩=some (.slice kZ bp.length lc)∧w'.cell? ⟨fc,2,none⟩=some (gm)) (ds:=[8]) #[false,false,false,false,false,false,false,false,false] (by kernel_rfl) rfl rfl ⟨(ag dK.out 0).trans rfl,(ag dK.out 1).trans rfl,(ag dK.out 2).trans rfl,(ag dK.out 3).trans rfl,(ag dK.out 4).trans rfl,(ag dK.out 5).trans rfl,(ag cw.out 0).trans rfl,(ag cw.out 1).trans rfl,(ag cw.out 2).trans rfl⟩ (fun hHeld=> ?_);refine fN aG.PW aG.MW (fun HT_ HW_=> ?_)
         generalize w58.drew=AZ at HO_111001 HO_111002 dm cw dK bU HB hHeld ⊢
         refine bP (i:=0) (N:=some 77) (v:= ?_) (a':= ?_) #[true,false,false,false,false,false,false,false,false] rfl rfl (bz HT_.out (by kernel_rfl)) (fun _ _ _ h=>h) (Or.inl ⟨by rfl, ?_⟩) ?_ ?_
         rotate_left
         ·intro w'
          go_simp
          with_reducible rfl
         rotate_left
         ·simp only [Act.put,dg,dh,di,aY,a9]
          rfl
         refine bP (i:=2) (N:=some 79) (v:= ?_) (a':= ?_) #[true,false,true,false,false,false,false,false,false] rfl rfl (bz HT_.out (by kernel_rfl)) (fun _ _ _ h=>h) (Or.inl ⟨by rfl, ?_⟩) ?_ ?_
         rotate_left
         ·intro w'
          go_simp
          with_reducible rfl
         rotate_left
         ·simp only [Act.put,dg,dh,di,aY,a9]
          rfl
         refine bP (i:=3) (N:=some 80) (v:= ?_) (a':= ?_) #[true,false,true,true,false,false,false,false,false] rfl rfl (bz HT_.out (by kernel_rfl)) (fun _ _ _ h=>h) (Or.inl ⟨by rfl, ?_⟩) ?_ ?_
         rotate_left
         ·intro w'
          go_simp
          with_reducible rfl
         rotate_left
         ·simp only [Act.put,dg,dh,di,aY,a9]
          rfl
         refine eL (i:=1) (N:=some 78) (v:= ?_) (a':= ?_) #[true,true,true,true,false,false,false,false,false] rfl rfl (cO HT_.out HW_.out (by kernel_rfl)) (fun _ _ _ h=>h) (Or.inl ⟨by rfl, ?_⟩) hHeld ?_ ?_
         rotate_left
         ·rintro w' ⟨s0,s1,s2,s3,s4,s5,s6,s7,s8⟩
          go_simp
          with_reducible rfl
         rotate_left
         ·simp only [Act.put,dg,dh,di,aY,a9]
          rfl
         refine eL (i:=4) (N:=some 81) (v:= ?_) (a':= ?_) #[true,true,true,true,true,false,false,false,false] rfl rfl (cO HT_.out HW_.out (by kernel_rfl)) (fun _ _ _ h=>h) (Or.inl ⟨by rfl, ?_⟩) hHeld ?_ ?_
         rotate_left
         ·rintro w' ⟨s0,s1,s2,s3,s4,s5,s6,s7,s8⟩
          go_simp
          with_reducible rfl
         rotate_left
         ·simp only [Act.put,dg,dh,di,aY,a9]
          rfl
         refine iP (i:=5) (N:=some 82) #[true,true,true,true,true,true,false,false,false] rfl rfl (dZ HT_.out (by kernel_rfl)) (by decide) (fun K hK=> ?_)
         refine mA Try.func84 (by kernel_rfl) rfl #[.pointer (some ⟨ig,0,none⟩),.int .i64 (wrap64 (2+ej))] (by rfl) rfl rfl (by (try simp only [List.map_toArray,List.map_cons,List.map_nil]);first|done|rfl|(simp only [List.length_drop,List.length_take];rfl)) ?_
         with_reducible refine (aJ.calls ig fe Fz (wrap64 (2+ej)) wH GW w _ ?bS ?bT yK.out).mono ?_
         (case bS=>repeat (first|(with_reducible first|exact bU.out|apply ax.alloc|apply ax.drewN|apply ax.drew|apply ax.e9|refine ax.far ?_ cY.out _|refine ax.far ?_ db.out _|refine ax.far ?_ ik.out _)|exact bU.out))
         (case bT=>repeat (first|(with_reducible first|exact HB.out|apply ae|apply ab|apply af|refine ai ?_ (ax.ge bU.out)|refine ai ?_ iU.out|refine ai ?_ jF.out|refine ai ?_ tu.out)|exact HB.out))
         rintro e xP ⟨rfl,hi,hb,hk⟩
         refine ⟨_,rfl, ?_⟩
         have br:=aa.mk (Kd.bN (Kd.kD (ax.apart (show ax w _ ig fe Fz from by repeat (first|(with_reducible first|exact bU.out|apply ax.alloc|apply ax.drewN|apply ax.drew|apply ax.e9|refine ax.far ?_ cY.out _|refine ax.far ?_ db.out _|refine ax.far ?_ ik.out _)|exact bU.out)) (by (with_reducible repeat (first|apply Kd.aw|apply Kd.av|apply Kd.aA));exact HO_111001.out) (by decide)) hk (fun _ h=>h.2)) (fun _ h=>h.1))
         have bt:=aa.mk (Kd.bN (Kd.kD (ax.apart (show ax w _ ig fe Fz from by repeat (first|(with_reducible first|exact bU.out|apply ax.alloc|apply ax.drewN|apply ax.drew|apply ax.e9|refine ax.far ?_ cY.out _|refine ax.far ?_ db.out _|refine ax.far ?_ ik.out _)|exact bU.out)) (by (with_reducible repeat (first|apply Kd.aw|apply Kd.av|apply Kd.aA));exact HO_111002.out) (by decide)) hk (fun _ h=>h.2)) (fun _ h=>h.1))
         have bA:=aa.mk (dP.ue hk (g':=gA) (o:= .cells #[.int .i64 0,.slice none 0 0,.slice none 0 0] 26 (0,0)) (by (with_reducible repeat (first|refine ak ?_ _|refine aq ?_|refine aj ?_ _));exact dm.out) jj.out (by simp))
         have bK:=aa.mk (dP.ue hk (g':=fc) (o:= .cells #[.int .i64 (wrap64 (2+ej)),.slice kZ bp.length lc,gm] 26 (0,0)) (by (with_reducible repeat (first|refine ak ?_ _|refine aq ?_|refine aj ?_ _));exact cw.out) ij.out (by simp))
         have cL:=aa.mk (dP.ue hk (g':=cB) (o:= .cells #[.int .i64 (wrap64 (1+jS)),.int .i64 gu,.int .i64 (Int.tmod (wrap64 ((wrap64 (gu+1))+mB)) (bp.length:Int)),.int .i64 (wrap64 (kK - (wrap64 (2+ej)))),.int .i64 0,.int .i64 lf] 36 (0,0)) (by (with_reducible repeat (first|refine ak ?_ _|refine aq ?_|refine aj ?_ _));exact dK.out) rJ.out (by simp))
         have dc:=aa.mk (hb)
         have dQ:=aa.mk (hi)
         clear HO_111001 HO_111002 dm cw dK HB bU
         have HO_111001:=br;have HO_111002:=bt;have dm:=bA;have cw:=bK;have dK:=cL;have HB:=dc;have bU:=dQ
         clear br bt bA bK cL dc dQ
         (try clear hb);(try clear hb2);(try clear hk);(try clear hi)
         refine hK.out _ _ ⟨(ag dK.out 0).trans rfl,(ag dK.out 1).trans rfl,(ag dK.out 2).trans rfl,(ag dK.out 3).trans rfl,(ag dK.out 4).trans rfl,(ag dK.out 5).trans rfl,(ag cw.out 0).trans rfl,(ag cw.out 1).trans rfl,(ag cw.out 2).trans rfl⟩ (fun hHeld=> ?_)
         clear hK K
         refine eM (a':= ?_) ?_ ?_
         rotate_left
         ·show Act.put _ (some 82) _=_
          simp only [Act.put,dg,dh,di,aY,a9]
          rfl
         refine bP (i:=6) (N:=some 83) (v:= ?_) (a':= ?_) #[true,true,true,true,true,true,true,false,false] rfl rfl (bz HT_.out (by kernel_rfl)) (fun _ _ _ h=>h) (Or.inl ⟨by rfl, ?_⟩) ?_ ?_
         rotate_left
         ·intro w'
          go_simp
          with_reducible rfl
         rotate_left
         ·simp only [Act.put,dg,dh,di,aY,a9]
          rfl
         refine bP (i:=7) (N:=some 84) (v:= ?_) (a':= ?_) #[true,true,true,true,true,true,true,true,false] rfl rfl (bz HT_.out (by kernel_rfl)) (fun _ _ _ h=>h) (Or.inl ⟨by rfl, ?_⟩) ?_ ?_
         rotate_left
         ·intro w'
          go_simp
          with_reducible rfl
         rotate_left
         ·simp only [Act.put,dg,dh,di,aY,a9]
          rfl
         refine qz (i:=8) (N:=none) #[true,true,true,true,true,true,true,true,true] rfl rfl (dZ HT_.out (by kernel_rfl)) (by decide) (fun K hK=> ?_)
         have ady:xP.cell? ⟨cB,4,none⟩=some (.int .i64 0):=(ag dK.out 4).trans rfl
         have abf:=ah dK.out 4
         have Ud:=jk.out
         have Ue:=gY.out
         have Uf:=rH.out
         have Ug:=rI.out
         refine oz (w1:= ?_) (by rfl) rfl ?_ ?_
         rotate_left
         ·go_simp
          rfl
         refine hK.out _ _ ?_
         clear hK K
         refine j1 (gD HT_.out (by kernel_rfl)) ?_
         have abg:=pM.out
         have abh:=kC.out
         have abj:=ij.out
         have abk:=db.out
         have DG:xP.cell? ⟨fc,0,none⟩=some (.int .i64 (wrap64 (2+ej))):=(ag cw.out 0).trans rfl
         have DH:xP.cell? ⟨fc,1,none⟩=some (.slice kZ bp.length lc):=(ag cw.out 1).trans rfl
         have DI:xP.cell? ⟨fc,2,none⟩=some (gm):=(ag cw.out 2).trans rfl
         have DJ:=ah cw.out 0
         have DK:=ah cw.out 1
         have DL:=ah cw.out 2
         have Uh:xP.cell? ⟨cB,0,none⟩=some (.int .i64 (wrap64 (1+jS))):=(ag dK.out 0).trans rfl
         have Ui:xP.cell? ⟨cB,1,none⟩=some (.int .i64 gu):=(ag dK.out 1).trans rfl
         have Uj:xP.cell? ⟨cB,2,none⟩=some (.int .i64 (Int.tmod (wrap64 ((wrap64 (gu+1))+mB)) (bp.length:Int))):=(ag dK.out 2).trans rfl
         have Uk:xP.cell? ⟨cB,3,none⟩=some (.int .i64 (wrap64 (kK - (wrap64 (2+ej))))):=(ag dK.out 3).trans rfl
         have Ul:xP.cell? ⟨cB,4,none⟩=some (.int .i64 0):=(ag dK.out 4).trans rfl
         have Um:xP.cell? ⟨cB,5,none⟩=some (.int .i64 lf):=(ag dK.out 5).trans rfl
         have Un:=ah dK.out 0
         have Uo:=ah dK.out 1
         have Up:=ah dK.out 2
         have Uq:=ah dK.out 3
         have Ur:=ah dK.out 4
         have Us:=ah dK.out 5
         try go_wp2_with (first|((with_reducible refine gr (b:= .append) (xs:=#[.tmp 86,.tmp 88]) rfl ?_);at_builtin;refine Kd.ox nD (w0:=w) w.heap.size rfl (.tmp 86) (.tmp 88) 24 36 (.agg #[(.int .i64 0),(.int .i64 0),(.int .i64 0),(.int .i64 0),(.int .i64 0),(.int .i64 0)]) 48 rfl Try.underlying24 MF rfl (by decide) (by omega) gm eB (⟨wrap64 (1+jS),gu,Int.tmod (wrap64 ((wrap64 (gu+1))+mB)) (bp.length:Int),wrap64 (kK - (wrap64 (2+ej))),wrap64 ((wrap64 (kK - (wrap64 (2+ej))))+wH),lf⟩:eu) [.int .i64 (wrap64 (1+jS)),.int .i64 gu,.int .i64 (Int.tmod (wrap64 ((wrap64 (gu+1))+mB)) (bp.length:Int)),.int .i64 (wrap64 (kK - (wrap64 (2+ej)))),.int .i64 (wrap64 ((wrap64 (kK - (wrap64 (2+ej))))+wH)),.int .i64 lf] (fun k_=>k_≠cB) (fun _=>False) rfl (by first|(go_simp;done)|(go_simp;rfl)) ?aP (fun _ hk=>hk.elim) ?aF ?aO ?aB ?aS ?aL ?_;(case aP=>exact vB _ _ _ (⟨wrap64 (1+jS),gu,Int.tmod (wrap64 ((wrap64 (gu+1))+mB)) (bp.length:Int),wrap64 (kK - (wrap64 (2+ej))),wrap64 ((wrap64 (kK - (wrap64 (2+ej))))+wH),lf⟩:eu));(case aB=>exact (by repeat (first|(with_reducible first|exact HB.out|apply ae|apply ab|apply af|refine ai ?_ (ax.ge bU.out)|refine ai ?_ iU.out|refine ai ?_ jF.out|refine ai ?_ tu.out)|exact HB.out)));(case aF=>exact (fun k_ hk=>Kd.lu (g:=cB) (o:= .cells #[.int .i64 (wrap64 (1+jS)),.int .i64 gu,.int .i64 (Int.tmod (wrap64 ((wrap64 (gu+1))+mB)) (bp.length:Int)),.int .i64 (wrap64 (kK - (wrap64 (2+ej)))),.int .i64 (wrap64 ((wrap64 (kK - (wrap64 (2+ej))))+wH)),.int .i64 lf] 36 (0,0)) (by (with_reducible repeat (first|refine ak ?_ _|refine aq ?_|refine aj ?_ _));refine df (cs:=#[.int .i64 (wrap64 (1+jS)),.int .i64 gu,.int .i64 (Int.tmod (wrap64 ((wrap64 (gu+1))+mB)) (bp.length:Int)),.int .i64 (wrap64 (kK - (wrap64 (2+ej)))),.int .i64 0,.int .i64 lf]) ?_ 4 _ rfl;(with_reducible repeat (first|refine ak ?_ _|refine aq ?_|refine aj ?_ _));exact dK.out) k_ hk));(case aO=>exact (by (with_reducible repeat (first|apply Kd.aw|apply Kd.av|apply Kd.aA));exact Kd.bN (Kd.cg (p:=⟨cB,4,none⟩) (Kd.bN HO_111002.out (fun k_ hk=>(⟨hk,hk⟩:_∧k_≠cB))) (fun _ hk=>hk.2) (.int .i64 (wrap64 ((wrap64 (kK - (wrap64 (2+ej))))+wH)))) (fun _ hk=>hk.1)));(case aS=>exact (az (by repeat (first|(with_reducible first|exact HB.out|apply ae|apply ab|apply af|refine ai ?_ (ax.ge bU.out)|refine ai ?_ iU.out|refine ai ?_ jF.out|refine ai ?_ tu.out)|exact HB.out))));(case aL=>have:=Qb.out;omega);intro adz YK ho hb hg hat;rw [← Qc.out] at ho;have br:=aa.mk (Kd.te (by (with_reducible repeat (first|apply Kd.aw|apply Kd.av|apply Kd.aA));exact (Kd.bN (Kd.cg (p:=⟨cB,4,none⟩) (Kd.dL HO_111001.out dK.out (by decide)) (fun _ hk=>hk.2) (.int .i64 (wrap64 ((wrap64 (kK - (wrap64 (2+ej))))+wH)))) (fun _ h_=>h_.1))) (Kd.ry (by (with_reducible repeat (first|apply Kd.aw|apply Kd.av|apply Kd.aA));exact (Kd.bN (Kd.cg (p:=⟨cB,4,none⟩) (Kd.bN HO_111002.out (fun k_ hk=>(⟨hk,hk⟩:_∧k_≠cB))) (fun _ hk=>hk.2) (.int .i64 (wrap64 ((wrap64 (kK - (wrap64 (2+ej))))+wH)))) (fun _ h_=>h_.1)))) (by decide) hg);have bt:=aa.mk (dq (g:=gA) (o:= .cells #[.int .i64 0,.slice none 0 0,.slice none 0 0] 26 (0,0)) (by (with_reducible repeat (first|refine ak ?_ _|refine aq ?_|refine aj ?_ _));refine cI ?_ jk.out _;(with_reducible repeat (first|refine ak ?_ _|refine aq ?_|refine aj ?_ _));exact dm.out) hg (Kd.mz HO_111002.out dm.out (by decide)));have bA:=aa.mk (dq (g:=fc) (o:= .cells #[.int .i64 (wrap64 (2+ej)),.slice kZ bp.length lc,gm] 26 (0,0)) (by (with_reducible repeat (first|refine ak ?_ _|refine aq ?_|refine aj ?_ _));refine cI ?_ gY.out _;(with_reducible repeat (first|refine ak ?_ _|refine aq ?_|refine aj ?_ _));exact cw.out) hg (Kd.mz HO_111002.out cw.out (by decide)));have bK:=aa.mk (ax.grown (show ax w _ ig fe GW from by repeat (first|(with_reducible first|exact bU.out|apply ax.alloc|apply ax.drewN|apply ax.drew|apply ax.e9|refine ax.far ?_ cY.out _|refine ax.far ?_ db.out _|refine ax.far ?_ ik.out _)|exact bU.out)) hg (ax.mO bU.out HO_111002.out (by decide)));have cL:=aa.mk (dq (g:=cB) (o:= .cells #[.int .i64 (wrap64 (1+jS)),.int .i64 gu,.int .i64 (Int.tmod (wrap64 ((wrap64 (gu+1))+mB)) (bp.length:Int)),.int .i64 (wrap64 (kK - (wrap64 (2+ej)))),.int .i64 (wrap64 ((wrap64 (kK - (wrap64 (2+ej))))+wH)),.int .i64 lf] 36 (0,0)) (by (with_reducible repeat (first|refine ak ?_ _|refine aq ?_|refine aj ?_ _));refine df (cs:=#[.int .i64 (wrap64 (1+jS)),.int .i64 gu,.int .i64 (Int.tmod (wrap64 ((wrap64 (gu+1))+mB)) (bp.length:Int)),.int .i64 (wrap64 (kK - (wrap64 (2+ej)))),.int .i64 0,.int .i64 lf]) ?_ 4 _ rfl;(with_reducible repeat (first|refine ak ?_ _|refine aq ?_|refine aj ?_ _));exact dK.out) hg (Kd.Mt HO_111002.out (fun _ hk=>hk)));have dc:=aa.mk (hb);have dQ:=aa.mk (ho);clear HO_111001;clear dm;clear cw;clear bU;clear dK;clear HB;clear HO_111002;have HO_111001:=br;have dm:=bt;have cw:=bA;have bU:=bK;have dK:=cL;have HB:=dc;have LI:=dQ;clear br bt bA bK cL dc dQ;clear ho hb hg hat;obtain ⟨M7,M8,YL⟩:=Kd.cA LI.out;subst YL;have JA:YK.cell? ⟨fc,0,none⟩=some (.int .i64 (wrap64 (2+ej))):=(ag cw.out 0).trans rfl;have JB:YK.cell? ⟨fc,1,none⟩=some (.slice kZ bp.length lc):=(ag cw.out 1).trans rfl;have JC:YK.cell? ⟨fc,2,none⟩=some (gm):=(ag cw.out 2).trans rfl;have JD:=ah cw.out 0;have JE:=ah cw.out 1;have JF:=ah cw.out 2))
         go_roundg yM
         case measure=>have:=lw.out;have:=wG.out;have:=P3.out;omega
         case rel=>exact ⟨(wrap64 (sm - 1)),(GW),(GY),(.slice M7 GY.length M8),(by first|rfl|(simp;done)|(simp [*];done)),H',⟨by have:=lw.out;have:=wG.out;have:=P3.out;omega⟩,⟨by (with_reducible repeat (first|apply Kd.aw|apply Kd.av|apply Kd.aA));exact Kd.bN (Kd.cg (p:=⟨fc,2,none⟩) (Kd.dL HO_111001.out cw.out (by decide)) (fun _ hk=>hk.2) (.slice M7 GY.length M8)) (fun _ hk=>trivial)⟩,⟨by (with_reducible repeat (first|apply Kd.aw|apply Kd.av|apply Kd.aA));exact Kd.bN (Kd.cg (p:=⟨fc,2,none⟩) (Kd.dL LI.out cw.out (by decide)) (fun _ hk=>hk.2) (.slice M7 GY.length M8)) (fun _ hk=>trivial)⟩,⟨by (with_reducible repeat (first|refine ak ?_ _|refine aq ?_|refine aj ?_ _));refine cI ?_ kC.out _;(with_reducible repeat (first|refine ak ?_ _|refine aq ?_|refine aj ?_ _));exact dm.out⟩,⟨by (with_reducible repeat (first|refine ak ?_ _|refine aq ?_|refine aj ?_ _));refine df (cs:=#[.int .i64 (wrap64 (2+ej)),.slice kZ bp.length lc,gm]) ?_ 2 _ rfl;(with_reducible repeat (first|refine ak ?_ _|refine aq ?_|refine aj ?_ _));exact cw.out⟩,⟨by repeat (first|(with_reducible first|exact bU.out|apply ax.alloc|apply ax.drewN|apply ax.drew|apply ax.e9|refine ax.far ?_ cY.out _|refine ax.far ?_ db.out _|refine ax.far ?_ ik.out _)|exact bU.out)⟩,⟨by repeat (first|(with_reducible first|exact HB.out|apply ae|apply ab|apply af|refine ai ?_ (ax.ge bU.out)|refine ai ?_ iU.out|refine ai ?_ jF.out|refine ai ?_ tu.out)|exact HB.out)⟩⟩
        rw [if_neg GX] at H
        exact absurd H (by simp)
       replace TS:=Bool.eq_false_iff.mpr TS
       subst TS
       have H1:(some ((wrap64 (2+ej)),bp,eB))=some (r1,r2,r3):=by rw [if_neg (show ¬(false=true) by decide)] at H;exact H
       clear H
       have H:=H1
       clear H1
       simp only [Option.some.injEq,Prod.mk.injEq] at H
       obtain ⟨rfl,rfl,rfl⟩:=H
       have abl:=pM.out
       have abm:=kC.out
       have Qd:=ij.out
       have Qe:=db.out
       have Ut:wc.cell? ⟨fc,0,none⟩=some (.int .i64 (wrap64 (2+ej))):=(ag cw.out 0).trans rfl
       have Uu:wc.cell? ⟨fc,1,none⟩=some (.slice kZ bp.length lc):=(ag cw.out 1).trans rfl
       have Uv:wc.cell? ⟨fc,2,none⟩=some (gm):=(ag cw.out 2).trans rfl
       have Uw:=ah cw.out 0
       have Ux:=ah cw.out 1
       have Uy:=ah cw.out 2
       have abn:=jj.out
       have abo:=cY.out
       have Uz:wc.cell? ⟨gA,0,none⟩=some (.int .i64 0):=(ag dm.out 0).trans rfl
       have UA:wc.cell? ⟨gA,1,none⟩=some (.slice none 0 0):=(ag dm.out 1).trans rfl
       have UB:wc.cell? ⟨gA,2,none⟩=some (.slice none 0 0):=(ag dm.out 2).trans rfl
       have UC:=ah dm.out 0
       have UD:=ah dm.out 1
       have UE:=ah dm.out 2
       obtain ⟨M9,Na,YM⟩:=Kd.cA HO_111002.out
       subst YM
       go_wp2
       refine bodyPost_ret (results_cell_row rfl _ _ gA 26 #[.int .i64 (wrap64 (2+ej)),.slice kZ bp.length lc,.slice M9 eB.length Na] (0,0) _ rfl (by (with_reducible repeat (first|refine ak ?_ _|refine aq ?_|refine aj ?_ _));refine df (cs:=#[.int .i64 (wrap64 (2+ej)),.slice kZ bp.length lc,.slice none 0 0]) ?_ 2 _ rfl;(with_reducible repeat (first|refine ak ?_ _|refine aq ?_|refine aj ?_ _));refine df (cs:=#[.int .i64 (wrap64 (2+ej)),.slice none 0 0,.slice none 0 0]) ?_ 1 _ rfl;(with_reducible repeat (first|refine ak ?_ _|refine aq ?_|refine aj ?_ _));refine df (cs:=#[.int .i64 0,.slice none 0 0,.slice none 0 0]) ?_ 0 _ rfl;(with_reducible repeat (first|refine ak ?_ _|refine aq ?_|refine aj ?_ _));exact dm.out) Try.underlying26 rfl (by kernel_rfl)) rfl ?_
       exact ⟨_,_,by first|rfl|(simp [bB,bC]<;>rfl)|(simp [*,bB,bC]<;>rfl),by (with_reducible repeat (first|apply Kd.aw|apply Kd.av|apply Kd.aA));exact Kd.bN (Kd.cg (p:=⟨gA,2,none⟩) (Kd.cg (p:=⟨gA,1,none⟩) (Kd.cg (p:=⟨gA,0,none⟩) (Kd.dL HO_111001.out dm.out (by decide)) (fun _ hk=>hk.2) (.int .i64 (wrap64 (2+ej)))) (fun _ hk=>hk.2) (.slice kZ bp.length lc)) (fun _ hk=>hk.2) (.slice M9 eB.length Na)) (fun _ hk=>trivial),by (with_reducible repeat (first|apply Kd.aw|apply Kd.av|apply Kd.aA));exact Kd.bN (Kd.cg (p:=⟨gA,2,none⟩) (Kd.cg (p:=⟨gA,1,none⟩) (Kd.cg (p:=⟨gA,0,none⟩) (Kd.dL HO_111002.out dm.out (by decide)) (fun _ hk=>hk.2) (.int .i64 (wrap64 (2+ej)))) (fun _ hk=>hk.2) (.slice kZ bp.length lc)) (fun _ hk=>hk.2) (.slice M9 eB.length Na)) (fun _ hk=>trivial),by repeat (first|(with_reducible first|exact HB.out|apply ae|apply ab|apply af|refine ai ?_ (ax.ge bU.out)|refine ai ?_ iU.out|refine ai ?_ jF.out)|exact HB.out)⟩
end Go.Proofs.Ytbkjplomoegbdaa.PB
