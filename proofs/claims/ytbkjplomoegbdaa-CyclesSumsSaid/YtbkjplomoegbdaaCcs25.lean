/- Parts of the proof of CyclesSums, gathered by a program of this claim out of texts that it or the kit's print wrote: lemmas alone, no condition of their own. -/
import Derived.Test.YtbkjplomoegbdaaCcs24
namespace Go.Proofs.Ytbkjplomoegbdaa.PB
open Go.RowKit Go.Proofs.YtbkjplomoegbdaaW.bO Go.Proofs.YtbkjplomoegbdaaW.dA Go.Proofs.YtbkjplomoegbdaaW.dG
attribute [local go_sem] iQ iR jM jN gW gX iS iT
set_option linter.unusedVariables false
set_option linter.unusedSimpArgs false
def ay.j0:Nat→List Int→List Int→Int→List (hO)→List (eu)→List Int→List Int→List Int→List Int→Option (Bool)
 |0,_,_,_,_,_,_,_,_,_=>none
 |k+1,wB,Ly,z3,z4,z5,E8,E9,K9,La=>(dr.f).bind fun Lb=>(if Lb=true then ((ei.f z3 z4 z5 E8 E9).bind fun Ca=>(if Ca=true then ((cf.f z3 z4 z5 E8 E9 wB Ly).bind fun vv=>(if vv=true then ((cf.f z3 z4 z5 K9 La wB Ly).bind fun sn=>(some sn)) else (some false))) else (some false))) else (some false))
def ay.f (k:Nat) (l0:List Int) (l1:List Int) (l2:List Int) (a3:Int) (a4:Int) (a5:Int):Option (Bool):=(aG.f k l0).bind fun iJ=>((cD.f k l2 (iJ.2.2.length:Int)).bind fun jd=>((cC.f k iJ.1 iJ.2.1 iJ.2.2 l1).bind fun iY=>((ew.f k iJ.1 iJ.2.1 iJ.2.2 a3).bind fun f9=>(if f9.2.2=true then (if ([]:List Int).length+f9.1.length<17592186044416 then ((some (([]:List Int)++f9.1:List Int)).bind fun dI=>(if ([]:List Int).length+f9.2.1.length<17592186044416 then ((some (([]:List Int)++f9.2.1:List Int)).bind fun dS=>((bw.f a4 (dI.length:Int)).bind fun eA=>(if (Int.tmod a5 2)=0 then ((bw.f (wrap64 (Int.tdiv a5 2)) (wrap64 ((iJ.2.2.length:Int)+1))).bind fun mf=>(if 0≤eA then (if eA<(dI.length:Int) then (ay.j0 k jd iY iJ.1 iJ.2.1 iJ.2.2 f9.1 f9.2.1 (dI.set (eA:Int).toNat mf) dS) else (none)) else (none))) else ((bw.f (wrap64 (Int.tdiv a5 2)) 4).bind fun mg=>(if 0≤eA then (if eA<(dS.length:Int) then (ay.j0 k jd iY iJ.1 iJ.2.1 iJ.2.2 f9.1 f9.2.1 dI (dS.set (eA:Int).toNat (wrap64 (mg - 2)))) else (none)) else (none)))))) else (none))) else (none)) else ((dr.f).bind fun sq=>(if sq=true then ((cf.f iJ.1 iJ.2.1 iJ.2.2 l2 l1 jd iY).bind fun pX=>(some pX)) else (some false)))))))
def ay.T2:Bool × List (List Nat × List Nat):=(true,[([],[]),([],[]),([1],[1]),([2],[2]),([0,3],[0,3]),([],[]),([],[]),([5,6,4],[5,6]),([4,7,0,1,2,3,4],[4]),([7,8,0,1,2,3,4,5,6,7,8],[7])])
def ay.B2:List Nat:=[0,0,2,6,15,0,0,127,255,511]
theorem ay.OJ:jX .any (opsOf Try.f4 2)=ay.T2:=by kernel_rfl
theorem ay.ID:gU ay.T2.2 ay.B2=true:=by kernel_rfl
def ay.T6:Bool × List (List Nat × List Nat):=(true,[([],[]),([0],[0]),([1],[1]),([],[]),([3],[3]),([4,2],[4]),([2,5],[2,5]),([],[]),([7,6,5,0,1,2,3,4,5,6,7],[6,7])])
def ay.B6:List Nat:=[0,1,3,0,8,31,63,0,255]
theorem ay.MT:jX .any (opsOf Try.f4 6)=ay.T6:=by kernel_rfl
theorem ay.GN:gU ay.T6.2 ay.B6=true:=by kernel_rfl
def ay.T9:Bool × List (List Nat × List Nat):=(true,[([],[]),([0],[0]),([],[]),([],[]),([3],[3]),([],[]),([5],[5]),([6],[6]),([7],[7]),([4,8],[4,8]),([1,2,0,1,2,3,4,5,6,7,8,9],[1,2]),([10,9,9,0,1,2,3,4,5,6,7,8,9],[9,10])])
def ay.B9:List Nat:=[0,1,0,0,8,0,32,96,224,504,1023,2047]
theorem ay.aab:jX .any (opsOf Try.f4 9)=ay.T9:=by kernel_rfl
theorem ay.RD:gU ay.T9.2 ay.B9=true:=by kernel_rfl
def ay.T10:Bool × List (List Nat × List Nat):=(true,[([],[]),([0],[0]),([],[]),([],[]),([3],[3]),([4],[4]),([5],[5]),([1,2,0,1,2,3,4,5,6],[1,2]),([7,6,5,0,1,2,3,4,5,6],[6,7])])
def ay.B10:List Nat:=[0,1,0,0,8,24,56,127,255]
theorem ay.RE:jX .any (opsOf Try.f4 10)=ay.T10:=by kernel_rfl
theorem ay.OK:gU ay.T10.2 ay.B10=true:=by kernel_rfl
set_option maxHeartbeats 8000000 in
set_option maxRecDepth 100000 in
theorem ay.calls (k:Nat) (A0:Option Addr) (c0:Nat) (l0:List Int) (A1:Option Addr) (c1:Nat) (l1:List Int) (A2:Option Addr) (c2:Nat) (l2:List Int) (a3:Int) (a4:Int) (a5:Int) (r:Bool) (w:World) (hr0:Kd.C (Kd.int .i64) w A0 l0.length l0) (hc0:l0.length≤c0) (mh:Kd.C (Kd.int .i64) w A1 l1.length l1) (oA:l1.length≤c1) (xS:Kd.C (Kd.int .i64) w A2 l2.length l2) (uQ:l2.length≤c2) (h:ay.f k l0 l1 l2 a3 a4 a5=some r):
  Calls Try.prog 4 #[.slice A0 l0.length c0,.slice A1 l1.length c1,.slice A2 l2.length c2,.int .i64 a3,.int .i64 a4,.int .i64 a5] w fun e w'=>e= .returned (.bool r)∧Below w.heap.size w w':=by
 have nu:=Try.underlying26
 have Bu:=Try.underlying41
 have xJ:=aa.mk hr0
 have Fu:=aa.mk hc0
 clear hr0 hc0
 have lA:=aa.mk mh
 have pK:=aa.mk oA
 clear mh oA
 have qn:=aa.mk xS
 have lm:=aa.mk uQ
 clear xS uQ
 have HB:=aa.mk (Below.refl w.heap.size w)
 have H:((aG.f k l0).bind fun iJ=>((cD.f k l2 (iJ.2.2.length:Int)).bind fun jd=>((cC.f k iJ.1 iJ.2.1 iJ.2.2 l1).bind fun iY=>((ew.f k iJ.1 iJ.2.1 iJ.2.2 a3).bind fun f9=>(if f9.2.2=true then (if ([]:List Int).length+f9.1.length<17592186044416 then ((some (([]:List Int)++f9.1:List Int)).bind fun dI=>(if ([]:List Int).length+f9.2.1.length<17592186044416 then ((some (([]:List Int)++f9.2.1:List Int)).bind fun dS=>((bw.f a4 (dI.length:Int)).bind fun eA=>(if (Int.tmod a5 2)=0 then ((bw.f (wrap64 (Int.tdiv a5 2)) (wrap64 ((iJ.2.2.length:Int)+1))).bind fun mf=>(if 0≤eA then (if eA<(dI.length:Int) then (ay.j0 k jd iY iJ.1 iJ.2.1 iJ.2.2 f9.1 f9.2.1 (dI.set (eA:Int).toNat mf) dS) else (none)) else (none))) else ((bw.f (wrap64 (Int.tdiv a5 2)) 4).bind fun mg=>(if 0≤eA then (if eA<(dS.length:Int) then (ay.j0 k jd iY iJ.1 iJ.2.1 iJ.2.2 f9.1 f9.2.1 dI (dS.set (eA:Int).toNat (wrap64 (mg - 2)))) else (none)) else (none)))))) else (none))) else (none)) else ((dr.f).bind fun sq=>(if sq=true then ((cf.f iJ.1 iJ.2.1 iJ.2.2 l2 l1 jd iY).bind fun pX=>(some pX)) else (some false))))))))=some r:=h
 clear h
 replace H:=Option.bind_eq_some_iff.mp H
 obtain ⟨⟨cU,cz,cq⟩,A70,H⟩:=H
 replace H:((cD.f k l2 (cq.length:Int)).bind fun jd=>((cC.f k cU cz cq l1).bind fun iY=>((ew.f k cU cz cq a3).bind fun f9=>(if f9.2.2=true then (if ([]:List Int).length+f9.1.length<17592186044416 then ((some (([]:List Int)++f9.1:List Int)).bind fun dI=>(if ([]:List Int).length+f9.2.1.length<17592186044416 then ((some (([]:List Int)++f9.2.1:List Int)).bind fun dS=>((bw.f a4 (dI.length:Int)).bind fun eA=>(if (Int.tmod a5 2)=0 then ((bw.f (wrap64 (Int.tdiv a5 2)) (wrap64 ((cq.length:Int)+1))).bind fun mf=>(if 0≤eA then (if eA<(dI.length:Int) then (ay.j0 k jd iY cU cz cq f9.1 f9.2.1 (dI.set (eA:Int).toNat mf) dS) else (none)) else (none))) else ((bw.f (wrap64 (Int.tdiv a5 2)) 4).bind fun mg=>(if 0≤eA then (if eA<(dS.length:Int) then (ay.j0 k jd iY cU cz cq f9.1 f9.2.1 dI (dS.set (eA:Int).toNat (wrap64 (mg - 2)))) else (none)) else (none)))))) else (none))) else (none)) else ((dr.f).bind fun sq=>(if sq=true then ((cf.f cU cz cq l2 l1 jd iY).bind fun pX=>(some pX)) else (some false)))))))=some r:=H
 have A7:=aa.mk A70
 clear A70
 replace H:=Option.bind_eq_some_iff.mp H
 obtain ⟨jd,GG,H⟩:=H
 replace H:((cC.f k cU cz cq l1).bind fun iY=>((ew.f k cU cz cq a3).bind fun f9=>(if f9.2.2=true then (if ([]:List Int).length+f9.1.length<17592186044416 then ((some (([]:List Int)++f9.1:List Int)).bind fun dI=>(if ([]:List Int).length+f9.2.1.length<17592186044416 then ((some (([]:List Int)++f9.2.1:List Int)).bind fun dS=>((bw.f a4 (dI.length:Int)).bind fun eA=>(if (Int.tmod a5 2)=0 then ((bw.f (wrap64 (Int.tdiv a5 2)) (wrap64 ((cq.length:Int)+1))).bind fun mf=>(if 0≤eA then (if eA<(dI.length:Int) then (ay.j0 k jd iY cU cz cq f9.1 f9.2.1 (dI.set (eA:Int).toNat mf) dS) else (none)) else (none))) else ((bw.f (wrap64 (Int.tdiv a5 2)) 4).bind fun mg=>(if 0≤eA then (if eA<(dS.length:Int) then (ay.j0 k jd iY cU cz cq f9.1 f9.2.1 dI (dS.set (eA:Int).toNat (wrap64 (mg - 2)))) else (none)) else (none)))))) else (none))) else (none)) else ((dr.f).bind fun sq=>(if sq=true then ((cf.f cU cz cq l2 l1 jd iY).bind fun pX=>(some pX)) else (some false))))))=some r:=H
 have A8:=aa.mk GG
 clear GG
 replace H:=Option.bind_eq_some_iff.mp H
 obtain ⟨iY,Q4,H⟩:=H
 replace H:((ew.f k cU cz cq a3).bind fun f9=>(if f9.2.2=true then (if ([]:List Int).length+f9.1.length<17592186044416 then ((some (([]:List Int)++f9.1:List Int)).bind fun dI=>(if ([]:List Int).length+f9.2.1.length<17592186044416 then ((some (([]:List Int)++f9.2.1:List Int)).bind fun dS=>((bw.f a4 (dI.length:Int)).bind fun eA=>(if (Int.tmod a5 2)=0 then ((bw.f (wrap64 (Int.tdiv a5 2)) (wrap64 ((cq.length:Int)+1))).bind fun mf=>(if 0≤eA then (if eA<(dI.length:Int) then (ay.j0 k jd iY cU cz cq f9.1 f9.2.1 (dI.set (eA:Int).toNat mf) dS) else (none)) else (none))) else ((bw.f (wrap64 (Int.tdiv a5 2)) 4).bind fun mg=>(if 0≤eA then (if eA<(dS.length:Int) then (ay.j0 k jd iY cU cz cq f9.1 f9.2.1 dI (dS.set (eA:Int).toNat (wrap64 (mg - 2)))) else (none)) else (none)))))) else (none))) else (none)) else ((dr.f).bind fun sq=>(if sq=true then ((cf.f cU cz cq l2 l1 jd iY).bind fun pX=>(some pX)) else (some false)))))=some r:=H
 have A9:=aa.mk Q4
 clear Q4
 replace H:=Option.bind_eq_some_iff.mp H
 obtain ⟨⟨eE,eG,RF⟩,Ix,H⟩:=H
 replace H:(if RF=true then (if ([]:List Int).length+eE.length<17592186044416 then ((some (([]:List Int)++eE:List Int)).bind fun dI=>(if ([]:List Int).length+eG.length<17592186044416 then ((some (([]:List Int)++eG:List Int)).bind fun dS=>((bw.f a4 (dI.length:Int)).bind fun eA=>(if (Int.tmod a5 2)=0 then ((bw.f (wrap64 (Int.tdiv a5 2)) (wrap64 ((cq.length:Int)+1))).bind fun mf=>(if 0≤eA then (if eA<(dI.length:Int) then (ay.j0 k jd iY cU cz cq eE eG (dI.set (eA:Int).toNat mf) dS) else (none)) else (none))) else ((bw.f (wrap64 (Int.tdiv a5 2)) 4).bind fun mg=>(if 0≤eA then (if eA<(dS.length:Int) then (ay.j0 k jd iY cU cz cq eE eG dI (dS.set (eA:Int).toNat (wrap64 (mg - 2)))) else (none)) else (none)))))) else (none))) else (none)) else ((dr.f).bind fun sq=>(if sq=true then ((cf.f cU cz cq l2 l1 jd iY).bind fun pX=>(some pX)) else (some false))))=some r:=H
 have LP:=aa.mk Ix
 clear Ix
 by_cases xc:RF=true
 ·subst xc
  have H1:(if ([]:List Int).length+eE.length<17592186044416 then ((some (([]:List Int)++eE:List Int)).bind fun dI=>(if ([]:List Int).length+eG.length<17592186044416 then ((some (([]:List Int)++eG:List Int)).bind fun dS=>((bw.f a4 (dI.length:Int)).bind fun eA=>(if (Int.tmod a5 2)=0 then ((bw.f (wrap64 (Int.tdiv a5 2)) (wrap64 ((cq.length:Int)+1))).bind fun mf=>(if 0≤eA then (if eA<(dI.length:Int) then (ay.j0 k jd iY cU cz cq eE eG (dI.set (eA:Int).toNat mf) dS) else (none)) else (none))) else ((bw.f (wrap64 (Int.tdiv a5 2)) 4).bind fun mg=>(if 0≤eA then (if eA<(dS.length:Int) then (ay.j0 k jd iY cU cz cq eE eG dI (dS.set (eA:Int).toNat (wrap64 (mg - 2)))) else (none)) else (none)))))) else (none))) else (none))=some r:=by rw [if_pos rfl] at H;exact H
  clear H
  have H:=H1
  clear H1
  by_cases sZ:([]:List Int).length+eE.length<17592186044416
  ·rw [if_pos sZ] at H
   have Mi:=aa.mk sZ
   clear sZ
   obtain ⟨dI,Cb⟩:∃ y_:List Int,y_=(([]:List Int)++eE):=⟨_,rfl⟩
   replace H:(if ([]:List Int).length+eG.length<17592186044416 then ((some (([]:List Int)++eG:List Int)).bind fun dS=>((bw.f a4 (dI.length:Int)).bind fun eA=>(if (Int.tmod a5 2)=0 then ((bw.f (wrap64 (Int.tdiv a5 2)) (wrap64 ((cq.length:Int)+1))).bind fun mf=>(if 0≤eA then (if eA<(dI.length:Int) then (ay.j0 k jd iY cU cz cq eE eG (dI.set (eA:Int).toNat mf) dS) else (none)) else (none))) else ((bw.f (wrap64 (Int.tdiv a5 2)) 4).bind fun mg=>(if 0≤eA then (if eA<(dS.length:Int) then (ay.j0 k jd iY cU cz cq eE eG dI (dS.set (eA:Int).toNat (wrap64 (mg - 2)))) else (none)) else (none)))))) else (none))=some r:=by first|(rw [Cb];with_reducible exact H)|(have gT:=(Option.bind_some _ _).symm.trans H;rw [Cb];with_reducible exact gT)|(have gT:=(Option.bind_some _ _).symm.trans H;with_reducible exact gT)|with_reducible exact H|(rw [Cb];exact H)|exact H
   have Mj:=aa.mk Cb
   clear Cb
   by_cases oh:([]:List Int).length+eG.length<17592186044416
   ·rw [if_pos oh] at H
    have IE:=aa.mk oh
    clear oh
    obtain ⟨dS,Cc⟩:∃ y_:List Int,y_=(([]:List Int)++eG):=⟨_,rfl⟩
    replace H:((bw.f a4 (dI.length:Int)).bind fun eA=>(if (Int.tmod a5 2)=0 then ((bw.f (wrap64 (Int.tdiv a5 2)) (wrap64 ((cq.length:Int)+1))).bind fun mf=>(if 0≤eA then (if eA<(dI.length:Int) then (ay.j0 k jd iY cU cz cq eE eG (dI.set (eA:Int).toNat mf) dS) else (none)) else (none))) else ((bw.f (wrap64 (Int.tdiv a5 2)) 4).bind fun mg=>(if 0≤eA then (if eA<(dS.length:Int) then (ay.j0 k jd iY cU cz cq eE eG dI (dS.set (eA:Int).toNat (wrap64 (mg - 2)))) else (none)) else (none)))))=some r:=by first|(rw [Cc];with_reducible exact H)|(have gT:=(Option.bind_some _ _).symm.trans H;rw [Cc];with_reducible exact gT)|(have gT:=(Option.bind_some _ _).symm.trans H;with_reducible exact gT)|with_reducible exact H|(rw [Cc];exact H)|exact H
    have IG:=aa.mk Cc
    clear Cc
    replace H:=Option.bind_eq_some_iff.mp H
    obtain ⟨eA,AE,H⟩:=H
    replace H:(if (Int.tmod a5 2)=0 then ((bw.f (wrap64 (Int.tdiv a5 2)) (wrap64 ((cq.length:Int)+1))).bind fun mf=>(if 0≤eA then (if eA<(dI.length:Int) then (ay.j0 k jd iY cU cz cq eE eG (dI.set (eA:Int).toNat mf) dS) else (none)) else (none))) else ((bw.f (wrap64 (Int.tdiv a5 2)) 4).bind fun mg=>(if 0≤eA then (if eA<(dS.length:Int) then (ay.j0 k jd iY cU cz cq eE eG dI (dS.set (eA:Int).toNat (wrap64 (mg - 2)))) else (none)) else (none))))=some r:=H
    have PQ:=aa.mk AE
    clear AE
    have OL:=aa.mk H
    clear H
    go_enter Try.func4,Try.ntmps4
    try go_wp2_with (first|((with_reducible refine bY (f:=31) rfl ?_);refine er (some 21) rfl rfl Try.func31 (by kernel_rfl) rfl #[.slice A0 l0.length c0] rfl (by (try simp only [List.map_toArray,List.map_cons,List.map_nil]);first|done|rfl|(simp only [List.length_drop,List.length_take];rfl)) ?_;(with_reducible refine (aG.calls k _ _ l0 cU cz cq _ ?bS ?bT A7.out).mono ?_);(case bS=>repeat (first|exact xJ.out|(with_reducible refine Kd.aT ?_ _)|(with_reducible refine Kd.aU ?_ _)|(with_reducible refine Kd.bk ?_)));(case bT=>exact Fu.out);rintro e w16 ⟨RG,RH,rfl,mN,qh,hb⟩;refine ⟨_,rfl, ?_⟩;have br:=aa.mk (Kd.eH mN (az (by repeat (first|(with_reducible first|exact HB.out|apply ae|apply ab|apply af)|exact HB.out))));have bt:=aa.mk (Kd.eH qh (az (by repeat (first|(with_reducible first|exact HB.out|apply ae|apply ab|apply af)|exact HB.out))));have bA:=aa.mk (aE (by repeat (first|(with_reducible first|exact HB.out|apply ae|apply ab|apply af)|exact HB.out)) hb);clear HB;have cj:=br;have cl:=bt;have HB:=bA;clear br bt bA;(try clear hb);(try clear hb2);(try clear hk);(try clear hi);(try clear mN);(try clear qh))|((with_reducible refine bF (N:=13) rfl ?_);refine bH ?hg (N:=13) ?hd (cs:=#[.int .i64 0,.slice none 0 0,.slice none 0 0]) (t:=26) ?hr ?_;(case hd=>rfl);(case hg=>rfl);(case hr=>first|(go_simp;done)|(go_simp;rfl));intro bE hg Ct hbox hb;have br:=aa.mk (Kd.aZ (by (with_reducible repeat (first|apply Kd.aw|apply Kd.av|apply Kd.aA));exact cj.out) hb);have bt:=aa.mk (Kd.aZ (by (with_reducible repeat (first|apply Kd.aw|apply Kd.av|apply Kd.aA));exact cl.out) hb);have bA:=aa.mk (aE (by repeat (first|(with_reducible first|exact HB.out|apply ae|apply ab|apply af)|exact HB.out)) hb);have bK:=aa.mk (hbox);have cL:=aa.mk ((by rw [hg];exact (az (by repeat (first|(with_reducible first|exact HB.out|apply ae|apply ab|apply af)|exact HB.out))):w.heap.size≤bE));have dc:=aa.mk ((by rw [hg];exact (az (by repeat (first|(with_reducible first|exact HB.out|apply ae|apply ab|apply af)|exact HB.out))):w.heap.size≤bE));clear cj;clear cl;clear HB;have cj:=br;have cl:=bt;have HB:=bA;have bo:=bK;have Mk:=cL;have d7:=dc;clear br bt bA bK cL dc;clear hb hbox hg;have y9:Ct.cell? ⟨bE,0,none⟩=some (.int .i64 0):=(ag bo.out 0).trans rfl;have za:Ct.cell? ⟨bE,1,none⟩=some (.slice none 0 0):=(ag bo.out 1).trans rfl;have zb:Ct.cell? ⟨bE,2,none⟩=some (.slice none 0 0):=(ag bo.out 2).trans rfl;have ze:=ah bo.out 0;have zf:=ah bo.out 1;have zg:=ah bo.out 2;obtain ⟨fo,fp,aac⟩:=Kd.cA cj.out;subst aac;obtain ⟨fu,fw,aad⟩:=Kd.cA cl.out;subst aad))
    have br:aa (Kd.R oS 97 (((Ct.setCell ⟨bE,0,none⟩ (.int .i64 cU)).setCell ⟨bE,1,none⟩ (.slice fo cz.length fp)).setCell ⟨bE,2,none⟩ (.slice fu cq.length fw)) w.heap.size (fun _=>True) (.slice fo cz.length fp) cz):=⟨by (with_reducible repeat (first|apply Kd.aw|apply Kd.av|apply Kd.aA));exact Kd.bN (Kd.cg (p:=⟨bE,2,none⟩) (Kd.cg (p:=⟨bE,1,none⟩) (Kd.cg (p:=⟨bE,0,none⟩) (Kd.dL cj.out bo.out (by decide)) (fun _ hk=>hk.2) (.int .i64 cU)) (fun _ hk=>hk.2) (.slice fo cz.length fp)) (fun _ hk=>hk.2) (.slice fu cq.length fw)) (fun _ hk=>trivial)⟩
    have bt:aa (Kd.R nD 36 (((Ct.setCell ⟨bE,0,none⟩ (.int .i64 cU)).setCell ⟨bE,1,none⟩ (.slice fo cz.length fp)).setCell ⟨bE,2,none⟩ (.slice fu cq.length fw)) w.heap.size (fun _=>True) (.slice fu cq.length fw) cq):=⟨by (with_reducible repeat (first|apply Kd.aw|apply Kd.av|apply Kd.aA));exact Kd.bN (Kd.cg (p:=⟨bE,2,none⟩) (Kd.cg (p:=⟨bE,1,none⟩) (Kd.cg (p:=⟨bE,0,none⟩) (Kd.dL cl.out bo.out (by decide)) (fun _ hk=>hk.2) (.int .i64 cU)) (fun _ hk=>hk.2) (.slice fo cz.length fp)) (fun _ hk=>hk.2) (.slice fu cq.length fw)) (fun _ hk=>trivial)⟩
    have bA:aa ((((Ct.setCell ⟨bE,0,none⟩ (.int .i64 cU)).setCell ⟨bE,1,none⟩ (.slice fo cz.length fp)).setCell ⟨bE,2,none⟩ (.slice fu cq.length fw)).heap[bE]? =some (.cells #[.int .i64 cU,.slice fo cz.length fp,.slice fu cq.length fw] 26 (0,0))):=⟨by (with_reducible repeat (first|refine ak ?_ _|refine aq ?_|refine aj ?_ _));refine df (cs:=#[.int .i64 cU,.slice fo cz.length fp,.slice none 0 0]) ?_ 2 _ rfl;(with_reducible repeat (first|refine ak ?_ _|refine aq ?_|refine aj ?_ _));refine df (cs:=#[.int .i64 cU,.slice none 0 0,.slice none 0 0]) ?_ 1 _ rfl;(with_reducible repeat (first|refine ak ?_ _|refine aq ?_|refine aj ?_ _));refine df (cs:=#[.int .i64 0,.slice none 0 0,.slice none 0 0]) ?_ 0 _ rfl;(with_reducible repeat (first|refine ak ?_ _|refine aq ?_|refine aj ?_ _));exact bo.out⟩
    have bK:aa (Below w.heap.size w (((Ct.setCell ⟨bE,0,none⟩ (.int .i64 cU)).setCell ⟨bE,1,none⟩ (.slice fo cz.length fp)).setCell ⟨bE,2,none⟩ (.slice fu cq.length fw))):=⟨by repeat (first|(with_reducible first|exact HB.out|apply ae|apply ab|apply af|refine ai ?_ d7.out)|exact HB.out)⟩
    (try clear cj);(try clear cl);(try clear bo);(try clear HB)
    generalize (((Ct.setCell ⟨bE,0,none⟩ (.int .i64 cU)).setCell ⟨bE,1,none⟩ (.slice fo cz.length fp)).setCell ⟨bE,2,none⟩ (.slice fu cq.length fw))=PZ at br bt bA bK ⊢
    have cj:=br;have cl:=bt;have bo:=bA;have HB:=bK
    clear br bt bA bK
    have br:=aa.mk (Kd.aA cj.out)
    have bt:=aa.mk (Kd.aA cl.out)
    have bA:=aa.mk (aq bo.out)
    have bK:=aa.mk (af HB.out)
    clear cj cl bo HB
    have cj:=br;have cl:=bt;have bo:=bA;have HB:=bK
    clear br bt bA bK
    refine ju (n:=10) (S:=fun w'=>w'.cell? ⟨bE,0,none⟩=some (.int .i64 cU)∧w'.cell? ⟨bE,1,none⟩=some (.slice fo cz.length fp)∧w'.cell? ⟨bE,2,none⟩=some (.slice fu cq.length fw)) (ds:=[]) #[false,false,false,false,false,false,false,false,false,false] (by kernel_rfl) rfl rfl ⟨(ag bo.out 0).trans rfl,(ag bo.out 1).trans rfl,(ag bo.out 2).trans rfl⟩ (fun hHeld=> ?_);refine fN ay.OJ ay.ID (fun HT_ HW_=> ?_)
    generalize PZ.drew=Ju at cj cl bo HB hHeld ⊢
    refine bP (i:=0) (N:=some 22) (v:= ?_) (a':= ?_) #[true,false,false,false,false,false,false,false,false,false] rfl rfl (bz HT_.out (by kernel_rfl)) (fun _ _ _ h=>h) (Or.inl ⟨by rfl, ?_⟩) ?_ ?_
    rotate_left
    ·intro w'
     go_simp
     with_reducible rfl
    rotate_left
    ·simp only [Act.put,dg,dh,di,aY,a9]
     rfl
    refine bP (i:=1) (N:=some 23) (v:= ?_) (a':= ?_) #[true,true,false,false,false,false,false,false,false,false] rfl rfl (bz HT_.out (by kernel_rfl)) (fun _ _ _ h=>h) (Or.inl ⟨by rfl, ?_⟩) ?_ ?_
    rotate_left
    ·intro w'
     go_simp
     with_reducible rfl
    rotate_left
    ·simp only [Act.put,dg,dh,di,aY,a9]
     rfl
    refine bP (i:=6) (N:=some 28) (v:= ?_) (a':= ?_) #[true,true,false,false,false,false,true,false,false,false] rfl rfl (bz HT_.out (by kernel_rfl)) (fun _ _ _ h=>h) (Or.inl ⟨by rfl, ?_⟩) ?_ ?_
    rotate_left
    ·intro w'
     go_simp
     with_reducible rfl
    rotate_left
    ·simp only [Act.put,dg,dh,di,aY,a9]
     rfl
    refine eL (i:=2) (N:=some 24) (v:= ?_) (a':= ?_) #[true,true,true,false,false,false,true,false,false,false] rfl rfl (cO HT_.out HW_.out (by kernel_rfl)) (fun _ _ _ h=>h) (Or.inl ⟨by rfl, ?_⟩) hHeld ?_ ?_
    rotate_left
    ·rintro w' ⟨s0,s1,s2⟩
     go_simp
     with_reducible rfl
    rotate_left
    ·simp only [Act.put,dg,dh,di,aY,a9]
     rfl
    refine bP (i:=3) (N:=some 25) (v:= ?_) (a':= ?_) #[true,true,true,true,false,false,true,false,false,false] rfl rfl (bz HT_.out (by kernel_rfl)) (fun _ _ _ h=>h) (Or.inl ⟨by rfl, ?_⟩) ?_ ?_
    rotate_left
    ·intro w'
     go_simp
     with_reducible rfl
    rotate_left
    ·simp only [Act.put,dg,dh,di,aY,a9]
     rfl
    refine eL (i:=5) (N:=some 27) (v:= ?_) (a':= ?_) #[true,true,true,true,false,true,true,false,false,false] rfl rfl (cO HT_.out HW_.out (by kernel_rfl)) (fun _ _ _ h=>h) (Or.inl ⟨by rfl, ?_⟩) hHeld ?_ ?_
    rotate_left
    ·rintro w' ⟨s0,s1,s2⟩
     go_simp
     with_reducible rfl
    rotate_left
    ·simp only [Act.put,dg,dh,di,aY,a9]
     rfl
    refine iP (i:=4) (N:=some 26) #[true,true,true,true,true,true,true,false,false,false] rfl rfl (dZ HT_.out (by kernel_rfl)) (by decide) (fun K hK=> ?_)
    refine mA Try.func36 (by kernel_rfl) rfl #[.slice A2 l2.length c2,.int .i64 (cq.length:Int)] (by rfl) rfl rfl (by (try simp only [List.map_toArray,List.map_cons,List.map_nil]);first|done|rfl|(simp only [List.length_drop,List.length_take];rfl)) ?_
    with_reducible refine (cD.calls k _ _ l2 (cq.length:Int) jd _ ?bS ?bT A8.out).mono ?_
    (case bS=>repeat (first|exact (Kd.aN qn.out HB.out)|(with_reducible refine Kd.aT ?_ _)|(with_reducible refine Kd.aU ?_ _)|(with_reducible refine Kd.bk ?_)))
    (case bT=>exact lm.out)
    rintro e w23 ⟨gJ,rfl,mN,hb⟩
    refine ⟨_,rfl, ?_⟩
    have br:=aa.mk (Kd.aZ (by (with_reducible repeat (first|apply Kd.aw|apply Kd.av|apply Kd.aA));exact cj.out) hb)
    have bt:=aa.mk (Kd.aZ (by (with_reducible repeat (first|apply Kd.aw|apply Kd.av|apply Kd.aA));exact cl.out) hb)
    have bA:=aa.mk (Kd.eH mN (az (by repeat (first|(with_reducible first|exact HB.out|apply ae|apply ab|apply af|refine ai ?_ d7.out)|exact HB.out))))
    have bK:=aa.mk (aH (g:=bE) (o:= .cells #[.int .i64 cU,.slice fo cz.length fp,.slice fu cq.length fw] 26 (0,0)) (by (with_reducible repeat (first|refine ak ?_ _|refine aq ?_|refine aj ?_ _));exact bo.out) hb)
    have cL:=aa.mk (aE (by repeat (first|(with_reducible first|exact HB.out|apply ae|apply ab|apply af|refine ai ?_ d7.out)|exact HB.out)) hb)
    clear cj cl bo HB
    have cj:=br;have cl:=bt;have cV:=bA;have bo:=bK;have HB:=cL
    clear br bt bA bK cL
    (try clear hb);(try clear hb2);(try clear hk);(try clear hi);(try clear mN)
    refine hK.out _ _ ⟨(ag bo.out 0).trans rfl,(ag bo.out 1).trans rfl,(ag bo.out 2).trans rfl⟩ (fun hHeld=> ?_)
    clear hK K
    refine eM (a':= ?_) ?_ ?_
    rotate_left
    ·show Act.put _ (some 26) _=_
     simp only [Act.put,dg,dh,di,aY,a9]
     rfl
    refine iP (i:=7) (N:=some 29) #[true,true,true,true,true,true,true,true,false,false] rfl rfl (dZ HT_.out (by kernel_rfl)) (by decide) (fun K hK=> ?_)
    refine mA Try.func37 (by kernel_rfl) rfl #[.agg #[.int .i64 cU,.slice fo cz.length fp,.slice fu cq.length fw],.slice A1 l1.length c1] (by rfl) rfl rfl (by (try simp only [List.map_toArray,List.map_cons,List.map_nil]);first|done|rfl|(simp only [List.length_drop,List.length_take];rfl)) ?_
    with_reducible refine (cC.calls k cU _ _ cz _ _ cq _ _ l1 iY _ ?bS ?bT ?cJ ?cN ?du ?dw A9.out).mono ?_
    (case bS=>repeat (first|exact (Kd.bf cj.out).2.2|(with_reducible refine Kd.aT ?_ _)|(with_reducible refine Kd.aU ?_ _)|(with_reducible refine Kd.bk ?_)))
    (case bT=>exact (Kd.bf cj.out).2.1)
    (case cJ=>repeat (first|exact (Kd.bf cl.out).2.2|(with_reducible refine Kd.aT ?_ _)|(with_reducible refine Kd.aU ?_ _)|(with_reducible refine Kd.bk ?_)))
    (case cN=>exact (Kd.bf cl.out).2.1)
    (case du=>repeat (first|exact (Kd.aN lA.out HB.out)|(with_reducible refine Kd.aT ?_ _)|(with_reducible refine Kd.aU ?_ _)|(with_reducible refine Kd.bk ?_)))
    (case dw=>exact pK.out)
    rintro e Rd ⟨gK,rfl,mN,hb⟩
    refine ⟨_,rfl, ?_⟩
    have br:=aa.mk (Kd.aZ (by (with_reducible repeat (first|apply Kd.aw|apply Kd.av|apply Kd.aA));exact cj.out) hb)
    have bt:=aa.mk (Kd.aZ (by (with_reducible repeat (first|apply Kd.aw|apply Kd.av|apply Kd.aA));exact cl.out) hb)
    have bA:=aa.mk (Kd.kx (by (with_reducible repeat (first|apply Kd.aw|apply Kd.av|apply Kd.aA));exact cV.out) (Kd.iZ mN) hb)
    have bK:=aa.mk (Kd.eH (Kd.oy mN (Kd.gq (by (with_reducible repeat (first|apply Kd.aw|apply Kd.av|apply Kd.aA));exact cV.out))) (az (by repeat (first|(with_reducible first|exact HB.out|apply ae|apply ab|apply af|refine ai ?_ d7.out)|exact HB.out))))
    have cL:=aa.mk (aH (g:=bE) (o:= .cells #[.int .i64 cU,.slice fo cz.length fp,.slice fu cq.length fw] 26 (0,0)) (by (with_reducible repeat (first|refine ak ?_ _|refine aq ?_|refine aj ?_ _));exact bo.out) hb)
    have dc:=aa.mk (aE (by repeat (first|(with_reducible first|exact HB.out|apply ae|apply ab|apply af|refine ai ?_ d7.out)|exact HB.out)) hb)
    clear cj cl cV bo HB
    have cj:=br;have cl:=bt;have cV:=bA;have dx:=bK;have bo:=cL;have HB:=dc
    clear br bt bA bK cL dc
    (try clear hb);(try clear hb2);(try clear hk);(try clear hi);(try clear mN)
    refine hK.out _ _ ⟨(ag bo.out 0).trans rfl,(ag bo.out 1).trans rfl,(ag bo.out 2).trans rfl⟩ (fun hHeld=> ?_)
    clear hK K
    refine eM (a':= ?_) ?_ ?_
    rotate_left
    ·show Act.put _ (some 29) _=_
     simp only [Act.put,dg,dh,di,aY,a9]
     rfl
    refine bP (i:=8) (N:=some 14) (v:= ?_) (a':= ?_) #[true,true,true,true,true,true,true,true,true,false] rfl rfl (bz HT_.out (by kernel_rfl)) (fun _ _ _ h=>h) (Or.inl ⟨by rfl, ?_⟩) ?_ ?_
    rotate_left
    ·intro w'
     go_simp
     with_reducible rfl
    rotate_left
    ·simp only [Act.put,dg,dh,di,aY,a9]
     rfl
    refine bP (i:=9) (N:=some 15) (v:= ?_) (a':= ?_) #[true,true,true,true,true,true,true,true,true,true] rfl rfl (bz HT_.out (by kernel_rfl)) (fun _ _ _ h=>h) (Or.inl ⟨by rfl, ?_⟩) ?_ ?_
    rotate_left
    ·intro w'
     go_simp
     with_reducible rfl
    rotate_left
    ·simp only [Act.put,dg,dh,di,aY,a9]
     rfl
    refine j1 (gD HT_.out (by kernel_rfl)) ?_
    have zo:Rd.cell? ⟨bE,0,none⟩=some (.int .i64 cU):=(ag bo.out 0).trans rfl
    have zp:Rd.cell? ⟨bE,1,none⟩=some (.slice fo cz.length fp):=(ag bo.out 1).trans rfl
    have zq:Rd.cell? ⟨bE,2,none⟩=some (.slice fu cq.length fw):=(ag bo.out 2).trans rfl
    have zr:=ah bo.out 0
    have zt:=ah bo.out 1
    have zu:=ah bo.out 2
    try go_wp2_with (first|((with_reducible refine bY (f:=38) rfl ?_);refine er (some 33) rfl rfl Try.func38 (by kernel_rfl) rfl #[.agg #[.int .i64 cU,.slice fo cz.length fp,.slice fu cq.length fw],.int .i64 a3] rfl (by (try simp only [List.map_toArray,List.map_cons,List.map_nil]);first|done|rfl|(simp only [List.length_drop,List.length_take];rfl)) ?_;(with_reducible refine (ew.calls k cU _ _ cz _ _ cq a3 eE eG true _ ?bS ?bT ?cJ ?cN LP.out).mono ?_);(case bS=>repeat (first|exact (Kd.bf cj.out).2.2|(with_reducible refine Kd.aT ?_ _)|(with_reducible refine Kd.aU ?_ _)|(with_reducible refine Kd.bk ?_)));(case bT=>exact (Kd.bf cj.out).2.1);(case cJ=>repeat (first|exact (Kd.bf cl.out).2.2|(with_reducible refine Kd.aT ?_ _)|(with_reducible refine Kd.aU ?_ _)|(with_reducible refine Kd.bk ?_)));(case cN=>exact (Kd.bf cl.out).2.1);rintro e qA ⟨RI,RJ,rfl,mN,qh,hb⟩;refine ⟨_,rfl, ?_⟩;have br:=aa.mk (Kd.aZ (by (with_reducible repeat (first|apply Kd.aw|apply Kd.av|apply Kd.aA));exact cj.out) hb);have bt:=aa.mk (Kd.aZ (by (with_reducible repeat (first|apply Kd.aw|apply Kd.av|apply Kd.aA));exact cl.out) hb);have bA:=aa.mk (Kd.aZ (by (with_reducible repeat (first|apply Kd.aw|apply Kd.av|apply Kd.aA));exact cV.out) hb);have bK:=aa.mk (Kd.aZ (by (with_reducible repeat (first|apply Kd.aw|apply Kd.av|apply Kd.aA));exact dx.out) hb);have cL:=aa.mk (Kd.rD (Kd.fM (ok':=fun k_=>some k_≠(.slice fo cz.length fp:Value).ownBlock∧some k_≠(.slice fu cq.length fw:Value).ownBlock∧some k_≠(gJ:Value).ownBlock∧some k_≠(gK:Value).ownBlock∧k_≠bE) mN (fun k_ hk_=>⟨(Kd.eR (Kd.gq (by (with_reducible repeat (first|apply Kd.aw|apply Kd.av|apply Kd.aA));exact cj.out)) k_ hk_),(Kd.eR (Kd.gq (by (with_reducible repeat (first|apply Kd.aw|apply Kd.av|apply Kd.aA));exact cl.out)) k_ hk_),(Kd.eR (Kd.gq (by (with_reducible repeat (first|apply Kd.aw|apply Kd.av|apply Kd.aA));exact cV.out)) k_ hk_),(Kd.eR (Kd.gq (by (with_reducible repeat (first|apply Kd.aw|apply Kd.av|apply Kd.aA));exact dx.out)) k_ hk_),(Kd.lu (g:=bE) (o:= .cells #[.int .i64 cU,.slice fo cz.length fp,.slice fu cq.length fw] 26 (0,0)) (by (with_reducible repeat (first|refine ak ?_ _|refine aq ?_|refine aj ?_ _));exact bo.out) k_ hk_)⟩)) (az (by repeat (first|(with_reducible first|exact HB.out|apply ae|apply ab|apply af|refine ai ?_ d7.out)|exact HB.out))));have dc:=aa.mk (Kd.rD (Kd.fM (ok':=fun k_=>some k_≠(.slice fo cz.length fp:Value).ownBlock∧some k_≠(.slice fu cq.length fw:Value).ownBlock∧some k_≠(gJ:Value).ownBlock∧some k_≠(gK:Value).ownBlock∧k_≠bE) qh (fun k_ hk_=>⟨(Kd.eR (Kd.gq (by (with_reducible repeat (first|apply Kd.aw|apply Kd.av|apply Kd.aA));exact cj.out)) k_ hk_),(Kd.eR (Kd.gq (by (with_reducible repeat (first|apply Kd.aw|apply Kd.av|apply Kd.aA));exact cl.out)) k_ hk_),(Kd.eR (Kd.gq (by (with_reducible repeat (first|apply Kd.aw|apply Kd.av|apply Kd.aA));exact cV.out)) k_ hk_),(Kd.eR (Kd.gq (by (with_reducible repeat (first|apply Kd.aw|apply Kd.av|apply Kd.aA));exact dx.out)) k_ hk_),(Kd.lu (g:=bE) (o:= .cells #[.int .i64 cU,.slice fo cz.length fp,.slice fu cq.length fw] 26 (0,0)) (by (with_reducible repeat (first|refine ak ?_ _|refine aq ?_|refine aj ?_ _));exact bo.out) k_ hk_)⟩)) (az (by repeat (first|(with_reducible first|exact HB.out|apply ae|apply ab|apply af|refine ai ?_ d7.out)|exact HB.out))));have dQ:=aa.mk (aH (g:=bE) (o:= .cells #[.int .i64 cU,.slice fo cz.length fp,.slice fu cq.length fw] 26 (0,0)) (by (with_reducible repeat (first|refine ak ?_ _|refine aq ?_|refine aj ?_ _));exact bo.out) hb);have gL:=aa.mk (aE (by repeat (first|(with_reducible first|exact HB.out|apply ae|apply ab|apply af|refine ai ?_ d7.out)|exact HB.out)) hb);clear cj;clear cl;clear cV;clear dx;clear bo;clear HB;have cj:=br;have cl:=bt;have cV:=bA;have dx:=bK;have d8:=cL;have dX:=dc;have bo:=dQ;have HB:=gL;clear br bt bA bK cL dc dQ gL;(try clear hb);(try clear hb2);(try clear hk);(try clear hi);(try clear mN);(try clear qh))|((with_reducible refine bF (N:=16) rfl ?_);refine bH ?hg (N:=16) ?hd (cs:=#[.slice none 0 0,.slice none 0 0]) (t:=41) ?hr ?_;(case hd=>rfl);(case hg=>rfl);(case hr=>first|(go_simp;done)|(go_simp;rfl));intro bZ hg F5 hbox hb;have br:=aa.mk (Kd.aZ (by (with_reducible repeat (first|apply Kd.aw|apply Kd.av|apply Kd.aA));exact cj.out) hb);have bt:=aa.mk (Kd.aZ (by (with_reducible repeat (first|apply Kd.aw|apply Kd.av|apply Kd.aA));exact cl.out) hb);have bA:=aa.mk (Kd.aZ (by (with_reducible repeat (first|apply Kd.aw|apply Kd.av|apply Kd.aA));exact cV.out) hb);have bK:=aa.mk (Kd.aZ (by (with_reducible repeat (first|apply Kd.aw|apply Kd.av|apply Kd.aA));exact dx.out) hb);have cL:=aa.mk (Kd.eK (Kd.ky (by (with_reducible repeat (first|apply Kd.cS|apply Kd.cT|apply Kd.dB));exact d8.out) bZ (Nat.le_of_eq hg.symm)) hb);have dc:=aa.mk (Kd.eK (Kd.ky (by (with_reducible repeat (first|apply Kd.cS|apply Kd.cT|apply Kd.dB));exact dX.out) bZ (Nat.le_of_eq hg.symm)) hb);have dQ:=aa.mk (aH (g:=bE) (o:= .cells #[.int .i64 cU,.slice fo cz.length fp,.slice fu cq.length fw] 26 (0,0)) (by (with_reducible repeat (first|refine ak ?_ _|refine aq ?_|refine aj ?_ _));exact bo.out) hb);have gL:=aa.mk (aE (by repeat (first|(with_reducible first|exact HB.out|apply ae|apply ab|apply af|refine ai ?_ d7.out)|exact HB.out)) hb);have hY:=aa.mk (hbox);have jv:=aa.mk ((by rw [hg];exact (az (by repeat (first|(with_reducible first|exact HB.out|apply ae|apply ab|apply af|refine ai ?_ d7.out)|exact HB.out))):w.heap.size≤bZ));have fz:=aa.mk ((by rw [hg];exact (az (by repeat (first|(with_reducible first|exact HB.out|apply ae|apply ab|apply af|refine ai ?_ d7.out)|exact HB.out))):w.heap.size≤bZ));have fO:=aa.mk ((by rw [hg];exact Nat.ne_of_lt (cn (g:=bE) (o:= .cells #[.int .i64 cU,.slice fo cz.length fp,.slice fu cq.length fw] 26 (0,0)) (by (with_reducible repeat (first|refine ak ?_ _|refine aq ?_|refine aj ?_ _));exact bo.out)):bE≠bZ));have oD:=aa.mk ((by rw [hg];exact Nat.ne_of_gt (cn (g:=bE) (o:= .cells #[.int .i64 cU,.slice fo cz.length fp,.slice fu cq.length fw] 26 (0,0)) (by (with_reducible repeat (first|refine ak ?_ _|refine aq ?_|refine aj ?_ _));exact bo.out)):bZ≠bE));clear cj;clear cl;clear cV;clear dx;clear d8;clear dX;clear bo;clear HB;have cj:=br;have cl:=bt;have cV:=bA;have dx:=bK;have d8:=cL;have dX:=dc;have bo:=dQ;have HB:=gL;have bV:=hY;have Ml:=jv;have fV:=fz;have iL:=fO;have mw:=oD;clear br bt bA bK cL dc dQ gL hY jv fz fO oD;clear hb hbox hg;obtain ⟨iF,iG,NZ⟩:=Kd.lS d8.out;subst NZ;have acu:=mw.out;have acv:=iL.out;have JX:F5.cell? ⟨bZ,0,none⟩=some (.slice none 0 0):=(ag bV.out 0).trans rfl;have JY:F5.cell? ⟨bZ,1,none⟩=some (.slice none 0 0):=(ag bV.out 1).trans rfl;have JZ:=ah bV.out 0;have J0:=ah bV.out 1;obtain ⟨je,jf,aae⟩:=Kd.lS dX.out;subst aae))
    have br:aa (Kd.R oS 97 ((F5.setCell ⟨bZ,0,none⟩ (.slice iF eE.length iG)).setCell ⟨bZ,1,none⟩ (.slice je eG.length jf)) w.heap.size (fun _=>True) (.slice fo cz.length fp) cz):=⟨by (with_reducible repeat (first|apply Kd.aw|apply Kd.av|apply Kd.aA));exact Kd.bN (Kd.cg (p:=⟨bZ,1,none⟩) (Kd.cg (p:=⟨bZ,0,none⟩) (Kd.dL cj.out bV.out (by decide)) (fun _ hk=>hk.2) (.slice iF eE.length iG)) (fun _ hk=>hk.2) (.slice je eG.length jf)) (fun _ hk=>trivial)⟩
    have bt:aa (Kd.R nD 36 ((F5.setCell ⟨bZ,0,none⟩ (.slice iF eE.length iG)).setCell ⟨bZ,1,none⟩ (.slice je eG.length jf)) w.heap.size (fun _=>True) (.slice fu cq.length fw) cq):=⟨by (with_reducible repeat (first|apply Kd.aw|apply Kd.av|apply Kd.aA));exact Kd.bN (Kd.cg (p:=⟨bZ,1,none⟩) (Kd.cg (p:=⟨bZ,0,none⟩) (Kd.dL cl.out bV.out (by decide)) (fun _ hk=>hk.2) (.slice iF eE.length iG)) (fun _ hk=>hk.2) (.slice je eG.length jf)) (fun _ hk=>trivial)⟩
    have bA:aa (Kd.R (Kd.int .i64) 3 ((F5.setCell ⟨bZ,0,none⟩ (.slice iF eE.length iG)).setCell ⟨bZ,1,none⟩ (.slice je eG.length jf)) w.heap.size (fun k_=>some k_≠(gK:Value).ownBlock) gJ jd):=⟨by (with_reducible repeat (first|apply Kd.aw|apply Kd.av|apply Kd.aA));exact Kd.bN (Kd.cg (p:=⟨bZ,1,none⟩) (Kd.cg (p:=⟨bZ,0,none⟩) (Kd.dL cV.out bV.out (by decide)) (fun _ hk=>hk.2) (.slice iF eE.length iG)) (fun _ hk=>hk.2) (.slice je eG.length jf)) (fun _ hk=>hk.1.2)⟩
    have bK:aa (Kd.R (Kd.int .i64) 3 ((F5.setCell ⟨bZ,0,none⟩ (.slice iF eE.length iG)).setCell ⟨bZ,1,none⟩ (.slice je eG.length jf)) w.heap.size (fun k_=>some k_≠(gJ:Value).ownBlock) gK iY):=⟨by (with_reducible repeat (first|apply Kd.aw|apply Kd.av|apply Kd.aA));exact Kd.bN (Kd.cg (p:=⟨bZ,1,none⟩) (Kd.cg (p:=⟨bZ,0,none⟩) (Kd.dL dx.out bV.out (by decide)) (fun _ hk=>hk.2) (.slice iF eE.length iG)) (fun _ hk=>hk.2) (.slice je eG.length jf)) (fun _ hk=>hk.1.2)⟩
    have cL:aa (Kd.V (Kd.int .i64) 3 ((F5.setCell ⟨bZ,0,none⟩ (.slice iF eE.length iG)).setCell ⟨bZ,1,none⟩ (.slice je eG.length jf)) w.heap.size (fun k_=>some k_≠(.slice fo cz.length fp:Value).ownBlock∧some k_≠(.slice fu cq.length fw:Value).ownBlock∧some k_≠(gJ:Value).ownBlock∧some k_≠(gK:Value).ownBlock∧k_≠bE∧k_≠bZ) (.slice iF eE.length iG) eE):=⟨by (with_reducible repeat (first|apply Kd.cS|apply Kd.cT|apply Kd.dB));exact Kd.fM (Kd.kF (p:=⟨bZ,1,none⟩) (Kd.kF (p:=⟨bZ,0,none⟩) (Kd.fM d8.out (fun k_ hk=>(⟨hk,hk.2⟩:_∧k_≠bZ))) (fun _ hk=>hk.2) (.slice iF eE.length iG)) (fun _ hk=>hk.2) (.slice je eG.length jf)) (fun _ hk=>⟨hk.1.1.1,⟨hk.1.1.2.1,⟨hk.1.1.2.2.1,⟨hk.1.1.2.2.2.1,⟨hk.1.1.2.2.2.2,hk.1.2⟩⟩⟩⟩⟩)⟩
    have dc:aa (Kd.V (Kd.int .i64) 3 ((F5.setCell ⟨bZ,0,none⟩ (.slice iF eE.length iG)).setCell ⟨bZ,1,none⟩ (.slice je eG.length jf)) w.heap.size (fun k_=>some k_≠(.slice fo cz.length fp:Value).ownBlock∧some k_≠(.slice fu cq.length fw:Value).ownBlock∧some k_≠(gJ:Value).ownBlock∧some k_≠(gK:Value).ownBlock∧k_≠bE∧k_≠bZ) (.slice je eG.length jf) eG):=⟨by (with_reducible repeat (first|apply Kd.cS|apply Kd.cT|apply Kd.dB));exact Kd.fM (Kd.kF (p:=⟨bZ,1,none⟩) (Kd.kF (p:=⟨bZ,0,none⟩) (Kd.fM dX.out (fun k_ hk=>(⟨hk,hk.2⟩:_∧k_≠bZ))) (fun _ hk=>hk.2) (.slice iF eE.length iG)) (fun _ hk=>hk.2) (.slice je eG.length jf)) (fun _ hk=>⟨hk.1.1.1,⟨hk.1.1.2.1,⟨hk.1.1.2.2.1,⟨hk.1.1.2.2.2.1,⟨hk.1.1.2.2.2.2,hk.1.2⟩⟩⟩⟩⟩)⟩
    have dQ:aa (((F5.setCell ⟨bZ,0,none⟩ (.slice iF eE.length iG)).setCell ⟨bZ,1,none⟩ (.slice je eG.length jf)).heap[bE]? =some (.cells #[.int .i64 cU,.slice fo cz.length fp,.slice fu cq.length fw] 26 (0,0))):=⟨by (with_reducible repeat (first|refine ak ?_ _|refine aq ?_|refine aj ?_ _));refine cI ?_ iL.out _;(with_reducible repeat (first|refine ak ?_ _|refine aq ?_|refine aj ?_ _));refine cI ?_ iL.out _;(with_reducible repeat (first|refine ak ?_ _|refine aq ?_|refine aj ?_ _));exact bo.out⟩
    have gL:aa (((F5.setCell ⟨bZ,0,none⟩ (.slice iF eE.length iG)).setCell ⟨bZ,1,none⟩ (.slice je eG.length jf)).heap[bZ]? =some (.cells #[.slice iF eE.length iG,.slice je eG.length jf] 41 (0,0))):=⟨by (with_reducible repeat (first|refine ak ?_ _|refine aq ?_|refine aj ?_ _));refine df (cs:=#[.slice iF eE.length iG,.slice none 0 0]) ?_ 1 _ rfl;(with_reducible repeat (first|refine ak ?_ _|refine aq ?_|refine aj ?_ _));refine df (cs:=#[.slice none 0 0,.slice none 0 0]) ?_ 0 _ rfl;(with_reducible repeat (first|refine ak ?_ _|refine aq ?_|refine aj ?_ _));exact bV.out⟩
    have hY:aa (Below w.heap.size w ((F5.setCell ⟨bZ,0,none⟩ (.slice iF eE.length iG)).setCell ⟨bZ,1,none⟩ (.slice je eG.length jf))):=⟨by repeat (first|(with_reducible first|exact HB.out|apply ae|apply ab|apply af|refine ai ?_ d7.out|refine ai ?_ fV.out)|exact HB.out)⟩
    (try clear cj);(try clear cl);(try clear cV);(try clear dx);(try clear d8);(try clear dX);(try clear bo);(try clear bV);(try clear HB)
    generalize ((F5.setCell ⟨bZ,0,none⟩ (.slice iF eE.length iG)).setCell ⟨bZ,1,none⟩ (.slice je eG.length jf))=Ic at br bt bA bK cL dc dQ gL hY ⊢
    have cj:=br;have cl:=bt;have cV:=bA;have dx:=bK;have d8:=cL;have dX:=dc;have bo:=dQ;have bV:=gL;have HB:=hY
    clear br bt bA bK cL dc dQ gL hY
    have br:=aa.mk (Kd.aA cj.out)
    have bt:=aa.mk (Kd.aA cl.out)
    have bA:=aa.mk (Kd.aA cV.out)
    have bK:=aa.mk (Kd.aA dx.out)
    have cL:=aa.mk (Kd.dB d8.out)
    have dc:=aa.mk (Kd.dB dX.out)
    have dQ:=aa.mk (aq bo.out)
    have gL:=aa.mk (aq bV.out)
    have hY:=aa.mk (af HB.out)
    clear cj cl cV dx d8 dX bo bV HB
    have cj:=br;have cl:=bt;have cV:=bA;have dx:=bK;have d8:=cL;have dX:=dc;have bo:=dQ;have bV:=gL;have HB:=hY
    clear br bt bA bK cL dc dQ gL hY
    refine ju (n:=9) (S:=fun w'=>w'.cell? ⟨bZ,0,none⟩=some (.slice iF eE.length iG)∧w'.cell? ⟨bZ,1,none⟩=some (.slice je eG.length jf)) (ds:=[]) #[false,false,false,false,false,false,false,false,false] (by kernel_rfl) rfl rfl ⟨(ag bV.out 0).trans rfl,(ag bV.out 1).trans rfl⟩ (fun hHeld=> ?_);refine fN ay.MT ay.GN (fun HT_ HW_=> ?_)
    generalize Ic.drew=Ph at cj cl cV dx d8 dX bo bV HB hHeld ⊢
    refine bP (i:=0) (N:=some 48) (v:= ?_) (a':= ?_) #[true,false,false,false,false,false,false,false,false] rfl rfl (bz HT_.out (by kernel_rfl)) (fun _ _ _ h=>h) (Or.inl ⟨by rfl, ?_⟩) ?_ ?_
    rotate_left
    ·intro w'
     go_simp
     with_reducible rfl
    rotate_left
    ·simp only [Act.put,dg,dh,di,aY,a9]
     rfl
    refine bP (i:=3) (N:=some 51) (v:= ?_) (a':= ?_) #[true,false,false,true,false,false,false,false,false] rfl rfl (bz HT_.out (by kernel_rfl)) (fun _ _ _ h=>h) (Or.inl ⟨by rfl, ?_⟩) ?_ ?_
    rotate_left
    ·intro w'
     go_simp
     with_reducible rfl
    rotate_left
    ·simp only [Act.put,dg,dh,di,aY,a9]
     rfl
    refine eL (i:=1) (N:=some 49) (v:= ?_) (a':= ?_) #[true,true,false,true,false,false,false,false,false] rfl rfl (cO HT_.out HW_.out (by kernel_rfl)) (fun _ _ _ h=>h) (Or.inl ⟨by rfl, ?_⟩) hHeld ?_ ?_
    rotate_left
    ·rintro w' ⟨s0,s1⟩
     go_simp
     with_reducible rfl
    rotate_left
    ·simp only [Act.put,dg,dh,di,aY,a9]
     rfl
    refine eL (i:=4) (N:=some 52) (v:= ?_) (a':= ?_) #[true,true,false,true,true,false,false,false,false] rfl rfl (cO HT_.out HW_.out (by kernel_rfl)) (fun _ _ _ h=>h) (Or.inl ⟨by rfl, ?_⟩) hHeld ?_ ?_
    rotate_left
    ·rintro w' ⟨s0,s1⟩
     go_simp
     with_reducible rfl
    rotate_left
    ·simp only [Act.put,dg,dh,di,aY,a9]
     rfl
    refine Pp (σ:=Value × Value × Nat) 1 #[true,true,true,true,true,true,true,true,false] (fun s_=>[(50,s_.1),(53,s_.2.1),(18,.pointer (some ⟨s_.2.2,0,none⟩)),(54,.agg #[s_.1,s_.2.1])]) (fun s_ w'=>(w'.cell? ⟨bZ,0,none⟩=some (.slice iF eE.length iG)∧w'.cell? ⟨bZ,1,none⟩=some (.slice je eG.length jf))∧(Kd.R oS 97 w' w.heap.size (fun _=>True) (.slice fo cz.length fp) cz)∧(Kd.R nD 36 w' w.heap.size (fun _=>True) (.slice fu cq.length fw) cq)∧(Kd.R (Kd.int .i64) 3 w' w.heap.size (fun k_=>some k_≠(gK:Value).ownBlock∧some k_≠(s_.1:Value).ownBlock∧some k_≠(s_.2.1:Value).ownBlock) gJ jd)∧(Kd.R (Kd.int .i64) 3 w' w.heap.size (fun k_=>some k_≠(gJ:Value).ownBlock∧some k_≠(s_.1:Value).ownBlock∧some k_≠(s_.2.1:Value).ownBlock) gK iY)∧(Kd.V (Kd.int .i64) 3 w' w.heap.size (fun k_=>some k_≠(.slice fo cz.length fp:Value).ownBlock∧some k_≠(.slice fu cq.length fw:Value).ownBlock∧some k_≠(gJ:Value).ownBlock∧some k_≠(gK:Value).ownBlock∧some k_≠(s_.1:Value).ownBlock∧some k_≠(s_.2.1:Value).ownBlock∧k_≠bE∧k_≠bZ∧k_≠s_.2.2) (.slice iF eE.length iG) eE)∧(Kd.V (Kd.int .i64) 3 w' w.heap.size (fun k_=>some k_≠(.slice fo cz.length fp:Value).ownBlock∧some k_≠(.slice fu cq.length fw:Value).ownBlock∧some k_≠(gJ:Value).ownBlock∧some k_≠(gK:Value).ownBlock∧some k_≠(s_.1:Value).ownBlock∧some k_≠(s_.2.1:Value).ownBlock∧k_≠bE∧k_≠bZ∧k_≠s_.2.2) (.slice je eG.length jf) eG)∧(Kd.R (Kd.int .i64) 3 w' w.heap.size (fun k_=>some k_≠(gJ:Value).ownBlock∧some k_≠(gK:Value).ownBlock∧some k_≠(s_.2.1:Value).ownBlock) s_.1 dI)∧(Kd.R (Kd.int .i64) 3 w' w.heap.size (fun k_=>some k_≠(gJ:Value).ownBlock∧some k_≠(gK:Value).ownBlock∧some k_≠(s_.1:Value).ownBlock) s_.2.1 dS)∧(w'.heap[bE]? =some (.cells #[.int .i64 cU,.slice fo cz.length fp,.slice fu cq.length fw] 26 (0,0)))∧(w'.heap[bZ]? =some (.cells #[.slice iF eE.length iG,.slice je eG.length jf] 41 (0,0)))∧(w'.heap[s_.2.2]? =some (.cells #[.slice none 0 0,.slice none 0 0] 41 (0,0)))∧(w.heap.size≤s_.2.2)∧(w.heap.size≤s_.2.2)∧(bE≠s_.2.2)∧(s_.2.2≠bE)∧(bZ≠s_.2.2)∧(s_.2.2≠bZ)∧(Below w.heap.size w w')) ?_ ?_
    rotate_left
    ·intro hCont
     refine Fm (i:=2) (j:=7) (Ni:=some 50) (Nj:=some 18) #[true,true,true,true,true,false,false,false,false] #[true,true,false,true,true,false,false,true,false] rfl rfl rfl rfl (ul HT_.out (by kernel_rfl)) (by decide) (by decide) (fun K hK=> ?_) (fun K hK=> ?_)
     ·skip
      refine Kd.dE (Kd.int .i64) (w0:=w) w.heap.size (by rfl) (.const (.slice none 0 0)) (.tmp 49) 22 3 (.int .i64 0) 8 rfl Try.underlying22 info3 rfl (by decide) (by omega) (.slice none 0 0) ([]:List Int) eE _ _ _ (fun k_=>some k_≠(gJ:Value).ownBlock∧some k_≠(gK:Value).ownBlock) (fun _=>False) rfl rfl ?aO ?aR (fun _ _ h=>h) (fun _ h=>h.elim) ?aF ?aB ?aS ?aL ?_
      (case aR=>repeat (first|exact (Kd.fP d8.out).2.2|(with_reducible refine Kd.aT ?_ _)|(with_reducible refine Kd.aU ?_ _)|(with_reducible refine Kd.bk ?_)))
      (case aB=>exact (by repeat (first|(with_reducible first|exact HB.out|apply ae|apply ab|apply af|refine ai ?_ d7.out|refine ai ?_ fV.out)|exact HB.out)))
      (case aF=>exact (fun k_ hk=>⟨Kd.eR (Kd.gq (by (with_reducible repeat (first|apply Kd.aw|apply Kd.av|apply Kd.aA));exact cV.out)) k_ hk,Kd.eR (Kd.gq (by (with_reducible repeat (first|apply Kd.aw|apply Kd.av|apply Kd.aA));exact dx.out)) k_ hk⟩))
      (case aO=>exact ((Kd.jE _ _ _ _ (fun k_=>some k_≠(gJ:Value).ownBlock∧some k_≠(gK:Value).ownBlock))))
      (case aS=>exact (az (by repeat (first|(with_reducible first|exact HB.out|apply ae|apply ab|apply af|refine ai ?_ d7.out|refine ai ?_ fV.out)|exact HB.out))))
      (case aL=>have:=Mi.out;omega)
      intro ua oR ho hb hg hat
      rw [← Mj.out] at ho
      have br:=aa.mk (Kd.nf (by (with_reducible repeat (first|apply Kd.aw|apply Kd.av|apply Kd.aA));exact cj.out) hg (fun _ _=>by simp [Value.ownBlock]))
      have bt:=aa.mk (Kd.nf (by (with_reducible repeat (first|apply Kd.aw|apply Kd.av|apply Kd.aA));exact cl.out) hg (fun _ _=>by simp [Value.ownBlock]))
      have bA:=aa.mk (dq (g:=bE) (o:= .cells #[.int .i64 cU,.slice fo cz.length fp,.slice fu cq.length fw] 26 (0,0)) (by (with_reducible repeat (first|refine ak ?_ _|refine aq ?_|refine aj ?_ _));exact bo.out) hg (by simp [Value.ownBlock]))
      have bK:=aa.mk (Kd.il (Kd.gO (by (with_reducible repeat (first|apply Kd.aw|apply Kd.av|apply Kd.aA));exact cV.out)) hg hat)
      have cL:=aa.mk (Kd.il (Kd.gO (by (with_reducible repeat (first|apply Kd.aw|apply Kd.av|apply Kd.aA));exact dx.out)) hg hat)
      have dc:=aa.mk (Kd.lE (Kd.jg (by (with_reducible repeat (first|apply Kd.cS|apply Kd.cT|apply Kd.dB));exact d8.out)) hg hat)
      have dQ:=aa.mk (Kd.lE (Kd.jg (by (with_reducible repeat (first|apply Kd.cS|apply Kd.cT|apply Kd.dB));exact dX.out)) hg hat)
      have gL:=aa.mk (dq (g:=bZ) (o:= .cells #[.slice iF eE.length iG,.slice je eG.length jf] 41 (0,0)) (by (with_reducible repeat (first|refine ak ?_ _|refine aq ?_|refine aj ?_ _));exact bV.out) hg (by simp [Value.ownBlock]))
      have hY:=aa.mk (hb)
      have jv:=aa.mk (ho)
      clear cj cl bo cV dx d8 dX bV HB
      have cj:=br;have cl:=bt;have bo:=bA;have cV:=bK;have dx:=cL;have d8:=dc;have dX:=dQ;have bV:=gL;have HB:=hY;have fL:=jv
      clear br bt bA bK cL dc dQ gL hY jv ho hb hg hat
      refine hK.out _ _ ⟨(ag bV.out 0).trans rfl,(ag bV.out 1).trans rfl⟩ (fun hHeld=> ?_)
      clear hK K
      refine eM (a':= ?_) ?_ ?_
      rotate_left
      ·show Act.put _ (some 50) _=_
       simp only [Act.put,dg,dh,di,aY,a9]
       rfl
      refine Fm (i:=5) (j:=7) (Ni:=some 53) (Nj:=some 18) #[true,true,true,true,true,true,false,false,false] #[true,true,true,true,true,false,false,true,false] rfl rfl rfl rfl (ul HT_.out (by kernel_rfl)) (by decide) (by decide) (fun K hK=> ?_) (fun K hK=> ?_)
      ·skip
       refine Kd.dE (Kd.int .i64) (w0:=w) w.heap.size (by rfl) (.const (.slice none 0 0)) (.tmp 52) 22 3 (.int .i64 0) 8 rfl Try.underlying22 info3 rfl (by decide) (by omega) (.slice none 0 0) ([]:List Int) eG _ _ _ (fun k_=>some k_≠(gJ:Value).ownBlock∧some k_≠(gK:Value).ownBlock∧some k_≠(ua:Value).ownBlock) (fun _=>False) rfl rfl ?aO ?aR (fun _ _ h=>h) (fun _ h=>h.elim) ?aF ?aB ?aS ?aL ?_
       (case aR=>repeat (first|exact (Kd.fP dX.out).2.2|(with_reducible refine Kd.aT ?_ _)|(with_reducible refine Kd.aU ?_ _)|(with_reducible refine Kd.bk ?_)))
       (case aB=>exact (by repeat (first|(with_reducible first|exact HB.out|apply ae|apply ab|apply af|refine ai ?_ d7.out|refine ai ?_ fV.out)|exact HB.out)))
       (case aF=>exact (fun k_ hk=>⟨Kd.eR (Kd.gq (by (with_reducible repeat (first|apply Kd.aw|apply Kd.av|apply Kd.aA));exact cV.out)) k_ hk,Kd.eR (Kd.gq (by (with_reducible repeat (first|apply Kd.aw|apply Kd.av|apply Kd.aA));exact dx.out)) k_ hk,Kd.eR (Kd.gq (by (with_reducible repeat (first|apply Kd.aw|apply Kd.av|apply Kd.aA));exact fL.out)) k_ hk⟩))
       (case aO=>exact ((Kd.jE _ _ _ _ (fun k_=>some k_≠(gJ:Value).ownBlock∧some k_≠(gK:Value).ownBlock∧some k_≠(ua:Value).ownBlock))))
       (case aS=>exact (az (by repeat (first|(with_reducible first|exact HB.out|apply ae|apply ab|apply af|refine ai ?_ d7.out|refine ai ?_ fV.out)|exact HB.out))))
       (case aL=>have:=IE.out;omega)
       intro z6 w35 ho hb hg hat
       rw [← IG.out] at ho
       have br:=aa.mk (Kd.nf (by (with_reducible repeat (first|apply Kd.aw|apply Kd.av|apply Kd.aA));exact cj.out) hg (fun _ _=>by simp [Value.ownBlock]))
       have bt:=aa.mk (Kd.nf (by (with_reducible repeat (first|apply Kd.aw|apply Kd.av|apply Kd.aA));exact cl.out) hg (fun _ _=>by simp [Value.ownBlock]))
       have bA:=aa.mk (dq (g:=bE) (o:= .cells #[.int .i64 cU,.slice fo cz.length fp,.slice fu cq.length fw] 26 (0,0)) (by (with_reducible repeat (first|refine ak ?_ _|refine aq ?_|refine aj ?_ _));exact bo.out) hg (by simp [Value.ownBlock]))
       have bK:=aa.mk (Kd.il (Kd.gO (by (with_reducible repeat (first|apply Kd.aw|apply Kd.av|apply Kd.aA));exact cV.out)) hg hat)
       have cL:=aa.mk (Kd.il (Kd.gO (by (with_reducible repeat (first|apply Kd.aw|apply Kd.av|apply Kd.aA));exact dx.out)) hg hat)
       have dc:=aa.mk (Kd.lE (Kd.jg (by (with_reducible repeat (first|apply Kd.cS|apply Kd.cT|apply Kd.dB));exact d8.out)) hg hat)
       have dQ:=aa.mk (Kd.lE (Kd.jg (by (with_reducible repeat (first|apply Kd.cS|apply Kd.cT|apply Kd.dB));exact dX.out)) hg hat)
       have gL:=aa.mk (dq (g:=bZ) (o:= .cells #[.slice iF eE.length iG,.slice je eG.length jf] 41 (0,0)) (by (with_reducible repeat (first|refine ak ?_ _|refine aq ?_|refine aj ?_ _));exact bV.out) hg (by simp [Value.ownBlock]))
       have hY:=aa.mk (Kd.il (Kd.gO (by (with_reducible repeat (first|apply Kd.aw|apply Kd.av|apply Kd.aA));exact fL.out)) hg hat)
       have jv:=aa.mk (hb)
       have fz:=aa.mk (ho)
       clear cj cl bo cV dx d8 dX bV fL HB
       have cj:=br;have cl:=bt;have bo:=bA;have cV:=bK;have dx:=cL;have d8:=dc;have dX:=dQ;have bV:=gL;have fL:=hY;have HB:=jv;have gR:=fz
       clear br bt bA bK cL dc dQ gL hY jv fz ho hb hg hat
       obtain ⟨aaf,aag,RK⟩:=Kd.cA gR.out
       (first|subst RK|(injection RK with uM AU uN;have AV:=uM.symm;have AW:=uN.symm;clear uM AU uN;subst AV;subst AW))
       obtain ⟨II,IJ,Cd⟩:=Kd.cA fL.out
       (first|subst Cd|(injection Cd with uM AU uN;have AV:=uM.symm;have AW:=uN.symm;clear uM AU uN;subst AV;subst AW))
       refine hK.out _ _ ⟨(ag bV.out 0).trans rfl,(ag bV.out 1).trans rfl⟩ (fun hHeld=> ?_)
       clear hK K
       refine eM (a':= ?_) ?_ ?_
       rotate_left
       ·show Act.put _ (some 53) _=_
        simp only [Act.put,dg,dh,di,aY,a9]
        rfl
       refine bP (i:=6) (N:=some 54) (v:= ?_) (a':= ?_) #[true,true,true,true,true,true,true,false,false] rfl rfl (bz HT_.out (by kernel_rfl)) (fun _ _ _ h=>h) (Or.inl ⟨by rfl, ?_⟩) ?_ ?_
       rotate_left
       ·intro w'
        go_simp
        with_reducible rfl
       rotate_left
       ·simp only [Act.put,dg,dh,di,aY,a9]
        rfl
       refine iP (i:=7) (N:=some 18) #[true,true,true,true,true,true,true,true,false] rfl rfl (dZ HT_.out (by kernel_rfl)) (by decide) (fun K hK=> ?_)
       refine wm ?hg (N:=18) ?hd (cs:=#[.slice none 0 0,.slice none 0 0]) (t:=41) ?hr ?_;(case hd=>rfl);(case hg=>rfl);(case hr=>first|(go_simp;done)|(go_simp;rfl))
       intro bX hg Pi hbox hb
       have br:=aa.mk (Kd.aZ (by (with_reducible repeat (first|apply Kd.aw|apply Kd.av|apply Kd.aA));exact cj.out) hb)
       have bt:=aa.mk (Kd.aZ (by (with_reducible repeat (first|apply Kd.aw|apply Kd.av|apply Kd.aA));exact cl.out) hb)
       have bA:=aa.mk (Kd.aZ (by (with_reducible repeat (first|apply Kd.aw|apply Kd.av|apply Kd.aA));exact cV.out) hb)
       have bK:=aa.mk (Kd.aZ (by (with_reducible repeat (first|apply Kd.aw|apply Kd.av|apply Kd.aA));exact dx.out) hb)
       have cL:=aa.mk (Kd.eK (Kd.ky (by (with_reducible repeat (first|apply Kd.cS|apply Kd.cT|apply Kd.dB));exact d8.out) bX (Nat.le_of_eq hg.symm)) hb)
       have dc:=aa.mk (Kd.eK (Kd.ky (by (with_reducible repeat (first|apply Kd.cS|apply Kd.cT|apply Kd.dB));exact dX.out) bX (Nat.le_of_eq hg.symm)) hb)
       have dQ:=aa.mk (Kd.aZ (by (with_reducible repeat (first|apply Kd.aw|apply Kd.av|apply Kd.aA));exact fL.out) hb)
       have gL:=aa.mk (Kd.aZ (by (with_reducible repeat (first|apply Kd.aw|apply Kd.av|apply Kd.aA));exact gR.out) hb)
       have hY:=aa.mk (aH (g:=bE) (o:= .cells #[.int .i64 cU,.slice fo cz.length fp,.slice fu cq.length fw] 26 (0,0)) (by (with_reducible repeat (first|refine ak ?_ _|refine aq ?_|refine aj ?_ _));exact bo.out) hb)
       have jv:=aa.mk (aH (g:=bZ) (o:= .cells #[.slice iF eE.length iG,.slice je eG.length jf] 41 (0,0)) (by (with_reducible repeat (first|refine ak ?_ _|refine aq ?_|refine aj ?_ _));exact bV.out) hb)
       have fz:=aa.mk (aE (by repeat (first|(with_reducible first|exact HB.out|apply ae|apply ab|apply af|refine ai ?_ d7.out|refine ai ?_ fV.out)|exact HB.out)) hb)
       have fO:=aa.mk (hbox)
       have oD:=aa.mk ((by rw [hg];exact (az (by repeat (first|(with_reducible first|exact HB.out|apply ae|apply ab|apply af|refine ai ?_ d7.out|refine ai ?_ fV.out)|exact HB.out))):w.heap.size≤bX))
       have tq:=aa.mk ((by rw [hg];exact (az (by repeat (first|(with_reducible first|exact HB.out|apply ae|apply ab|apply af|refine ai ?_ d7.out|refine ai ?_ fV.out)|exact HB.out))):w.heap.size≤bX))
       have tr:=aa.mk ((by rw [hg];exact Nat.ne_of_lt (cn (g:=bE) (o:= .cells #[.int .i64 cU,.slice fo cz.length fp,.slice fu cq.length fw] 26 (0,0)) (by (with_reducible repeat (first|refine ak ?_ _|refine aq ?_|refine aj ?_ _));exact bo.out)):bE≠bX))
       have xB:=aa.mk ((by rw [hg];exact Nat.ne_of_gt (cn (g:=bE) (o:= .cells #[.int .i64 cU,.slice fo cz.length fp,.slice fu cq.length fw] 26 (0,0)) (by (with_reducible repeat (first|refine ak ?_ _|refine aq ?_|refine aj ?_ _));exact bo.out)):bX≠bE))
       have Ce:=aa.mk ((by rw [hg];exact Nat.ne_of_lt (cn (g:=bZ) (o:= .cells #[.slice iF eE.length iG,.slice je eG.length jf] 41 (0,0)) (by (with_reducible repeat (first|refine ak ?_ _|refine aq ?_|refine aj ?_ _));exact bV.out)):bZ≠bX))
       have IK:=aa.mk ((by rw [hg];exact Nat.ne_of_gt (cn (g:=bZ) (o:= .cells #[.slice iF eE.length iG,.slice je eG.length jf] 41 (0,0)) (by (with_reducible repeat (first|refine ak ?_ _|refine aq ?_|refine aj ?_ _));exact bV.out)):bX≠bZ))
       clear cj cl cV dx d8 dX fL gR bo bV HB
       have cj:=br;have cl:=bt;have cV:=bA;have dx:=bK;have d8:=cL;have dX:=dc;have fL:=dQ;have gR:=gL;have bo:=hY;have bV:=jv;have HB:=fz;have dn:=fO;have yw:=oD;have iK:=tq;have hD:=tr;have jw:=xB;have gj:=Ce;have jx:=IK
       clear br bt bA bK cL dc dQ gL hY jv fz fO oD tq tr xB Ce IK hb hbox hg
       refine hK.out _ _ ⟨(ag bV.out 0).trans rfl,(ag bV.out 1).trans rfl⟩ (fun hHeld=> ?_)
       clear hK K
       refine eM (a':= ?_) ?_ ?_
       rotate_left
       ·show Act.put _ (some 18) _=_
        simp only [Act.put,dg,dh,di,aY,a9]
        rfl
       exact eM (by simp only [sH,Act.put,dg,dh,di]) (hCont (.slice II dI.length IJ,.slice aaf dS.length aag,bX) _ ⟨hHeld,(by (with_reducible repeat (first|apply Kd.aw|apply Kd.av|apply Kd.aA));exact cj.out),(by (with_reducible repeat (first|apply Kd.aw|apply Kd.av|apply Kd.aA));exact cl.out),(by (with_reducible repeat (first|apply Kd.aw|apply Kd.av|apply Kd.aA));exact Kd.bN cV.out (fun _ hk=>⟨hk.1.1,⟨hk.1.2,hk.2⟩⟩)),(by (with_reducible repeat (first|apply Kd.aw|apply Kd.av|apply Kd.aA));exact Kd.bN dx.out (fun _ hk=>⟨hk.1.1,⟨hk.1.2,hk.2⟩⟩)),(by (with_reducible repeat (first|apply Kd.cS|apply Kd.cT|apply Kd.dB));exact Kd.fM d8.out (fun _ hk=>⟨hk.1.1.1.1,⟨hk.1.1.1.2.1,⟨hk.1.1.1.2.2.1,⟨hk.1.1.1.2.2.2.1,⟨hk.1.1.2,⟨hk.1.2,⟨hk.1.1.1.2.2.2.2.1,⟨hk.1.1.1.2.2.2.2.2,hk.2⟩⟩⟩⟩⟩⟩⟩⟩)),(by (with_reducible repeat (first|apply Kd.cS|apply Kd.cT|apply Kd.dB));exact Kd.fM dX.out (fun _ hk=>⟨hk.1.1.1.1,⟨hk.1.1.1.2.1,⟨hk.1.1.1.2.2.1,⟨hk.1.1.1.2.2.2.1,⟨hk.1.1.2,⟨hk.1.2,⟨hk.1.1.1.2.2.2.2.1,⟨hk.1.1.1.2.2.2.2.2,hk.2⟩⟩⟩⟩⟩⟩⟩⟩)),(by (with_reducible repeat (first|apply Kd.aw|apply Kd.av|apply Kd.aA));exact Kd.bN fL.out (fun _ hk=>⟨hk.1.1,⟨hk.1.2,hk.2⟩⟩)),(by (with_reducible repeat (first|apply Kd.aw|apply Kd.av|apply Kd.aA));exact gR.out),(by (with_reducible repeat (first|refine ak ?_ _|refine aq ?_|refine aj ?_ _));exact bo.out),(by (with_reducible repeat (first|refine ak ?_ _|refine aq ?_|refine aj ?_ _));exact bV.out),(by (with_reducible repeat (first|refine ak ?_ _|refine aq ?_|refine aj ?_ _));exact dn.out),yw.out,iK.out,hD.out,jw.out,gj.out,jx.out,(by repeat (first|(with_reducible first|exact HB.out|apply ae|apply ab|apply af|refine ai ?_ d7.out|refine ai ?_ fV.out|refine ai ?_ iK.out)|exact HB.out))⟩)
      skip
      refine wm ?hg (N:=18) ?hd (cs:=#[.slice none 0 0,.slice none 0 0]) (t:=41) ?hr ?_;(case hd=>rfl);(case hg=>rfl);(case hr=>first|(go_simp;done)|(go_simp;rfl))
      intro bX hg w35 hbox hb
      have br:=aa.mk (Kd.aZ (by (with_reducible repeat (first|apply Kd.aw|apply Kd.av|apply Kd.aA));exact cj.out) hb)
      have bt:=aa.mk (Kd.aZ (by (with_reducible repeat (first|apply Kd.aw|apply Kd.av|apply Kd.aA));exact cl.out) hb)
      have bA:=aa.mk (Kd.aZ (by (with_reducible repeat (first|apply Kd.aw|apply Kd.av|apply Kd.aA));exact cV.out) hb)
      have bK:=aa.mk (Kd.aZ (by (with_reducible repeat (first|apply Kd.aw|apply Kd.av|apply Kd.aA));exact dx.out) hb)
      have cL:=aa.mk (Kd.eK (Kd.ky (by (with_reducible repeat (first|apply Kd.cS|apply Kd.cT|apply Kd.dB));exact d8.out) bX (Nat.le_of_eq hg.symm)) hb)
      have dc:=aa.mk (Kd.eK (Kd.ky (by (with_reducible repeat (first|apply Kd.cS|apply Kd.cT|apply Kd.dB));exact dX.out) bX (Nat.le_of_eq hg.symm)) hb)
      have dQ:=aa.mk (Kd.aZ (by (with_reducible repeat (first|apply Kd.aw|apply Kd.av|apply Kd.aA));exact fL.out) hb)
      have gL:=aa.mk (aH (g:=bE) (o:= .cells #[.int .i64 cU,.slice fo cz.length fp,.slice fu cq.length fw] 26 (0,0)) (by (with_reducible repeat (first|refine ak ?_ _|refine aq ?_|refine aj ?_ _));exact bo.out) hb)
      have hY:=aa.mk (aH (g:=bZ) (o:= .cells #[.slice iF eE.length iG,.slice je eG.length jf] 41 (0,0)) (by (with_reducible repeat (first|refine ak ?_ _|refine aq ?_|refine aj ?_ _));exact bV.out) hb)
      have jv:=aa.mk (aE (by repeat (first|(with_reducible first|exact HB.out|apply ae|apply ab|apply af|refine ai ?_ d7.out|refine ai ?_ fV.out)|exact HB.out)) hb)
      have fz:=aa.mk (hbox)
      have fO:=aa.mk ((by rw [hg];exact (az (by repeat (first|(with_reducible first|exact HB.out|apply ae|apply ab|apply af|refine ai ?_ d7.out|refine ai ?_ fV.out)|exact HB.out))):w.heap.size≤bX))
      have oD:=aa.mk ((by rw [hg];exact (az (by repeat (first|(with_reducible first|exact HB.out|apply ae|apply ab|apply af|refine ai ?_ d7.out|refine ai ?_ fV.out)|exact HB.out))):w.heap.size≤bX))
      have tq:=aa.mk ((by rw [hg];exact Nat.ne_of_lt (cn (g:=bE) (o:= .cells #[.int .i64 cU,.slice fo cz.length fp,.slice fu cq.length fw] 26 (0,0)) (by (with_reducible repeat (first|refine ak ?_ _|refine aq ?_|refine aj ?_ _));exact bo.out)):bE≠bX))
      have tr:=aa.mk ((by rw [hg];exact Nat.ne_of_gt (cn (g:=bE) (o:= .cells #[.int .i64 cU,.slice fo cz.length fp,.slice fu cq.length fw] 26 (0,0)) (by (with_reducible repeat (first|refine ak ?_ _|refine aq ?_|refine aj ?_ _));exact bo.out)):bX≠bE))
      have xB:=aa.mk ((by rw [hg];exact Nat.ne_of_lt (cn (g:=bZ) (o:= .cells #[.slice iF eE.length iG,.slice je eG.length jf] 41 (0,0)) (by (with_reducible repeat (first|refine ak ?_ _|refine aq ?_|refine aj ?_ _));exact bV.out)):bZ≠bX))
      have Ce:=aa.mk ((by rw [hg];exact Nat.ne_of_gt (cn (g:=bZ) (o:= .cells #[.slice iF eE.length iG,.slice je eG.length jf] 41 (0,0)) (by (with_reducible repeat (first|refine ak ?_ _|refine aq ?_|refine aj ?_ _));exact bV.out)):bX≠bZ))
      clear cj cl cV dx d8 dX fL bo bV HB
      have cj:=br;have cl:=bt;have cV:=bA;have dx:=bK;have d8:=cL;have dX:=dc;have fL:=dQ;have bo:=gL;have bV:=hY;have HB:=jv;have dn:=fz;have yw:=fO;have iK:=oD;have hD:=tq;have jw:=tr;have gj:=xB;have jx:=Ce
      clear br bt bA bK cL dc dQ gL hY jv fz fO oD tq tr xB Ce hb hbox hg
      refine hK.out _ _ ⟨(ag bV.out 0).trans rfl,(ag bV.out 1).trans rfl⟩ (fun hHeld=> ?_)
      clear hK K
      refine eM (a':= ?_) ?_ ?_
      rotate_left
      ·show Act.put _ (some 18) _=_
       simp only [Act.put,dg,dh,di,aY,a9]
       rfl
      refine iP (i:=5) (N:=some 53) #[true,true,true,true,true,true,false,true,false] rfl rfl (dZ HT_.out (by kernel_rfl)) (by decide) (fun K hK=> ?_)
      refine Kd.dE (Kd.int .i64) (w0:=w) w.heap.size (by rfl) (.const (.slice none 0 0)) (.tmp 52) 22 3 (.int .i64 0) 8 rfl Try.underlying22 info3 rfl (by decide) (by omega) (.slice none 0 0) ([]:List Int) eG _ _ _ (fun k_=>some k_≠(gJ:Value).ownBlock∧some k_≠(gK:Value).ownBlock∧some k_≠(ua:Value).ownBlock) (fun _=>False) rfl rfl ?aO ?aR (fun _ _ h=>h) (fun _ h=>h.elim) ?aF ?aB ?aS ?aL ?_
      (case aR=>repeat (first|exact (Kd.fP dX.out).2.2|(with_reducible refine Kd.aT ?_ _)|(with_reducible refine Kd.aU ?_ _)|(with_reducible refine Kd.bk ?_)))
      (case aB=>exact (by repeat (first|(with_reducible first|exact HB.out|apply ae|apply ab|apply af|refine ai ?_ d7.out|refine ai ?_ fV.out|refine ai ?_ iK.out)|exact HB.out)))
      (case aF=>exact (fun k_ hk=>⟨Kd.eR (Kd.gq (by (with_reducible repeat (first|apply Kd.aw|apply Kd.av|apply Kd.aA));exact cV.out)) k_ hk,Kd.eR (Kd.gq (by (with_reducible repeat (first|apply Kd.aw|apply Kd.av|apply Kd.aA));exact dx.out)) k_ hk,Kd.eR (Kd.gq (by (with_reducible repeat (first|apply Kd.aw|apply Kd.av|apply Kd.aA));exact fL.out)) k_ hk⟩))
      (case aO=>exact ((Kd.jE _ _ _ _ (fun k_=>some k_≠(gJ:Value).ownBlock∧some k_≠(gK:Value).ownBlock∧some k_≠(ua:Value).ownBlock))))
      (case aS=>exact (az (by repeat (first|(with_reducible first|exact HB.out|apply ae|apply ab|apply af|refine ai ?_ d7.out|refine ai ?_ fV.out|refine ai ?_ iK.out)|exact HB.out))))
      (case aL=>have:=IE.out;omega)
      intro z6 w36 ho hb hg hat
      rw [← IG.out] at ho
      have br:=aa.mk (Kd.nf (by (with_reducible repeat (first|apply Kd.aw|apply Kd.av|apply Kd.aA));exact cj.out) hg (fun _ _=>by simp [Value.ownBlock]))
      have bt:=aa.mk (Kd.nf (by (with_reducible repeat (first|apply Kd.aw|apply Kd.av|apply Kd.aA));exact cl.out) hg (fun _ _=>by simp [Value.ownBlock]))
      have bA:=aa.mk (dq (g:=bE) (o:= .cells #[.int .i64 cU,.slice fo cz.length fp,.slice fu cq.length fw] 26 (0,0)) (by (with_reducible repeat (first|refine ak ?_ _|refine aq ?_|refine aj ?_ _));exact bo.out) hg (by simp [Value.ownBlock]))
      have bK:=aa.mk (Kd.il (Kd.gO (by (with_reducible repeat (first|apply Kd.aw|apply Kd.av|apply Kd.aA));exact cV.out)) hg hat)
      have cL:=aa.mk (Kd.il (Kd.gO (by (with_reducible repeat (first|apply Kd.aw|apply Kd.av|apply Kd.aA));exact dx.out)) hg hat)
      have dc:=aa.mk (Kd.lE (Kd.jg (by (with_reducible repeat (first|apply Kd.cS|apply Kd.cT|apply Kd.dB));exact d8.out)) hg hat)
      have dQ:=aa.mk (Kd.lE (Kd.jg (by (with_reducible repeat (first|apply Kd.cS|apply Kd.cT|apply Kd.dB));exact dX.out)) hg hat)
      have gL:=aa.mk (dq (g:=bZ) (o:= .cells #[.slice iF eE.length iG,.slice je eG.length jf] 41 (0,0)) (by (with_reducible repeat (first|refine ak ?_ _|refine aq ?_|refine aj ?_ _));exact bV.out) hg (by simp [Value.ownBlock]))
      have hY:=aa.mk (Kd.il (Kd.gO (by (with_reducible repeat (first|apply Kd.aw|apply Kd.av|apply Kd.aA));exact fL.out)) hg hat)
      have jv:=aa.mk (dq (g:=bX) (o:= .cells #[.slice none 0 0,.slice none 0 0] 41 (0,0)) (by (with_reducible repeat (first|refine ak ?_ _|refine aq ?_|refine aj ?_ _));exact dn.out) hg (by simp [Value.ownBlock]))
      have fz:=aa.mk (hb)
      have fO:=aa.mk (ho)
      clear cj cl bo cV dx d8 dX bV fL dn HB
      have cj:=br;have cl:=bt;have bo:=bA;have cV:=bK;have dx:=cL;have d8:=dc;have dX:=dQ;have bV:=gL;have fL:=hY;have dn:=jv;have HB:=fz;have gR:=fO
      clear br bt bA bK cL dc dQ gL hY jv fz fO ho hb hg hat
      obtain ⟨II,IJ,Cd⟩:=Kd.cA gR.out
      (first|subst Cd|(injection Cd with uM AU uN;have AV:=uM.symm;have AW:=uN.symm;clear uM AU uN;subst AV;subst AW))
      obtain ⟨OM,OO,IL⟩:=Kd.cA fL.out
      (first|subst IL|(injection IL with uM AU uN;have AV:=uM.symm;have AW:=uN.symm;clear uM AU uN;subst AV;subst AW))
      refine hK.out _ _ ⟨(ag bV.out 0).trans rfl,(ag bV.out 1).trans rfl⟩ (fun hHeld=> ?_)
      clear hK K
      refine eM (a':= ?_) ?_ ?_
      rotate_left
      ·show Act.put _ (some 53) _=_
       simp only [Act.put,dg,dh,di,aY,a9]
       rfl
      refine bP (i:=6) (N:=some 54) (v:= ?_) (a':= ?_) #[true,true,true,true,true,true,true,true,false] rfl rfl (bz HT_.out (by kernel_rfl)) (fun _ _ _ h=>h) (Or.inl ⟨by rfl, ?_⟩) ?_ ?_
      rotate_left
      ·intro w'
       go_simp
       with_reducible rfl
      rotate_left
      ·simp only [Act.put,dg,dh,di,aY,a9]
       rfl
      exact eM (by simp only [sH,Act.put,dg,dh,di]) (hCont (.slice OM dI.length OO,.slice II dS.length IJ,bX) _ ⟨hHeld,(by (with_reducible repeat (first|apply Kd.aw|apply Kd.av|apply Kd.aA));exact cj.out),(by (with_reducible repeat (first|apply Kd.aw|apply Kd.av|apply Kd.aA));exact cl.out),(by (with_reducible repeat (first|apply Kd.aw|apply Kd.av|apply Kd.aA));exact Kd.bN cV.out (fun _ hk=>⟨hk.1.1,⟨hk.1.2,hk.2⟩⟩)),(by (with_reducible repeat (first|apply Kd.aw|apply Kd.av|apply Kd.aA));exact Kd.bN dx.out (fun _ hk=>⟨hk.1.1,⟨hk.1.2,hk.2⟩⟩)),(by (with_reducible repeat (first|apply Kd.cS|apply Kd.cT|apply Kd.dB));exact Kd.fM d8.out (fun _ hk=>⟨hk.1.1.1.1,⟨hk.1.1.1.2.1,⟨hk.1.1.1.2.2.1,⟨hk.1.1.1.2.2.2.1,⟨hk.1.1.2,⟨hk.2,⟨hk.1.1.1.2.2.2.2.1,⟨hk.1.1.1.2.2.2.2.2,hk.1.2⟩⟩⟩⟩⟩⟩⟩⟩)),(by (with_reducible repeat (first|apply Kd.cS|apply Kd.cT|apply Kd.dB));exact Kd.fM dX.out (fun _ hk=>⟨hk.1.1.1.1,⟨hk.1.1.1.2.1,⟨hk.1.1.1.2.2.1,⟨hk.1.1.1.2.2.2.1,⟨hk.1.1.2,⟨hk.2,⟨hk.1.1.1.2.2.2.2.1,⟨hk.1.1.1.2.2.2.2.2,hk.1.2⟩⟩⟩⟩⟩⟩⟩⟩)),(by (with_reducible repeat (first|apply Kd.aw|apply Kd.av|apply Kd.aA));exact Kd.bN fL.out (fun _ hk=>⟨hk.1.1,⟨hk.1.2,hk.2⟩⟩)),(by (with_reducible repeat (first|apply Kd.aw|apply Kd.av|apply Kd.aA));exact gR.out),(by (with_reducible repeat (first|refine ak ?_ _|refine aq ?_|refine aj ?_ _));exact bo.out),(by (with_reducible repeat (first|refine ak ?_ _|refine aq ?_|refine aj ?_ _));exact bV.out),(by (with_reducible repeat (first|refine ak ?_ _|refine aq ?_|refine aj ?_ _));exact dn.out),yw.out,iK.out,hD.out,jw.out,gj.out,jx.out,(by repeat (first|(with_reducible first|exact HB.out|apply ae|apply ab|apply af|refine ai ?_ d7.out|refine ai ?_ fV.out|refine ai ?_ iK.out)|exact HB.out))⟩)
     skip
     refine wm ?hg (N:=18) ?hd (cs:=#[.slice none 0 0,.slice none 0 0]) (t:=41) ?hr ?_;(case hd=>rfl);(case hg=>rfl);(case hr=>first|(go_simp;done)|(go_simp;rfl))
     intro bX hg oR hbox hb
     have br:=aa.mk (Kd.aZ (by (with_reducible repeat (first|apply Kd.aw|apply Kd.av|apply Kd.aA));exact cj.out) hb)
     have bt:=aa.mk (Kd.aZ (by (with_reducible repeat (first|apply Kd.aw|apply Kd.av|apply Kd.aA));exact cl.out) hb)
     have bA:=aa.mk (Kd.aZ (by (with_reducible repeat (first|apply Kd.aw|apply Kd.av|apply Kd.aA));exact cV.out) hb)
     have bK:=aa.mk (Kd.aZ (by (with_reducible repeat (first|apply Kd.aw|apply Kd.av|apply Kd.aA));exact dx.out) hb)
     have cL:=aa.mk (Kd.eK (Kd.ky (by (with_reducible repeat (first|apply Kd.cS|apply Kd.cT|apply Kd.dB));exact d8.out) bX (Nat.le_of_eq hg.symm)) hb)
     have dc:=aa.mk (Kd.eK (Kd.ky (by (with_reducible repeat (first|apply Kd.cS|apply Kd.cT|apply Kd.dB));exact dX.out) bX (Nat.le_of_eq hg.symm)) hb)
     have dQ:=aa.mk (aH (g:=bE) (o:= .cells #[.int .i64 cU,.slice fo cz.length fp,.slice fu cq.length fw] 26 (0,0)) (by (with_reducible repeat (first|refine ak ?_ _|refine aq ?_|refine aj ?_ _));exact bo.out) hb)
     have gL:=aa.mk (aH (g:=bZ) (o:= .cells #[.slice iF eE.length iG,.slice je eG.length jf] 41 (0,0)) (by (with_reducible repeat (first|refine ak ?_ _|refine aq ?_|refine aj ?_ _));exact bV.out) hb)
     have hY:=aa.mk (aE (by repeat (first|(with_reducible first|exact HB.out|apply ae|apply ab|apply af|refine ai ?_ d7.out|refine ai ?_ fV.out)|exact HB.out)) hb)
     have jv:=aa.mk (hbox)
     have fz:=aa.mk ((by rw [hg];exact (az (by repeat (first|(with_reducible first|exact HB.out|apply ae|apply ab|apply af|refine ai ?_ d7.out|refine ai ?_ fV.out)|exact HB.out))):w.heap.size≤bX))
     have fO:=aa.mk ((by rw [hg];exact (az (by repeat (first|(with_reducible first|exact HB.out|apply ae|apply ab|apply af|refine ai ?_ d7.out|refine ai ?_ fV.out)|exact HB.out))):w.heap.size≤bX))
     have oD:=aa.mk ((by rw [hg];exact Nat.ne_of_lt (cn (g:=bE) (o:= .cells #[.int .i64 cU,.slice fo cz.length fp,.slice fu cq.length fw] 26 (0,0)) (by (with_reducible repeat (first|refine ak ?_ _|refine aq ?_|refine aj ?_ _));exact bo.out)):bE≠bX))
     have tq:=aa.mk ((by rw [hg];exact Nat.ne_of_gt (cn (g:=bE) (o:= .cells #[.int .i64 cU,.slice fo cz.length fp,.slice fu cq.length fw] 26 (0,0)) (by (with_reducible repeat (first|refine ak ?_ _|refine aq ?_|refine aj ?_ _));exact bo.out)):bX≠bE))
     have tr:=aa.mk ((by rw [hg];exact Nat.ne_of_lt (cn (g:=bZ) (o:= .cells #[.slice iF eE.length iG,.slice je eG.length jf] 41 (0,0)) (by (with_reducible repeat (first|refine ak ?_ _|refine aq ?_|refine aj ?_ _));exact bV.out)):bZ≠bX))
     have xB:=aa.mk ((by rw [hg];exact Nat.ne_of_gt (cn (g:=bZ) (o:= .cells #[.slice iF eE.length iG,.slice je eG.length jf] 41 (0,0)) (by (with_reducible repeat (first|refine ak ?_ _|refine aq ?_|refine aj ?_ _));exact bV.out)):bX≠bZ))
     clear cj cl cV dx d8 dX bo bV HB
     have cj:=br;have cl:=bt;have cV:=bA;have dx:=bK;have d8:=cL;have dX:=dc;have bo:=dQ;have bV:=gL;have HB:=hY;have dn:=jv;have yw:=fz;have iK:=fO;have hD:=oD;have jw:=tq;have gj:=tr;have jx:=xB
     clear br bt bA bK cL dc dQ gL hY jv fz fO oD tq tr xB hb hbox hg
     refine hK.out _ _ ⟨(ag bV.out 0).trans rfl,(ag bV.out 1).trans rfl⟩ (fun hHeld=> ?_)
     clear hK K
     refine eM (a':= ?_) ?_ ?_
     rotate_left
     ·show Act.put _ (some 18) _=_
      simp only [Act.put,dg,dh,di,aY,a9]
      rfl
     refine iP (i:=2) (N:=some 50) #[true,true,true,true,true,false,false,true,false] rfl rfl (dZ HT_.out (by kernel_rfl)) (by decide) (fun K hK=> ?_)
     refine Kd.dE (Kd.int .i64) (w0:=w) w.heap.size (by rfl) (.const (.slice none 0 0)) (.tmp 49) 22 3 (.int .i64 0) 8 rfl Try.underlying22 info3 rfl (by decide) (by omega) (.slice none 0 0) ([]:List Int) eE _ _ _ (fun k_=>some k_≠(gJ:Value).ownBlock∧some k_≠(gK:Value).ownBlock) (fun _=>False) rfl rfl ?aO ?aR (fun _ _ h=>h) (fun _ h=>h.elim) ?aF ?aB ?aS ?aL ?_
     (case aR=>repeat (first|exact (Kd.fP d8.out).2.2|(with_reducible refine Kd.aT ?_ _)|(with_reducible refine Kd.aU ?_ _)|(with_reducible refine Kd.bk ?_)))
     (case aB=>exact (by repeat (first|(with_reducible first|exact HB.out|apply ae|apply ab|apply af|refine ai ?_ d7.out|refine ai ?_ fV.out|refine ai ?_ iK.out)|exact HB.out)))
     (case aF=>exact (fun k_ hk=>⟨Kd.eR (Kd.gq (by (with_reducible repeat (first|apply Kd.aw|apply Kd.av|apply Kd.aA));exact cV.out)) k_ hk,Kd.eR (Kd.gq (by (with_reducible repeat (first|apply Kd.aw|apply Kd.av|apply Kd.aA));exact dx.out)) k_ hk⟩))
     (case aO=>exact ((Kd.jE _ _ _ _ (fun k_=>some k_≠(gJ:Value).ownBlock∧some k_≠(gK:Value).ownBlock))))
     (case aS=>exact (az (by repeat (first|(with_reducible first|exact HB.out|apply ae|apply ab|apply af|refine ai ?_ d7.out|refine ai ?_ fV.out|refine ai ?_ iK.out)|exact HB.out))))
     (case aL=>have:=Mi.out;omega)
     intro ua w35 ho hb hg hat
     rw [← Mj.out] at ho
     have br:=aa.mk (Kd.nf (by (with_reducible repeat (first|apply Kd.aw|apply Kd.av|apply Kd.aA));exact cj.out) hg (fun _ _=>by simp [Value.ownBlock]))
     have bt:=aa.mk (Kd.nf (by (with_reducible repeat (first|apply Kd.aw|apply Kd.av|apply Kd.aA));exact cl.out) hg (fun _ _=>by simp [Value.ownBlock]))
     have bA:=aa.mk (dq (g:=bE) (o:= .cells #[.int .i64 cU,.slice fo cz.length fp,.slice fu cq.length fw] 26 (0,0)) (by (with_reducible repeat (first|refine ak ?_ _|refine aq ?_|refine aj ?_ _));exact bo.out) hg (by simp [Value.ownBlock]))
     have bK:=aa.mk (Kd.il (Kd.gO (by (with_reducible repeat (first|apply Kd.aw|apply Kd.av|apply Kd.aA));exact cV.out)) hg hat)
     have cL:=aa.mk (Kd.il (Kd.gO (by (with_reducible repeat (first|apply Kd.aw|apply Kd.av|apply Kd.aA));exact dx.out)) hg hat)
     have dc:=aa.mk (Kd.lE (Kd.jg (by (with_reducible repeat (first|apply Kd.cS|apply Kd.cT|apply Kd.dB));exact d8.out)) hg hat)
     have dQ:=aa.mk (Kd.lE (Kd.jg (by (with_reducible repeat (first|apply Kd.cS|apply Kd.cT|apply Kd.dB));exact dX.out)) hg hat)
     have gL:=aa.mk (dq (g:=bZ) (o:= .cells #[.slice iF eE.length iG,.slice je eG.length jf] 41 (0,0)) (by (with_reducible repeat (first|refine ak ?_ _|refine aq ?_|refine aj ?_ _));exact bV.out) hg (by simp [Value.ownBlock]))
     have hY:=aa.mk (dq (g:=bX) (o:= .cells #[.slice none 0 0,.slice none 0 0] 41 (0,0)) (by (with_reducible repeat (first|refine ak ?_ _|refine aq ?_|refine aj ?_ _));exact dn.out) hg (by simp [Value.ownBlock]))
     have jv:=aa.mk (hb)
     have fz:=aa.mk (ho)
     clear cj cl bo cV dx d8 dX bV dn HB
     have cj:=br;have cl:=bt;have bo:=bA;have cV:=bK;have dx:=cL;have d8:=dc;have dX:=dQ;have bV:=gL;have dn:=hY;have HB:=jv;have fL:=fz
     clear br bt bA bK cL dc dQ gL hY jv fz ho hb hg hat
     refine hK.out _ _ ⟨(ag bV.out 0).trans rfl,(ag bV.out 1).trans rfl⟩ (fun hHeld=> ?_)
     clear hK K
     refine eM (a':= ?_) ?_ ?_
     rotate_left
     ·show Act.put _ (some 50) _=_
      simp only [Act.put,dg,dh,di,aY,a9]
      rfl
     refine iP (i:=5) (N:=some 53) #[true,true,true,true,true,true,false,true,false] rfl rfl (dZ HT_.out (by kernel_rfl)) (by decide) (fun K hK=> ?_)
     refine Kd.dE (Kd.int .i64) (w0:=w) w.heap.size (by rfl) (.const (.slice none 0 0)) (.tmp 52) 22 3 (.int .i64 0) 8 rfl Try.underlying22 info3 rfl (by decide) (by omega) (.slice none 0 0) ([]:List Int) eG _ _ _ (fun k_=>some k_≠(gJ:Value).ownBlock∧some k_≠(gK:Value).ownBlock∧some k_≠(ua:Value).ownBlock) (fun _=>False) rfl rfl ?aO ?aR (fun _ _ h=>h) (fun _ h=>h.elim) ?aF ?aB ?aS ?aL ?_
     (case aR=>repeat (first|exact (Kd.fP dX.out).2.2|(with_reducible refine Kd.aT ?_ _)|(with_reducible refine Kd.aU ?_ _)|(with_reducible refine Kd.bk ?_)))
     (case aB=>exact (by repeat (first|(with_reducible first|exact HB.out|apply ae|apply ab|apply af|refine ai ?_ d7.out|refine ai ?_ fV.out|refine ai ?_ iK.out)|exact HB.out)))
     (case aF=>exact (fun k_ hk=>⟨Kd.eR (Kd.gq (by (with_reducible repeat (first|apply Kd.aw|apply Kd.av|apply Kd.aA));exact cV.out)) k_ hk,Kd.eR (Kd.gq (by (with_reducible repeat (first|apply Kd.aw|apply Kd.av|apply Kd.aA));exact dx.out)) k_ hk,Kd.eR (Kd.gq (by (with_reducible repeat (first|apply Kd.aw|apply Kd.av|apply Kd.aA));exact fL.out)) k_ hk⟩))
     (case aO=>exact ((Kd.jE _ _ _ _ (fun k_=>some k_≠(gJ:Value).ownBlock∧some k_≠(gK:Value).ownBlock∧some k_≠(ua:Value).ownBlock))))
     (case aS=>exact (az (by repeat (first|(with_reducible first|exact HB.out|apply ae|apply ab|apply af|refine ai ?_ d7.out|refine ai ?_ fV.out|refine ai ?_ iK.out)|exact HB.out))))
     (case aL=>have:=IE.out;omega)
     intro z6 w36 ho hb hg hat
     rw [← IG.out] at ho
     have br:=aa.mk (Kd.nf (by (with_reducible repeat (first|apply Kd.aw|apply Kd.av|apply Kd.aA));exact cj.out) hg (fun _ _=>by simp [Value.ownBlock]))
     have bt:=aa.mk (Kd.nf (by (with_reducible repeat (first|apply Kd.aw|apply Kd.av|apply Kd.aA));exact cl.out) hg (fun _ _=>by simp [Value.ownBlock]))
     have bA:=aa.mk (dq (g:=bE) (o:= .cells #[.int .i64 cU,.slice fo cz.length fp,.slice fu cq.length fw] 26 (0,0)) (by (with_reducible repeat (first|refine ak ?_ _|refine aq ?_|refine aj ?_ _));exact bo.out) hg (by simp [Value.ownBlock]))
     have bK:=aa.mk (Kd.il (Kd.gO (by (with_reducible repeat (first|apply Kd.aw|apply Kd.av|apply Kd.aA));exact cV.out)) hg hat)
     have cL:=aa.mk (Kd.il (Kd.gO (by (with_reducible repeat (first|apply Kd.aw|apply Kd.av|apply Kd.aA));exact dx.out)) hg hat)
     have dc:=aa.mk (Kd.lE (Kd.jg (by (with_reducible repeat (first|apply Kd.cS|apply Kd.cT|apply Kd.dB));exact d8.out)) hg hat)
     have dQ:=aa.mk (Kd.lE (Kd.jg (by (with_reducible repeat (first|apply Kd.cS|apply Kd.cT|apply Kd.dB));exact dX.out)) hg hat)
     have gL:=aa.mk (dq (g:=bZ) (o:= .cells #[.slice iF eE.length iG,.slice je eG.length jf] 41 (0,0)) (by (with_reducible repeat (first|refine ak ?_ _|refine aq ?_|refine aj ?_ _));exact bV.out) hg (by simp [Value.ownBlock]))
     have hY:=aa.mk (dq (g:=bX) (o:= .cells #[.slice none 0 0,.slice none 0 0] 41 (0,0)) (by (with_reducible repeat (first|refine ak ?_ _|refine aq ?_|refine aj ?_ _));exact dn.out) hg (by simp [Value.ownBlock]))
     have jv:=aa.mk (Kd.il (Kd.gO (by (with_reducible repeat (first|apply Kd.aw|apply Kd.av|apply Kd.aA));exact fL.out)) hg hat)
     have fz:=aa.mk (hb)
     have fO:=aa.mk (ho)
     clear cj cl bo cV dx d8 dX bV dn fL HB
     have cj:=br;have cl:=bt;have bo:=bA;have cV:=bK;have dx:=cL;have d8:=dc;have dX:=dQ;have bV:=gL;have dn:=hY;have fL:=jv;have HB:=fz;have gR:=fO
     clear br bt bA bK cL dc dQ gL hY jv fz fO ho hb hg hat
     obtain ⟨II,IJ,Cd⟩:=Kd.cA gR.out
     (first|subst Cd|(injection Cd with uM AU uN;have AV:=uM.symm;have AW:=uN.symm;clear uM AU uN;subst AV;subst AW))
     obtain ⟨OM,OO,IL⟩:=Kd.cA fL.out
     (first|subst IL|(injection IL with uM AU uN;have AV:=uM.symm;have AW:=uN.symm;clear uM AU uN;subst AV;subst AW))
     refine hK.out _ _ ⟨(ag bV.out 0).trans rfl,(ag bV.out 1).trans rfl⟩ (fun hHeld=> ?_)
     clear hK K
     refine eM (a':= ?_) ?_ ?_
     rotate_left
     ·show Act.put _ (some 53) _=_
      simp only [Act.put,dg,dh,di,aY,a9]
      rfl
     refine bP (i:=6) (N:=some 54) (v:= ?_) (a':= ?_) #[true,true,true,true,true,true,true,true,false] rfl rfl (bz HT_.out (by kernel_rfl)) (fun _ _ _ h=>h) (Or.inl ⟨by rfl, ?_⟩) ?_ ?_
     rotate_left
     ·intro w'
      go_simp
      with_reducible rfl
     rotate_left
     ·simp only [Act.put,dg,dh,di,aY,a9]
      rfl
     exact eM (by simp only [sH,Act.put,dg,dh,di]) (hCont (.slice OM dI.length OO,.slice II dS.length IJ,bX) _ ⟨hHeld,(by (with_reducible repeat (first|apply Kd.aw|apply Kd.av|apply Kd.aA));exact cj.out),(by (with_reducible repeat (first|apply Kd.aw|apply Kd.av|apply Kd.aA));exact cl.out),(by (with_reducible repeat (first|apply Kd.aw|apply Kd.av|apply Kd.aA));exact Kd.bN cV.out (fun _ hk=>⟨hk.1.1,⟨hk.1.2,hk.2⟩⟩)),(by (with_reducible repeat (first|apply Kd.aw|apply Kd.av|apply Kd.aA));exact Kd.bN dx.out (fun _ hk=>⟨hk.1.1,⟨hk.1.2,hk.2⟩⟩)),(by (with_reducible repeat (first|apply Kd.cS|apply Kd.cT|apply Kd.dB));exact Kd.fM d8.out (fun _ hk=>⟨hk.1.1.1.1,⟨hk.1.1.1.2.1,⟨hk.1.1.1.2.2.1,⟨hk.1.1.1.2.2.2.1,⟨hk.1.2,⟨hk.2,⟨hk.1.1.1.2.2.2.2.1,⟨hk.1.1.1.2.2.2.2.2,hk.1.1.2⟩⟩⟩⟩⟩⟩⟩⟩)),(by (with_reducible repeat (first|apply Kd.cS|apply Kd.cT|apply Kd.dB));exact Kd.fM dX.out (fun _ hk=>⟨hk.1.1.1.1,⟨hk.1.1.1.2.1,⟨hk.1.1.1.2.2.1,⟨hk.1.1.1.2.2.2.1,⟨hk.1.2,⟨hk.2,⟨hk.1.1.1.2.2.2.2.1,⟨hk.1.1.1.2.2.2.2.2,hk.1.1.2⟩⟩⟩⟩⟩⟩⟩⟩)),(by (with_reducible repeat (first|apply Kd.aw|apply Kd.av|apply Kd.aA));exact Kd.bN fL.out (fun _ hk=>⟨hk.1.1,⟨hk.1.2,hk.2⟩⟩)),(by (with_reducible repeat (first|apply Kd.aw|apply Kd.av|apply Kd.aA));exact gR.out),(by (with_reducible repeat (first|refine ak ?_ _|refine aq ?_|refine aj ?_ _));exact bo.out),(by (with_reducible repeat (first|refine ak ?_ _|refine aq ?_|refine aj ?_ _));exact bV.out),(by (with_reducible repeat (first|refine ak ?_ _|refine aq ?_|refine aj ?_ _));exact dn.out),yw.out,iK.out,hD.out,jw.out,gj.out,jx.out,(by repeat (first|(with_reducible first|exact HB.out|apply ae|apply ab|apply af|refine ai ?_ d7.out|refine ai ?_ fV.out|refine ai ?_ iK.out)|exact HB.out))⟩)
    rintro ⟨ua,z6,bX⟩ oM ⟨hS_,h0_,jr,kw,nE,nL,O7,h6_,h7_,h8_,h9_,RL,RM,RN,RO,RP,RQ,RR,RS⟩
    have br:aa (Kd.R oS 97 oM w.heap.size (fun _=>True) (.slice fo cz.length fp) cz):=⟨h0_⟩
    have bt:aa (Kd.R nD 36 oM w.heap.size (fun _=>True) (.slice fu cq.length fw) cq):=⟨jr⟩
    have bA:aa (Kd.R (Kd.int .i64) 3 oM w.heap.size (fun k_=>some k_≠(gK:Value).ownBlock∧some k_≠(ua:Value).ownBlock∧some k_≠(z6:Value).ownBlock) gJ jd):=⟨kw⟩
    have bK:aa (Kd.R (Kd.int .i64) 3 oM w.heap.size (fun k_=>some k_≠(gJ:Value).ownBlock∧some k_≠(ua:Value).ownBlock∧some k_≠(z6:Value).ownBlock) gK iY):=⟨nE⟩
    have cL:aa (Kd.V (Kd.int .i64) 3 oM w.heap.size (fun k_=>some k_≠(.slice fo cz.length fp:Value).ownBlock∧some k_≠(.slice fu cq.length fw:Value).ownBlock∧some k_≠(gJ:Value).ownBlock∧some k_≠(gK:Value).ownBlock∧some k_≠(ua:Value).ownBlock∧some k_≠(z6:Value).ownBlock∧k_≠bE∧k_≠bZ∧k_≠bX) (.slice iF eE.length iG) eE):=⟨nL⟩
    have dc:aa (Kd.V (Kd.int .i64) 3 oM w.heap.size (fun k_=>some k_≠(.slice fo cz.length fp:Value).ownBlock∧some k_≠(.slice fu cq.length fw:Value).ownBlock∧some k_≠(gJ:Value).ownBlock∧some k_≠(gK:Value).ownBlock∧some k_≠(ua:Value).ownBlock∧some k_≠(z6:Value).ownBlock∧k_≠bE∧k_≠bZ∧k_≠bX) (.slice je eG.length jf) eG):=⟨O7⟩
    have dQ:aa (Kd.R (Kd.int .i64) 3 oM w.heap.size (fun k_=>some k_≠(gJ:Value).ownBlock∧some k_≠(gK:Value).ownBlock∧some k_≠(z6:Value).ownBlock) ua dI):=⟨h6_⟩
    have gL:aa (Kd.R (Kd.int .i64) 3 oM w.heap.size (fun k_=>some k_≠(gJ:Value).ownBlock∧some k_≠(gK:Value).ownBlock∧some k_≠(ua:Value).ownBlock) z6 dS):=⟨h7_⟩
    have hY:aa (oM.heap[bE]? =some (.cells #[.int .i64 cU,.slice fo cz.length fp,.slice fu cq.length fw] 26 (0,0))):=⟨h8_⟩
    have jv:aa (oM.heap[bZ]? =some (.cells #[.slice iF eE.length iG,.slice je eG.length jf] 41 (0,0))):=⟨h9_⟩
    have fz:aa (oM.heap[bX]? =some (.cells #[.slice none 0 0,.slice none 0 0] 41 (0,0))):=⟨RL⟩
    have fO:aa (w.heap.size≤bX):=⟨RM⟩
    have oD:aa (w.heap.size≤bX):=⟨RN⟩
    have tq:aa (bE≠bX):=⟨RO⟩
    have tr:aa (bX≠bE):=⟨RP⟩
    have xB:aa (bZ≠bX):=⟨RQ⟩
    have Ce:aa (bX≠bZ):=⟨RR⟩
    have IK:aa (Below w.heap.size w oM):=⟨RS⟩
    clear cj cl cV dx d8 dX bo bV HB h0_ jr kw nE nL O7 h6_ h7_ h8_ h9_ RL RM RN RO RP RQ RR RS
    have cj:=br;have cl:=bt;have cV:=bA;have dx:=bK;have d8:=cL;have dX:=dc;have fL:=dQ;have gR:=gL;have bo:=hY;have bV:=jv;have dn:=fz;have yw:=fO;have iK:=oD;have hD:=tq;have jw:=tr;have gj:=xB;have jx:=Ce;have HB:=IK
    clear br bt bA bK cL dc dQ gL hY jv fz fO oD tq tr xB Ce IK
    have hHeld:oM.cell? ⟨bZ,0,none⟩=some (.slice iF eE.length iG)∧oM.cell? ⟨bZ,1,none⟩=some (.slice je eG.length jf):=hS_
    obtain ⟨gi,gf,RT⟩:=Kd.cA gR.out
    (first|subst RT|(injection RT with uM AU uN;have AV:=uM.symm;have AW:=uN.symm;clear uM AU uN;subst AV;subst AW))
    obtain ⟨fX,fT,RU⟩:=Kd.cA fL.out
    (first|subst RU|(injection RU with uM AU uN;have AV:=uM.symm;have AW:=uN.symm;clear uM AU uN;subst AV;subst AW))
    refine eM (a':= ?_) ?_ ?_
    rotate_left
    ·simp only [sH,Act.put,dg,dh,di]
     rfl
    refine iP (i:=8) (N:=none) #[true,true,true,true,true,true,true,true,true] rfl rfl (dZ HT_.out (by kernel_rfl)) (by decide) (fun K hK=> ?_)
    have aet:oM.cell? ⟨bX,0,none⟩=some (.slice none 0 0):=(ag dn.out 0).trans rfl
    have acC:=ah dn.out 0
    have Xg:=hD.out
    have Xh:=gj.out
    have Xi:=jw.out
    have Xj:=jx.out
    have aeu:oM.cell? ⟨bX,1,none⟩=some (.slice none 0 0):=(ag dn.out 1).trans rfl
    have acD:=ah dn.out 1
    have Xk:=hD.out
    have Xl:=gj.out
    have Xm:=jw.out
    have Xn:=jx.out
    refine oz (w1:= ?_) (by rfl) rfl ?_ ?_
    rotate_left
    ·go_simp
     rfl
    refine hK.out _ _ ⟨((cell_far (p:=⟨bX,_,none⟩) gj.out _).trans (((cell_far (p:=⟨bX,_,none⟩) gj.out _).trans (hHeld.1)))),((cell_far (p:=⟨bX,_,none⟩) gj.out _).trans (((cell_far (p:=⟨bX,_,none⟩) gj.out _).trans (hHeld.2))))⟩ (fun hHeld=> ?_)
    clear hK K
    refine j1 (gD HT_.out (by kernel_rfl)) ?_
    have LS:=jw.out
    have LU:=hD.out
    have acE:=jx.out
    have acF:=gj.out
    have Ef:oM.cell? ⟨bX,0,none⟩=some (.slice none 0 0):=(ag dn.out 0).trans rfl
    have Eg:oM.cell? ⟨bX,1,none⟩=some (.slice none 0 0):=(ag dn.out 1).trans rfl
    have Eh:=ah dn.out 0
    have Ei:=ah dn.out 1
    go_upto_if 62 with (first|((with_reducible refine bY (f:=34) rfl ?_);refine er (some 59) rfl rfl Try.func34 (by kernel_rfl) rfl #[.int .i64 a4,.int .i64 (dI.length:Int)] rfl (by (try simp only [List.map_toArray,List.map_cons,List.map_nil]);first|done|rfl|(simp only [List.length_drop,List.length_take];rfl)) ?_;(with_reducible refine (bw.calls a4 (dI.length:Int) eA _ PQ.out).mono ?_);rintro e w' ⟨rfl,⟨nd,rfl⟩⟩;refine ⟨_,rfl, ?_⟩))
    (try simp only [Act.put,dg,dh,di])
    go_cut [] (fun wc=>∃ (kq:Nat) (lB:List Int) (lC:List Int) (eP:List Int) (eQ:List Int) (jo:List Int) (jp:List Int) (nl:Value) (nn:Value) (js:Value) (jt:Value),aa (ay.j0 kq lB lC cU cz cq eP eQ jo jp=some r)∧aa (kq≤k)∧aa (Kd.R (Kd.int .i64) 3 wc w.heap.size (fun k_=>some k_≠(gK:Value).ownBlock∧some k_≠(js:Value).ownBlock∧some k_≠(jt:Value).ownBlock) gJ lB)∧aa (Kd.R (Kd.int .i64) 3 wc w.heap.size (fun k_=>some k_≠(gJ:Value).ownBlock∧some k_≠(js:Value).ownBlock∧some k_≠(jt:Value).ownBlock) gK lC)∧aa (Kd.R oS 97 wc w.heap.size (fun _=>True) (.slice fo cz.length fp) cz)∧aa (Kd.R nD 36 wc w.heap.size (fun _=>True) (.slice fu cq.length fw) cq)∧aa (Kd.V (Kd.int .i64) 3 wc w.heap.size (fun k_=>some k_≠(gJ:Value).ownBlock∧some k_≠(gK:Value).ownBlock∧some k_≠((.slice fo cz.length fp):Value).ownBlock∧some k_≠((.slice fu cq.length fw):Value).ownBlock∧some k_≠(js:Value).ownBlock∧some k_≠(jt:Value).ownBlock∧k_≠bE∧k_≠bZ∧k_≠bX) nl eP)∧aa (Kd.V (Kd.int .i64) 3 wc w.heap.size (fun k_=>some k_≠(gJ:Value).ownBlock∧some k_≠(gK:Value).ownBlock∧some k_≠((.slice fo cz.length fp):Value).ownBlock∧some k_≠((.slice fu cq.length fw):Value).ownBlock∧some k_≠(js:Value).ownBlock∧some k_≠(jt:Value).ownBlock∧k_≠bE∧k_≠bZ∧k_≠bX) nn eQ)∧aa (Kd.R (Kd.int .i64) 3 wc w.heap.size (fun k_=>some k_≠(gJ:Value).ownBlock∧some k_≠(gK:Value).ownBlock∧some k_≠(jt:Value).ownBlock) js jo)∧aa (Kd.R (Kd.int .i64) 3 wc w.heap.size (fun k_=>some k_≠(gJ:Value).ownBlock∧some k_≠(gK:Value).ownBlock∧some k_≠(js:Value).ownBlock) jt jp)∧aa (wc.heap[bE]? =some (.cells #[.int .i64 cU,(.slice fo cz.length fp),(.slice fu cq.length fw)] 26 (0,0)))∧aa (wc.heap[bZ]? =some (.cells #[nl,nn] 41 (0,0)))∧aa (wc.heap[bX]? =some (.cells #[js,jt] 41 (0,0)))∧aa (Below w.heap.size w wc))
    case first=>
     have H:=OL.out
     clear OL
     by_cases Mm:(Int.tmod a5 2)=0
     ·rw [if_pos Mm] at H
      have c47b0:((Int.tmod a5 2)==0)=true:=beq_iff_eq.mpr Mm
      have c47b1:((Int.tmod a5 2) !=0)=false:=bne_eq_false_iff_eq.mpr Mm
      clear Mm
      (first|rw [c47b0]|(simp only [aY,a9];rw [c47b0])|skip)
      replace H:=Option.bind_eq_some_iff.mp H
      obtain ⟨mf,RV,H⟩:=H
      replace H:(if 0≤eA then (if eA<(dI.length:Int) then (ay.j0 k jd iY cU cz cq eE eG (dI.set (eA:Int).toNat mf) dS) else (none)) else (none))=some r:=H
      have A48:=aa.mk RV
      clear RV
      by_cases RW:0≤eA
      ·rw [if_pos RW] at H
       have c49b0:decide (0≤eA)=true:=decide_eq_true RW
       clear RW
       by_cases RX:eA<(dI.length:Int)
       ·rw [if_pos RX] at H
        have c50b0:decide (eA<(dI.length:Int))=true:=decide_eq_true RX
        clear RX
        obtain ⟨RY,Cf⟩:∃ y_:List Int,y_=(dI.set (eA:Int).toNat mf):=⟨_,rfl⟩
        replace H:(ay.j0 k jd iY cU cz cq eE eG RY dS)=some r:=by first|(rw [Cf];with_reducible exact H)|(have gT:=(Option.bind_some _ _).symm.trans H;rw [Cf];with_reducible exact gT)|(have gT:=(Option.bind_some _ _).symm.trans H;with_reducible exact gT)|with_reducible exact H|(rw [Cf];exact H)|exact H
        have RZ:=aa.mk Cf
        clear Cf
        have H':=aa.mk H
        clear H
        try go_wp2
        have br:aa (Kd.R oS 97 ((oM.setCell ⟨bX,0,none⟩ (.slice fX dI.length fT)).setCell ⟨bX,1,none⟩ (.slice gi dS.length gf)) w.heap.size (fun _=>True) (.slice fo cz.length fp) cz):=⟨by (with_reducible repeat (first|apply Kd.aw|apply Kd.av|apply Kd.aA));exact Kd.bN (Kd.cg (p:=⟨bX,1,none⟩) (Kd.cg (p:=⟨bX,0,none⟩) (Kd.dL cj.out dn.out (by decide)) (fun _ hk=>hk.2) (.slice fX dI.length fT)) (fun _ hk=>hk.2) (.slice gi dS.length gf)) (fun _ hk=>trivial)⟩
        have bt:aa (Kd.R nD 36 ((oM.setCell ⟨bX,0,none⟩ (.slice fX dI.length fT)).setCell ⟨bX,1,none⟩ (.slice gi dS.length gf)) w.heap.size (fun _=>True) (.slice fu cq.length fw) cq):=⟨by (with_reducible repeat (first|apply Kd.aw|apply Kd.av|apply Kd.aA));exact Kd.bN (Kd.cg (p:=⟨bX,1,none⟩) (Kd.cg (p:=⟨bX,0,none⟩) (Kd.dL cl.out dn.out (by decide)) (fun _ hk=>hk.2) (.slice fX dI.length fT)) (fun _ hk=>hk.2) (.slice gi dS.length gf)) (fun _ hk=>trivial)⟩
        have bA:aa (Kd.R (Kd.int .i64) 3 ((oM.setCell ⟨bX,0,none⟩ (.slice fX dI.length fT)).setCell ⟨bX,1,none⟩ (.slice gi dS.length gf)) w.heap.size (fun k_=>some k_≠(gK:Value).ownBlock∧some k_≠(.slice fX dI.length fT:Value).ownBlock∧some k_≠(.slice gi dS.length gf:Value).ownBlock) gJ jd):=⟨by (with_reducible repeat (first|apply Kd.aw|apply Kd.av|apply Kd.aA));exact Kd.bN (Kd.cg (p:=⟨bX,1,none⟩) (Kd.cg (p:=⟨bX,0,none⟩) (Kd.dL cV.out dn.out (by decide)) (fun _ hk=>hk.2) (.slice fX dI.length fT)) (fun _ hk=>hk.2) (.slice gi dS.length gf)) (fun _ hk=>⟨hk.1.1,⟨hk.1.2.1,hk.1.2.2⟩⟩)⟩
        have bK:aa (Kd.R (Kd.int .i64) 3 ((oM.setCell ⟨bX,0,none⟩ (.slice fX dI.length fT)).setCell ⟨bX,1,none⟩ (.slice gi dS.length gf)) w.heap.size (fun k_=>some k_≠(gJ:Value).ownBlock∧some k_≠(.slice fX dI.length fT:Value).ownBlock∧some k_≠(.slice gi dS.length gf:Value).ownBlock) gK iY):=⟨by (with_reducible repeat (first|apply Kd.aw|apply Kd.av|apply Kd.aA));exact Kd.bN (Kd.cg (p:=⟨bX,1,none⟩) (Kd.cg (p:=⟨bX,0,none⟩) (Kd.dL dx.out dn.out (by decide)) (fun _ hk=>hk.2) (.slice fX dI.length fT)) (fun _ hk=>hk.2) (.slice gi dS.length gf)) (fun _ hk=>⟨hk.1.1,⟨hk.1.2.1,hk.1.2.2⟩⟩)⟩
        have cL:aa (Kd.V (Kd.int .i64) 3 ((oM.setCell ⟨bX,0,none⟩ (.slice fX dI.length fT)).setCell ⟨bX,1,none⟩ (.slice gi dS.length gf)) w.heap.size (fun k_=>some k_≠(.slice fo cz.length fp:Value).ownBlock∧some k_≠(.slice fu cq.length fw:Value).ownBlock∧some k_≠(gJ:Value).ownBlock∧some k_≠(gK:Value).ownBlock∧some k_≠(.slice fX dI.length fT:Value).ownBlock∧some k_≠(.slice gi dS.length gf:Value).ownBlock∧k_≠bE∧k_≠bZ∧k_≠bX) (.slice iF eE.length iG) eE):=⟨by (with_reducible repeat (first|apply Kd.cS|apply Kd.cT|apply Kd.dB));exact Kd.fM (Kd.kF (p:=⟨bX,1,none⟩) (Kd.kF (p:=⟨bX,0,none⟩) (Kd.fM d8.out (fun k_ hk=>(⟨hk,hk.2.2.2.2.2.2.2.2⟩:_∧k_≠bX))) (fun _ hk=>hk.2) (.slice fX dI.length fT)) (fun _ hk=>hk.2) (.slice gi dS.length gf)) (fun _ hk=>⟨hk.1.1,⟨hk.1.2.1,⟨hk.1.2.2.1,⟨hk.1.2.2.2.1,⟨hk.1.2.2.2.2.1,⟨hk.1.2.2.2.2.2.1,⟨hk.1.2.2.2.2.2.2.1,⟨hk.1.2.2.2.2.2.2.2.1,hk.1.2.2.2.2.2.2.2.2⟩⟩⟩⟩⟩⟩⟩⟩)⟩
        have dc:aa (Kd.V (Kd.int .i64) 3 ((oM.setCell ⟨bX,0,none⟩ (.slice fX dI.length fT)).setCell ⟨bX,1,none⟩ (.slice gi dS.length gf)) w.heap.size (fun k_=>some k_≠(.slice fo cz.length fp:Value).ownBlock∧some k_≠(.slice fu cq.length fw:Value).ownBlock∧some k_≠(gJ:Value).ownBlock∧some k_≠(gK:Value).ownBlock∧some k_≠(.slice fX dI.length fT:Value).ownBlock∧some k_≠(.slice gi dS.length gf:Value).ownBlock∧k_≠bE∧k_≠bZ∧k_≠bX) (.slice je eG.length jf) eG):=⟨by (with_reducible repeat (first|apply Kd.cS|apply Kd.cT|apply Kd.dB));exact Kd.fM (Kd.kF (p:=⟨bX,1,none⟩) (Kd.kF (p:=⟨bX,0,none⟩) (Kd.fM dX.out (fun k_ hk=>(⟨hk,hk.2.2.2.2.2.2.2.2⟩:_∧k_≠bX))) (fun _ hk=>hk.2) (.slice fX dI.length fT)) (fun _ hk=>hk.2) (.slice gi dS.length gf)) (fun _ hk=>⟨hk.1.1,⟨hk.1.2.1,⟨hk.1.2.2.1,⟨hk.1.2.2.2.1,⟨hk.1.2.2.2.2.1,⟨hk.1.2.2.2.2.2.1,⟨hk.1.2.2.2.2.2.2.1,⟨hk.1.2.2.2.2.2.2.2.1,hk.1.2.2.2.2.2.2.2.2⟩⟩⟩⟩⟩⟩⟩⟩)⟩
        have dQ:aa (Kd.R (Kd.int .i64) 3 ((oM.setCell ⟨bX,0,none⟩ (.slice fX dI.length fT)).setCell ⟨bX,1,none⟩ (.slice gi dS.length gf)) w.heap.size (fun k_=>some k_≠(gJ:Value).ownBlock∧some k_≠(gK:Value).ownBlock∧some k_≠(.slice gi dS.length gf:Value).ownBlock) (.slice fX dI.length fT) dI):=⟨by (with_reducible repeat (first|apply Kd.aw|apply Kd.av|apply Kd.aA));exact Kd.bN (Kd.cg (p:=⟨bX,1,none⟩) (Kd.cg (p:=⟨bX,0,none⟩) (Kd.dL fL.out dn.out (by decide)) (fun _ hk=>hk.2) (.slice fX dI.length fT)) (fun _ hk=>hk.2) (.slice gi dS.length gf)) (fun _ hk=>⟨hk.1.1,⟨hk.1.2.1,hk.1.2.2⟩⟩)⟩
        have gL:aa (Kd.R (Kd.int .i64) 3 ((oM.setCell ⟨bX,0,none⟩ (.slice fX dI.length fT)).setCell ⟨bX,1,none⟩ (.slice gi dS.length gf)) w.heap.size (fun k_=>some k_≠(gJ:Value).ownBlock∧some k_≠(gK:Value).ownBlock∧some k_≠(.slice fX dI.length fT:Value).ownBlock) (.slice gi dS.length gf) dS):=⟨by (with_reducible repeat (first|apply Kd.aw|apply Kd.av|apply Kd.aA));exact Kd.bN (Kd.cg (p:=⟨bX,1,none⟩) (Kd.cg (p:=⟨bX,0,none⟩) (Kd.dL gR.out dn.out (by decide)) (fun _ hk=>hk.2) (.slice fX dI.length fT)) (fun _ hk=>hk.2) (.slice gi dS.length gf)) (fun _ hk=>⟨hk.1.1,⟨hk.1.2.1,hk.1.2.2⟩⟩)⟩
        have hY:aa (((oM.setCell ⟨bX,0,none⟩ (.slice fX dI.length fT)).setCell ⟨bX,1,none⟩ (.slice gi dS.length gf)).heap[bE]? =some (.cells #[.int .i64 cU,.slice fo cz.length fp,.slice fu cq.length fw] 26 (0,0))):=⟨by (with_reducible repeat (first|refine ak ?_ _|refine aq ?_|refine aj ?_ _));refine cI ?_ hD.out _;(with_reducible repeat (first|refine ak ?_ _|refine aq ?_|refine aj ?_ _));refine cI ?_ hD.out _;(with_reducible repeat (first|refine ak ?_ _|refine aq ?_|refine aj ?_ _));exact bo.out⟩
        have jv:aa (((oM.setCell ⟨bX,0,none⟩ (.slice fX dI.length fT)).setCell ⟨bX,1,none⟩ (.slice gi dS.length gf)).heap[bZ]? =some (.cells #[.slice iF eE.length iG,.slice je eG.length jf] 41 (0,0))):=⟨by (with_reducible repeat (first|refine ak ?_ _|refine aq ?_|refine aj ?_ _));refine cI ?_ gj.out _;(with_reducible repeat (first|refine ak ?_ _|refine aq ?_|refine aj ?_ _));refine cI ?_ gj.out _;(with_reducible repeat (first|refine ak ?_ _|refine aq ?_|refine aj ?_ _));exact bV.out⟩
        have fz:aa (((oM.setCell ⟨bX,0,none⟩ (.slice fX dI.length fT)).setCell ⟨bX,1,none⟩ (.slice gi dS.length gf)).heap[bX]? =some (.cells #[.slice fX dI.length fT,.slice gi dS.length gf] 41 (0,0))):=⟨by (with_reducible repeat (first|refine ak ?_ _|refine aq ?_|refine aj ?_ _));refine df (cs:=#[.slice fX dI.length fT,.slice none 0 0]) ?_ 1 _ rfl;(with_reducible repeat (first|refine ak ?_ _|refine aq ?_|refine aj ?_ _));refine df (cs:=#[.slice none 0 0,.slice none 0 0]) ?_ 0 _ rfl;(with_reducible repeat (first|refine ak ?_ _|refine aq ?_|refine aj ?_ _));exact dn.out⟩
        have fO:aa (Below w.heap.size w ((oM.setCell ⟨bX,0,none⟩ (.slice fX dI.length fT)).setCell ⟨bX,1,none⟩ (.slice gi dS.length gf))):=⟨by repeat (first|(with_reducible first|exact HB.out|apply ae|apply ab|apply af|refine ai ?_ d7.out|refine ai ?_ fV.out|refine ai ?_ iK.out)|exact HB.out)⟩
        (try clear cj);(try clear cl);(try clear cV);(try clear dx);(try clear d8);(try clear dX);(try clear fL);(try clear gR);(try clear bo);(try clear bV);(try clear dn);(try clear HB)
        generalize ((oM.setCell ⟨bX,0,none⟩ (.slice fX dI.length fT)).setCell ⟨bX,1,none⟩ (.slice gi dS.length gf))=uO at br bt bA bK cL dc dQ gL hY jv fz fO ⊢
        have cj:=br;have cl:=bt;have cV:=bA;have dx:=bK;have d8:=cL;have dX:=dc;have fL:=dQ;have gR:=gL;have bo:=hY;have bV:=jv;have dn:=fz;have HB:=fO
        clear br bt bA bK cL dc dQ gL hY jv fz fO
        (try (rw [mR uO];generalize hq_:World.drewN uO _=uO;have br:aa (Kd.R oS 97 uO w.heap.size (fun _=>True) (.slice fo cz.length fp) cz):=⟨by rw [← hq_];exact (by (with_reducible repeat (first|apply Kd.aw|apply Kd.av|apply Kd.aA));exact cj.out)⟩;have bt:aa (Kd.R nD 36 uO w.heap.size (fun _=>True) (.slice fu cq.length fw) cq):=⟨by rw [← hq_];exact (by (with_reducible repeat (first|apply Kd.aw|apply Kd.av|apply Kd.aA));exact cl.out)⟩;have bA:aa (Kd.R (Kd.int .i64) 3 uO w.heap.size (fun k_=>some k_≠(gK:Value).ownBlock∧some k_≠(.slice fX dI.length fT:Value).ownBlock∧some k_≠(.slice gi dS.length gf:Value).ownBlock) gJ jd):=⟨by rw [← hq_];exact (by (with_reducible repeat (first|apply Kd.aw|apply Kd.av|apply Kd.aA));exact cV.out)⟩;have bK:aa (Kd.R (Kd.int .i64) 3 uO w.heap.size (fun k_=>some k_≠(gJ:Value).ownBlock∧some k_≠(.slice fX dI.length fT:Value).ownBlock∧some k_≠(.slice gi dS.length gf:Value).ownBlock) gK iY):=⟨by rw [← hq_];exact (by (with_reducible repeat (first|apply Kd.aw|apply Kd.av|apply Kd.aA));exact dx.out)⟩;have cL:aa (Kd.V (Kd.int .i64) 3 uO w.heap.size (fun k_=>some k_≠(.slice fo cz.length fp:Value).ownBlock∧some k_≠(.slice fu cq.length fw:Value).ownBlock∧some k_≠(gJ:Value).ownBlock∧some k_≠(gK:Value).ownBlock∧some k_≠(.slice fX dI.length fT:Value).ownBlock∧some k_≠(.slice gi dS.length gf:Value).ownBlock∧k_≠bE∧k_≠bZ∧k_≠bX) (.slice iF eE.length iG) eE):=⟨by rw [← hq_];exact (by (with_reducible repeat (first|apply Kd.cS|apply Kd.cT|apply Kd.dB));exact d8.out)⟩;have dc:aa (Kd.V (Kd.int .i64) 3 uO w.heap.size (fun k_=>some k_≠(.slice fo cz.length fp:Value).ownBlock∧some k_≠(.slice fu cq.length fw:Value).ownBlock∧some k_≠(gJ:Value).ownBlock∧some k_≠(gK:Value).ownBlock∧some k_≠(.slice fX dI.length fT:Value).ownBlock∧some k_≠(.slice gi dS.length gf:Value).ownBlock∧k_≠bE∧k_≠bZ∧k_≠bX) (.slice je eG.length jf) eG):=⟨by rw [← hq_];exact (by (with_reducible repeat (first|apply Kd.cS|apply Kd.cT|apply Kd.dB));exact dX.out)⟩;have dQ:aa (Kd.R (Kd.int .i64) 3 uO w.heap.size (fun k_=>some k_≠(gJ:Value).ownBlock∧some k_≠(gK:Value).ownBlock∧some k_≠(.slice gi dS.length gf:Value).ownBlock) (.slice fX dI.length fT) dI):=⟨by rw [← hq_];exact (by (with_reducible repeat (first|apply Kd.aw|apply Kd.av|apply Kd.aA));exact fL.out)⟩;have gL:aa (Kd.R (Kd.int .i64) 3 uO w.heap.size (fun k_=>some k_≠(gJ:Value).ownBlock∧some k_≠(gK:Value).ownBlock∧some k_≠(.slice fX dI.length fT:Value).ownBlock) (.slice gi dS.length gf) dS):=⟨by rw [← hq_];exact (by (with_reducible repeat (first|apply Kd.aw|apply Kd.av|apply Kd.aA));exact gR.out)⟩;have hY:aa (uO.heap[bE]? =some (.cells #[.int .i64 cU,.slice fo cz.length fp,.slice fu cq.length fw] 26 (0,0))):=⟨by rw [← hq_];exact (by (with_reducible repeat (first|refine ak ?_ _|refine aq ?_|refine aj ?_ _));exact bo.out)⟩;have jv:aa (uO.heap[bZ]? =some (.cells #[.slice iF eE.length iG,.slice je eG.length jf] 41 (0,0))):=⟨by rw [← hq_];exact (by (with_reducible repeat (first|refine ak ?_ _|refine aq ?_|refine aj ?_ _));exact bV.out)⟩;have fz:aa (uO.heap[bX]? =some (.cells #[.slice fX dI.length fT,.slice gi dS.length gf] 41 (0,0))):=⟨by rw [← hq_];exact (by (with_reducible repeat (first|refine ak ?_ _|refine aq ?_|refine aj ?_ _));exact dn.out)⟩;have fO:aa (Below w.heap.size w uO):=⟨by rw [← hq_];exact (by repeat (first|(with_reducible first|exact HB.out|apply ae|apply ab|apply af|refine ai ?_ d7.out|refine ai ?_ fV.out|refine ai ?_ iK.out)|exact HB.out))⟩;clear cj cl cV dx d8 dX fL gR bo bV dn HB hq_;have cj:=br;have cl:=bt;have cV:=bA;have dx:=bK;have d8:=cL;have dX:=dc;have fL:=dQ;have gR:=gL;have bo:=hY;have bV:=jv;have dn:=fz;have HB:=fO;clear br bt bA bK cL dc dQ gL hY jv fz fO))
        have br:=aa.mk (Kd.aA cj.out)
        have bt:=aa.mk (Kd.aA cl.out)
        have bA:=aa.mk (Kd.aA cV.out)
        have bK:=aa.mk (Kd.aA dx.out)
        have cL:=aa.mk (Kd.dB d8.out)
        have dc:=aa.mk (Kd.dB dX.out)
        have dQ:=aa.mk (Kd.aA fL.out)
        have gL:=aa.mk (Kd.aA gR.out)
        have hY:=aa.mk (aq bo.out)
        have jv:=aa.mk (aq bV.out)
        have fz:=aa.mk (aq dn.out)
        have fO:=aa.mk (af HB.out)
        clear cj cl cV dx d8 dX fL gR bo bV dn HB
        have cj:=br;have cl:=bt;have cV:=bA;have dx:=bK;have d8:=cL;have dX:=dc;have fL:=dQ;have gR:=gL;have bo:=hY;have bV:=jv;have dn:=fz;have HB:=fO
        clear br bt bA bK cL dc dQ gL hY jv fz fO
        refine ju (n:=12) (S:=fun w'=>w'.cell? ⟨bX,0,none⟩=some (.slice fX dI.length fT)∧w'.cell? ⟨bX,1,none⟩=some (.slice gi dS.length gf)∧w'.cell? ⟨bE,0,none⟩=some (.int .i64 cU)∧w'.cell? ⟨bE,1,none⟩=some (.slice fo cz.length fp)∧w'.cell? ⟨bE,2,none⟩=some (.slice fu cq.length fw)) (ds:=[11]) #[false,false,false,false,false,false,false,false,false,false,false,false] (by kernel_rfl) rfl rfl ⟨(ag dn.out 0).trans rfl,(ag dn.out 1).trans rfl,(ag bo.out 0).trans rfl,(ag bo.out 1).trans rfl,(ag bo.out 2).trans rfl⟩ (fun hHeld=> ?_);refine fN ay.aab ay.RD (fun HT_ HW_=> ?_)
        generalize uO.drew=w53 at cj cl cV dx d8 dX fL gR bo bV dn HB hHeld ⊢
        refine bP (i:=0) (N:=some 63) (v:= ?_) (a':= ?_) #[true,false,false,false,false,false,false,false,false,false,false,false] rfl rfl (bz HT_.out (by kernel_rfl)) (fun _ _ _ h=>h) (Or.inl ⟨by rfl, ?_⟩) ?_ ?_
        rotate_left
        ·intro w'
         go_simp
         with_reducible rfl
        rotate_left
        ·simp only [Act.put,dg,dh,di,aY,a9]
         rfl
        refine bP (i:=2) (N:=some 65) (v:= ?_) (a':= ?_) #[true,false,true,false,false,false,false,false,false,false,false,false] rfl rfl (bz HT_.out (by kernel_rfl)) (fun _ _ _ h=>h) (Or.inl ⟨by rfl, ?_⟩) ?_ ?_
        rotate_left
        ·intro w'
         go_simp
         with_reducible rfl
        rotate_left
        ·simp only [Act.put,dg,dh,di,aY,a9]
         rfl
        refine bP (i:=3) (N:=some 66) (v:= ?_) (a':= ?_) #[true,false,true,true,false,false,false,false,false,false,false,false] rfl rfl (bz HT_.out (by kernel_rfl)) (fun _ _ _ h=>h) (Or.inl ⟨by rfl, ?_⟩) ?_ ?_
        rotate_left
        ·intro w'
         go_simp
         with_reducible rfl
        rotate_left
        ·simp only [Act.put,dg,dh,di,aY,a9]
         rfl
        refine bP (i:=4) (N:=some 67) (v:= ?_) (a':= ?_) #[true,false,true,true,true,false,false,false,false,false,false,false] rfl rfl (bz HT_.out (by kernel_rfl)) (fun _ _ _ h=>h) (Or.inl ⟨by rfl, ?_⟩) ?_ ?_
        rotate_left
        ·intro w'
         go_simp
         with_reducible rfl
        rotate_left
        ·simp only [Act.put,dg,dh,di,aY,a9]
         rfl
        refine bP (i:=5) (N:=some 68) (v:= ?_) (a':= ?_) #[true,false,true,true,true,true,false,false,false,false,false,false] rfl rfl (bz HT_.out (by kernel_rfl)) (fun _ _ _ h=>h) (Or.inl ⟨by rfl, ?_⟩) ?_ ?_
        rotate_left
        ·intro w'
         go_simp
         with_reducible rfl
        rotate_left
        ·simp only [Act.put,dg,dh,di,aY,a9]
         rfl
        refine eL (i:=1) (N:=some 64) (v:= ?_) (a':= ?_) #[true,true,true,true,true,true,false,false,false,false,false,false] rfl rfl (cO HT_.out HW_.out (by kernel_rfl)) (fun _ _ _ h=>h) (Or.inl ⟨by rfl, ?_⟩) hHeld ?_ ?_
        rotate_left
        ·rintro w' ⟨s0,s1,s2,s3,s4⟩
         go_simp
         with_reducible rfl
        rotate_left
        ·simp only [Act.put,dg,dh,di,aY,a9]
         rfl
        refine eL (i:=6) (N:=some 69) (v:= ?_) (a':= ?_) #[true,true,true,true,true,true,true,false,false,false,false,false] rfl rfl (cO HT_.out HW_.out (by kernel_rfl)) (fun _ _ _ h=>h) (Or.inl ⟨by rfl, ?_⟩) hHeld ?_ ?_
        rotate_left
        ·rintro w' ⟨s0,s1,s2,s3,s4⟩
         go_simp
         with_reducible rfl
        rotate_left
        ·simp only [Act.put,dg,dh,di,aY,a9]
         rfl
        refine bP (i:=7) (N:=some 70) (v:= ?_) (a':= ?_) #[true,true,true,true,true,true,true,true,false,false,false,false] rfl rfl (bz HT_.out (by kernel_rfl)) (fun _ _ _ h=>h) (Or.inl ⟨by rfl, ?_⟩) ?_ ?_
        rotate_left
        ·intro w'
         go_simp
         with_reducible rfl
        rotate_left
        ·simp only [Act.put,dg,dh,di,aY,a9]
         rfl
        refine bP (i:=8) (N:=some 71) (v:= ?_) (a':= ?_) #[true,true,true,true,true,true,true,true,true,false,false,false] rfl rfl (bz HT_.out (by kernel_rfl)) (fun _ _ _ h=>h) (Or.inl ⟨by rfl, ?_⟩) ?_ ?_
        rotate_left
        ·intro w'
         go_simp
         with_reducible rfl
        rotate_left
        ·simp only [Act.put,dg,dh,di,aY,a9]
         rfl
        refine iP (i:=9) (N:=some 72) #[true,true,true,true,true,true,true,true,true,true,false,false] rfl rfl (dZ HT_.out (by kernel_rfl)) (by decide) (fun K hK=> ?_)
        refine mA Try.func34 (by kernel_rfl) rfl #[.int .i64 (wrap64 (Int.tdiv a5 2)),.int .i64 (wrap64 ((cq.length:Int)+1))] (by rfl) rfl rfl (by (try simp only [List.map_toArray,List.map_cons,List.map_nil]);first|done|rfl|(simp only [List.length_drop,List.length_take];rfl)) ?_
        with_reducible refine (bw.calls (wrap64 (Int.tdiv a5 2)) (wrap64 ((cq.length:Int)+1)) mf _ A48.out).mono ?_
        rintro e w' ⟨rfl,⟨nd,rfl⟩⟩
        refine ⟨_,rfl, ?_⟩
        have R2:0≤(eA:Int):=of_decide_eq_true (by assumption)
        have R3:(eA:Int)<((dI.length:Int):Int):=of_decide_eq_true (by assumption)
        obtain ⟨uD,aew,R4,R5,aah,aex,R6⟩:=Kd.mP fL.out (by first|omega|(have hz_:=(Kd.bf fL.out).1;omega))
        (first|cases R4|(injection R4 with ea_ en_ ec_;(first|subst ea_|(injection ea_ with ea_;subst ea_));subst ec_;clear en_))
        have aai:=aa.mk R5
        have R7:=aa.mk R6
        clear R5 aah R6
        obtain ⟨OP,aaj⟩:=Kd.jq 0 fL.out (eA:Int) R2 R3
        replace R2:=eq_true R2
        replace R3:=eq_true R3
        have OQ:=Kd.Gn fL.out (eA:Int) mf
        rw [← RZ.out] at OQ
        have aak:=aa.mk OQ
        clear OQ
        refine hK.out _ _ ⟨(ag dn.out 0).trans rfl,(ag dn.out 1).trans rfl,(ag bo.out 0).trans rfl,(ag bo.out 1).trans rfl,(ag bo.out 2).trans rfl⟩ (fun hHeld=> ?_)
        clear hK K
        refine eM (a':= ?_) ?_ ?_
        rotate_left
        ·show Act.put _ (some 72) _=_
         simp only [Act.put,dg,dh,di,aY,a9]
         rfl
        refine bP (i:=10) (N:=some 73) (v:= ?_) (a':= ?_) #[true,true,true,true,true,true,true,true,true,true,true,false] rfl rfl (bz HT_.out (by kernel_rfl)) (fun _ _ _ h=>h) (Or.inl ⟨by rfl, ?_⟩) ?_ ?_
        rotate_left
        ·intro w'
         go_simp
         with_reducible rfl
        rotate_left
        ·simp only [Act.put,dg,dh,di,aY,a9]
         rfl
        refine qz (i:=11) (N:=none) #[true,true,true,true,true,true,true,true,true,true,true,true] rfl rfl (dZ HT_.out (by kernel_rfl)) (by decide) (fun K hK=> ?_)
        refine oz (w1:= ?_) (by rfl) rfl ?_ ?_
        rotate_left
        ·go_simp
         rfl
        refine hK.out _ _ ?_
        clear hK K
        refine j1 (gD HT_.out (by kernel_rfl)) ?_
        try go_wp2
        go_meet
        case rel=>exact ⟨_,(jd),(iY),(eE),(eG),(RY),(dS),(.slice iF eE.length iG),(.slice je eG.length jf),(.slice (some ⟨uD,0,none⟩) dI.length fT),(.slice gi dS.length gf),H',⟨by first|omega|exact Nat.le_refl _⟩,⟨by (with_reducible repeat (first|apply Kd.aw|apply Kd.av|apply Kd.aA));exact Kd.bN (Kd.cg (p:=⟨uD,(eA:Int).toNat,none⟩) (Kd.bN cV.out (fun k_ hk=>(⟨hk,fun e_=>hk.2.1 (by rw [e_];rfl)⟩:_∧k_≠uD))) (fun _ hk=>hk.2) (.int .i64 mf)) (fun _ hk=>⟨hk.1.1,⟨hk.1.2.1,hk.1.2.2⟩⟩)⟩,⟨by (with_reducible repeat (first|apply Kd.aw|apply Kd.av|apply Kd.aA));exact Kd.bN (Kd.cg (p:=⟨uD,(eA:Int).toNat,none⟩) (Kd.bN dx.out (fun k_ hk=>(⟨hk,fun e_=>hk.2.1 (by rw [e_];rfl)⟩:_∧k_≠uD))) (fun _ hk=>hk.2) (.int .i64 mf)) (fun _ hk=>⟨hk.1.1,⟨hk.1.2.1,hk.1.2.2⟩⟩)⟩,⟨by (with_reducible repeat (first|apply Kd.aw|apply Kd.av|apply Kd.aA));exact Kd.bN (Kd.cg (p:=⟨uD,(eA:Int).toNat,none⟩) (Kd.dL cj.out R7.out (by decide)) (fun _ hk=>hk.2) (.int .i64 mf)) (fun _ hk=>trivial)⟩,⟨by (with_reducible repeat (first|apply Kd.aw|apply Kd.av|apply Kd.aA));exact Kd.bN (Kd.cg (p:=⟨uD,(eA:Int).toNat,none⟩) (Kd.dL cl.out R7.out (by decide)) (fun _ hk=>hk.2) (.int .i64 mf)) (fun _ hk=>trivial)⟩,⟨by (with_reducible repeat (first|apply Kd.cS|apply Kd.cT|apply Kd.dB));exact Kd.fM (Kd.kF (p:=⟨uD,(eA:Int).toNat,none⟩) (Kd.fM d8.out (fun k_ hk=>(⟨hk,fun e_=>hk.2.2.2.2.1 (by rw [e_];rfl)⟩:_∧k_≠uD))) (fun _ hk=>hk.2) (.int .i64 mf)) (fun _ hk=>⟨hk.1.2.2.1,⟨hk.1.2.2.2.1,⟨hk.1.1,⟨hk.1.2.1,⟨hk.1.2.2.2.2.1,⟨hk.1.2.2.2.2.2.1,⟨hk.1.2.2.2.2.2.2.1,⟨hk.1.2.2.2.2.2.2.2.1,hk.1.2.2.2.2.2.2.2.2⟩⟩⟩⟩⟩⟩⟩⟩)⟩,⟨by (with_reducible repeat (first|apply Kd.cS|apply Kd.cT|apply Kd.dB));exact Kd.fM (Kd.kF (p:=⟨uD,(eA:Int).toNat,none⟩) (Kd.fM dX.out (fun k_ hk=>(⟨hk,fun e_=>hk.2.2.2.2.1 (by rw [e_];rfl)⟩:_∧k_≠uD))) (fun _ hk=>hk.2) (.int .i64 mf)) (fun _ hk=>⟨hk.1.2.2.1,⟨hk.1.2.2.2.1,⟨hk.1.1,⟨hk.1.2.1,⟨hk.1.2.2.2.2.1,⟨hk.1.2.2.2.2.2.1,⟨hk.1.2.2.2.2.2.2.1,⟨hk.1.2.2.2.2.2.2.2.1,hk.1.2.2.2.2.2.2.2.2⟩⟩⟩⟩⟩⟩⟩⟩)⟩,⟨by (with_reducible repeat (first|apply Kd.aw|apply Kd.av|apply Kd.aA));exact aak.out⟩,⟨by (with_reducible repeat (first|apply Kd.aw|apply Kd.av|apply Kd.aA));exact Kd.bN (Kd.cg (p:=⟨uD,(eA:Int).toNat,none⟩) (Kd.bN gR.out (fun k_ hk=>(⟨hk,fun e_=>hk.2.2 (by rw [e_];rfl)⟩:_∧k_≠uD))) (fun _ hk=>hk.2) (.int .i64 mf)) (fun _ hk=>⟨hk.1.1,⟨hk.1.2.1,hk.1.2.2⟩⟩)⟩,⟨by (with_reducible repeat (first|refine ak ?_ _|refine aq ?_|refine aj ?_ _));refine cI ?_ (by have h_:=Kd.mz fL.out bo.out (by decide);intro e_;exact h_ (by rw [e_];rfl)) _;(with_reducible repeat (first|refine ak ?_ _|refine aq ?_|refine aj ?_ _));exact bo.out⟩,⟨by (with_reducible repeat (first|refine ak ?_ _|refine aq ?_|refine aj ?_ _));refine cI ?_ (by have h_:=Kd.mz fL.out bV.out (by decide);intro e_;exact h_ (by rw [e_];rfl)) _;(with_reducible repeat (first|refine ak ?_ _|refine aq ?_|refine aj ?_ _));exact bV.out⟩,⟨by (with_reducible repeat (first|refine ak ?_ _|refine aq ?_|refine aj ?_ _));refine cI ?_ (by have h_:=Kd.mz fL.out dn.out (by decide);intro e_;exact h_ (by rw [e_];rfl)) _;(with_reducible repeat (first|refine ak ?_ _|refine aq ?_|refine aj ?_ _));exact dn.out⟩,⟨by repeat (first|(with_reducible first|exact HB.out|apply ae|apply ab|apply af|refine ai ?_ aai.out|refine ai ?_ d7.out|refine ai ?_ fV.out|refine ai ?_ iK.out)|exact HB.out)⟩⟩
       rw [if_neg RX] at H
       exact absurd H (by simp)
      rw [if_neg RW] at H
      exact absurd H (by simp)
     rw [if_neg Mm] at H
     have c47b0:((Int.tmod a5 2)==0)=false:=beq_eq_false_iff_ne.mpr Mm
     have c47b1:((Int.tmod a5 2) !=0)=true:=bne_iff_ne.mpr Mm
     (first|rw [c47b0]|(simp only [aY,a9];rw [c47b0])|skip)
     replace H:=Option.bind_eq_some_iff.mp H
     obtain ⟨mg,R8,H⟩:=H
     replace H:(if 0≤eA then (if eA<(dS.length:Int) then (ay.j0 k jd iY cU cz cq eE eG dI (dS.set (eA:Int).toNat (wrap64 (mg - 2)))) else (none)) else (none))=some r:=H
     have A55:=aa.mk R8
     clear R8
     by_cases Ge:0≤eA
     ·rw [if_pos Ge] at H
      have c56b0:decide (0≤eA)=true:=decide_eq_true Ge
      clear Ge
      by_cases I2:eA<(dS.length:Int)
      ·rw [if_pos I2] at H
       have c57b0:decide (eA<(dS.length:Int))=true:=decide_eq_true I2
       clear I2
       obtain ⟨R9,Cg⟩:∃ y_:List Int,y_=(dS.set (eA:Int).toNat (wrap64 (mg - 2))):=⟨_,rfl⟩
       replace H:(ay.j0 k jd iY cU cz cq eE eG dI R9)=some r:=by first|(rw [Cg];with_reducible exact H)|(have gT:=(Option.bind_some _ _).symm.trans H;rw [Cg];with_reducible exact gT)|(have gT:=(Option.bind_some _ _).symm.trans H;with_reducible exact gT)|with_reducible exact H|(rw [Cg];exact H)|exact H
       have Sa:=aa.mk Cg
       clear Cg
       have H':=aa.mk H
       clear H
       try go_wp2
       have br:aa (Kd.R oS 97 ((oM.setCell ⟨bX,0,none⟩ (.slice fX dI.length fT)).setCell ⟨bX,1,none⟩ (.slice gi dS.length gf)) w.heap.size (fun _=>True) (.slice fo cz.length fp) cz):=⟨by (with_reducible repeat (first|apply Kd.aw|apply Kd.av|apply Kd.aA));exact Kd.bN (Kd.cg (p:=⟨bX,1,none⟩) (Kd.cg (p:=⟨bX,0,none⟩) (Kd.dL cj.out dn.out (by decide)) (fun _ hk=>hk.2) (.slice fX dI.length fT)) (fun _ hk=>hk.2) (.slice gi dS.length gf)) (fun _ hk=>trivial)⟩
       have bt:aa (Kd.R nD 36 ((oM.setCell ⟨bX,0,none⟩ (.slice fX dI.length fT)).setCell ⟨bX,1,none⟩ (.slice gi dS.length gf)) w.heap.size (fun _=>True) (.slice fu cq.length fw) cq):=⟨by (with_reducible repeat (first|apply Kd.aw|apply Kd.av|apply Kd.aA));exact Kd.bN (Kd.cg (p:=⟨bX,1,none⟩) (Kd.cg (p:=⟨bX,0,none⟩) (Kd.dL cl.out dn.out (by decide)) (fun _ hk=>hk.2) (.slice fX dI.length fT)) (fun _ hk=>hk.2) (.slice gi dS.length gf)) (fun _ hk=>trivial)⟩
       have bA:aa (Kd.R (Kd.int .i64) 3 ((oM.setCell ⟨bX,0,none⟩ (.slice fX dI.length fT)).setCell ⟨bX,1,none⟩ (.slice gi dS.length gf)) w.heap.size (fun k_=>some k_≠(gK:Value).ownBlock∧some k_≠(.slice fX dI.length fT:Value).ownBlock∧some k_≠(.slice gi dS.length gf:Value).ownBlock) gJ jd):=⟨by (with_reducible repeat (first|apply Kd.aw|apply Kd.av|apply Kd.aA));exact Kd.bN (Kd.cg (p:=⟨bX,1,none⟩) (Kd.cg (p:=⟨bX,0,none⟩) (Kd.dL cV.out dn.out (by decide)) (fun _ hk=>hk.2) (.slice fX dI.length fT)) (fun _ hk=>hk.2) (.slice gi dS.length gf)) (fun _ hk=>⟨hk.1.1,⟨hk.1.2.1,hk.1.2.2⟩⟩)⟩
       have bK:aa (Kd.R (Kd.int .i64) 3 ((oM.setCell ⟨bX,0,none⟩ (.slice fX dI.length fT)).setCell ⟨bX,1,none⟩ (.slice gi dS.length gf)) w.heap.size (fun k_=>some k_≠(gJ:Value).ownBlock∧some k_≠(.slice fX dI.length fT:Value).ownBlock∧some k_≠(.slice gi dS.length gf:Value).ownBlock) gK iY):=⟨by (with_reducible repeat (first|apply Kd.aw|apply Kd.av|apply Kd.aA));exact Kd.bN (Kd.cg (p:=⟨bX,1,none⟩) (Kd.cg (p:=⟨bX,0,none⟩) (Kd.dL dx.out dn.out (by decide)) (fun _ hk=>hk.2) (.slice fX dI.length fT)) (fun _ hk=>hk.2) (.slice gi dS.length gf)) (fun _ hk=>⟨hk.1.1,⟨hk.1.2.1,hk.1.2.2⟩⟩)⟩
       have cL:aa (Kd.V (Kd.int .i64) 3 ((oM.setCell ⟨bX,0,none⟩ (.slice fX dI.length fT)).setCell ⟨bX,1,none⟩ (.slice gi dS.length gf)) w.heap.size (fun k_=>some k_≠(.slice fo cz.length fp:Value).ownBlock∧some k_≠(.slice fu cq.length fw:Value).ownBlock∧some k_≠(gJ:Value).ownBlock∧some k_≠(gK:Value).ownBlock∧some k_≠(.slice fX dI.length fT:Value).ownBlock∧some k_≠(.slice gi dS.length gf:Value).ownBlock∧k_≠bE∧k_≠bZ∧k_≠bX) (.slice iF eE.length iG) eE):=⟨by (with_reducible repeat (first|apply Kd.cS|apply Kd.cT|apply Kd.dB));exact Kd.fM (Kd.kF (p:=⟨bX,1,none⟩) (Kd.kF (p:=⟨bX,0,none⟩) (Kd.fM d8.out (fun k_ hk=>(⟨hk,hk.2.2.2.2.2.2.2.2⟩:_∧k_≠bX))) (fun _ hk=>hk.2) (.slice fX dI.length fT)) (fun _ hk=>hk.2) (.slice gi dS.length gf)) (fun _ hk=>⟨hk.1.1,⟨hk.1.2.1,⟨hk.1.2.2.1,⟨hk.1.2.2.2.1,⟨hk.1.2.2.2.2.1,⟨hk.1.2.2.2.2.2.1,⟨hk.1.2.2.2.2.2.2.1,⟨hk.1.2.2.2.2.2.2.2.1,hk.1.2.2.2.2.2.2.2.2⟩⟩⟩⟩⟩⟩⟩⟩)⟩
       have dc:aa (Kd.V (Kd.int .i64) 3 ((oM.setCell ⟨bX,0,none⟩ (.slice fX dI.length fT)).setCell ⟨bX,1,none⟩ (.slice gi dS.length gf)) w.heap.size (fun k_=>some k_≠(.slice fo cz.length fp:Value).ownBlock∧some k_≠(.slice fu cq.length fw:Value).ownBlock∧some k_≠(gJ:Value).ownBlock∧some k_≠(gK:Value).ownBlock∧some k_≠(.slice fX dI.length fT:Value).ownBlock∧some k_≠(.slice gi dS.length gf:Value).ownBlock∧k_≠bE∧k_≠bZ∧k_≠bX) (.slice je eG.length jf) eG):=⟨by (with_reducible repeat (first|apply Kd.cS|apply Kd.cT|apply Kd.dB));exact Kd.fM (Kd.kF (p:=⟨bX,1,none⟩) (Kd.kF (p:=⟨bX,0,none⟩) (Kd.fM dX.out (fun k_ hk=>(⟨hk,hk.2.2.2.2.2.2.2.2⟩:_∧k_≠bX))) (fun _ hk=>hk.2) (.slice fX dI.length fT)) (fun _ hk=>hk.2) (.slice gi dS.length gf)) (fun _ hk=>⟨hk.1.1,⟨hk.1.2.1,⟨hk.1.2.2.1,⟨hk.1.2.2.2.1,⟨hk.1.2.2.2.2.1,⟨hk.1.2.2.2.2.2.1,⟨hk.1.2.2.2.2.2.2.1,⟨hk.1.2.2.2.2.2.2.2.1,hk.1.2.2.2.2.2.2.2.2⟩⟩⟩⟩⟩⟩⟩⟩)⟩
       have dQ:aa (Kd.R (Kd.int .i64) 3 ((oM.setCell ⟨bX,0,none⟩ (.slice fX dI.length fT)).setCell ⟨bX,1,none⟩ (.slice gi dS.length gf)) w.heap.size (fun k_=>some k_≠(gJ:Value).ownBlock∧some k_≠(gK:Value).ownBlock∧some k_≠(.slice gi dS.length gf:Value).ownBlock) (.slice fX dI.length fT) dI):=⟨by (with_reducible repeat (first|apply Kd.aw|apply Kd.av|apply Kd.aA));exact Kd.bN (Kd.cg (p:=⟨bX,1,none⟩) (Kd.cg (p:=⟨bX,0,none⟩) (Kd.dL fL.out dn.out (by decide)) (fun _ hk=>hk.2) (.slice fX dI.length fT)) (fun _ hk=>hk.2) (.slice gi dS.length gf)) (fun _ hk=>⟨hk.1.1,⟨hk.1.2.1,hk.1.2.2⟩⟩)⟩
       have gL:aa (Kd.R (Kd.int .i64) 3 ((oM.setCell ⟨bX,0,none⟩ (.slice fX dI.length fT)).setCell ⟨bX,1,none⟩ (.slice gi dS.length gf)) w.heap.size (fun k_=>some k_≠(gJ:Value).ownBlock∧some k_≠(gK:Value).ownBlock∧some k_≠(.slice fX dI.length fT:Value).ownBlock) (.slice gi dS.length gf) dS):=⟨by (with_reducible repeat (first|apply Kd.aw|apply Kd.av|apply Kd.aA));exact Kd.bN (Kd.cg (p:=⟨bX,1,none⟩) (Kd.cg (p:=⟨bX,0,none⟩) (Kd.dL gR.out dn.out (by decide)) (fun _ hk=>hk.2) (.slice fX dI.length fT)) (fun _ hk=>hk.2) (.slice gi dS.length gf)) (fun _ hk=>⟨hk.1.1,⟨hk.1.2.1,hk.1.2.2⟩⟩)⟩
       have hY:aa (((oM.setCell ⟨bX,0,none⟩ (.slice fX dI.length fT)).setCell ⟨bX,1,none⟩ (.slice gi dS.length gf)).heap[bE]? =some (.cells #[.int .i64 cU,.slice fo cz.length fp,.slice fu cq.length fw] 26 (0,0))):=⟨by (with_reducible repeat (first|refine ak ?_ _|refine aq ?_|refine aj ?_ _));refine cI ?_ hD.out _;(with_reducible repeat (first|refine ak ?_ _|refine aq ?_|refine aj ?_ _));refine cI ?_ hD.out _;(with_reducible repeat (first|refine ak ?_ _|refine aq ?_|refine aj ?_ _));exact bo.out⟩
       have jv:aa (((oM.setCell ⟨bX,0,none⟩ (.slice fX dI.length fT)).setCell ⟨bX,1,none⟩ (.slice gi dS.length gf)).heap[bZ]? =some (.cells #[.slice iF eE.length iG,.slice je eG.length jf] 41 (0,0))):=⟨by (with_reducible repeat (first|refine ak ?_ _|refine aq ?_|refine aj ?_ _));refine cI ?_ gj.out _;(with_reducible repeat (first|refine ak ?_ _|refine aq ?_|refine aj ?_ _));refine cI ?_ gj.out _;(with_reducible repeat (first|refine ak ?_ _|refine aq ?_|refine aj ?_ _));exact bV.out⟩
       have fz:aa (((oM.setCell ⟨bX,0,none⟩ (.slice fX dI.length fT)).setCell ⟨bX,1,none⟩ (.slice gi dS.length gf)).heap[bX]? =some (.cells #[.slice fX dI.length fT,.slice gi dS.length gf] 41 (0,0))):=⟨by (with_reducible repeat (first|refine ak ?_ _|refine aq ?_|refine aj ?_ _));refine df (cs:=#[.slice fX dI.length fT,.slice none 0 0]) ?_ 1 _ rfl;(with_reducible repeat (first|refine ak ?_ _|refine aq ?_|refine aj ?_ _));refine df (cs:=#[.slice none 0 0,.slice none 0 0]) ?_ 0 _ rfl;(with_reducible repeat (first|refine ak ?_ _|refine aq ?_|refine aj ?_ _));exact dn.out⟩
       have fO:aa (Below w.heap.size w ((oM.setCell ⟨bX,0,none⟩ (.slice fX dI.length fT)).setCell ⟨bX,1,none⟩ (.slice gi dS.length gf))):=⟨by repeat (first|(with_reducible first|exact HB.out|apply ae|apply ab|apply af|refine ai ?_ d7.out|refine ai ?_ fV.out|refine ai ?_ iK.out)|exact HB.out)⟩
       (try clear cj);(try clear cl);(try clear cV);(try clear dx);(try clear d8);(try clear dX);(try clear fL);(try clear gR);(try clear bo);(try clear bV);(try clear dn);(try clear HB)
       generalize ((oM.setCell ⟨bX,0,none⟩ (.slice fX dI.length fT)).setCell ⟨bX,1,none⟩ (.slice gi dS.length gf))=AZ at br bt bA bK cL dc dQ gL hY jv fz fO ⊢
       have cj:=br;have cl:=bt;have cV:=bA;have dx:=bK;have d8:=cL;have dX:=dc;have fL:=dQ;have gR:=gL;have bo:=hY;have bV:=jv;have dn:=fz;have HB:=fO
       clear br bt bA bK cL dc dQ gL hY jv fz fO
       (try (rw [mR AZ];generalize hq_:World.drewN AZ _=AZ;have br:aa (Kd.R oS 97 AZ w.heap.size (fun _=>True) (.slice fo cz.length fp) cz):=⟨by rw [← hq_];exact (by (with_reducible repeat (first|apply Kd.aw|apply Kd.av|apply Kd.aA));exact cj.out)⟩;have bt:aa (Kd.R nD 36 AZ w.heap.size (fun _=>True) (.slice fu cq.length fw) cq):=⟨by rw [← hq_];exact (by (with_reducible repeat (first|apply Kd.aw|apply Kd.av|apply Kd.aA));exact cl.out)⟩;have bA:aa (Kd.R (Kd.int .i64) 3 AZ w.heap.size (fun k_=>some k_≠(gK:Value).ownBlock∧some k_≠(.slice fX dI.length fT:Value).ownBlock∧some k_≠(.slice gi dS.length gf:Value).ownBlock) gJ jd):=⟨by rw [← hq_];exact (by (with_reducible repeat (first|apply Kd.aw|apply Kd.av|apply Kd.aA));exact cV.out)⟩;have bK:aa (Kd.R (Kd.int .i64) 3 AZ w.heap.size (fun k_=>some k_≠(gJ:Value).ownBlock∧some k_≠(.slice fX dI.length fT:Value).ownBlock∧some k_≠(.slice gi dS.length gf:Value).ownBlock) gK iY):=⟨by rw [← hq_];exact (by (with_reducible repeat (first|apply Kd.aw|apply Kd.av|apply Kd.aA));exact dx.out)⟩;have cL:aa (Kd.V (Kd.int .i64) 3 AZ w.heap.size (fun k_=>some k_≠(.slice fo cz.length fp:Value).ownBlock∧some k_≠(.slice fu cq.length fw:Value).ownBlock∧some k_≠(gJ:Value).ownBlock∧some k_≠(gK:Value).ownBlock∧some k_≠(.slice fX dI.length fT:Value).ownBlock∧some k_≠(.slice gi dS.length gf:Value).ownBlock∧k_≠bE∧k_≠bZ∧k_≠bX) (.slice iF eE.length iG) eE):=⟨by rw [← hq_];exact (by (with_reducible repeat (first|apply Kd.cS|apply Kd.cT|apply Kd.dB));exact d8.out)⟩;have dc:aa (Kd.V (Kd.int .i64) 3 AZ w.heap.size (fun k_=>some k_≠(.slice fo cz.length fp:Value).ownBlock∧some k_≠(.slice fu cq.length fw:Value).ownBlock∧some k_≠(gJ:Value).ownBlock∧some k_≠(gK:Value).ownBlock∧some k_≠(.slice fX dI.length fT:Value).ownBlock∧some k_≠(.slice gi dS.length gf:Value).ownBlock∧k_≠bE∧k_≠bZ∧k_≠bX) (.slice je eG.length jf) eG):=⟨by rw [← hq_];exact (by (with_reducible repeat (first|apply Kd.cS|apply Kd.cT|apply Kd.dB));exact dX.out)⟩;have dQ:aa (Kd.R (Kd.int .i64) 3 AZ w.heap.size (fun k_=>some k_≠(gJ:Value).ownBlock∧some k_≠(gK:Value).ownBlock∧some k_≠(.slice gi dS.length gf:Value).ownBlock) (.slice fX dI.length fT) dI):=⟨by rw [← hq_];exact (by (with_reducible repeat (first|apply Kd.aw|apply Kd.av|apply Kd.aA));exact fL.out)⟩;have gL:aa (Kd.R (Kd.int .i64) 3 AZ w.heap.size (fun k_=>some k_≠(gJ:Value).ownBlock∧some k_≠(gK:Value).ownBlock∧some k_≠(.slice fX dI.length fT:Value).ownBlock) (.slice gi dS.length gf) dS):=⟨by rw [← hq_];exact (by (with_reducible repeat (first|apply Kd.aw|apply Kd.av|apply Kd.aA));exact gR.out)⟩;have hY:aa (AZ.heap[bE]? =some (.cells #[.int .i64 cU,.slice fo cz.length fp,.slice fu cq.length fw] 26 (0,0))):=⟨by rw [← hq_];exact (by (with_reducible repeat (first|refine ak ?_ _|refine aq ?_|refine aj ?_ _));exact bo.out)⟩;have jv:aa (AZ.heap[bZ]? =some (.cells #[.slice iF eE.length iG,.slice je eG.length jf] 41 (0,0))):=⟨by rw [← hq_];exact (by (with_reducible repeat (first|refine ak ?_ _|refine aq ?_|refine aj ?_ _));exact bV.out)⟩;have fz:aa (AZ.heap[bX]? =some (.cells #[.slice fX dI.length fT,.slice gi dS.length gf] 41 (0,0))):=⟨by rw [← hq_];exact (by (with_reducible repeat (first|refine ak ?_ _|refine aq ?_|refine aj ?_ _));exact dn.out)⟩;have fO:aa (Below w.heap.size w AZ):=⟨by rw [← hq_];exact (by repeat (first|(with_reducible first|exact HB.out|apply ae|apply ab|apply af|refine ai ?_ d7.out|refine ai ?_ fV.out|refine ai ?_ iK.out)|exact HB.out))⟩;clear cj cl cV dx d8 dX fL gR bo bV dn HB hq_;have cj:=br;have cl:=bt;have cV:=bA;have dx:=bK;have d8:=cL;have dX:=dc;have fL:=dQ;have gR:=gL;have bo:=hY;have bV:=jv;have dn:=fz;have HB:=fO;clear br bt bA bK cL dc dQ gL hY jv fz fO))
       have br:=aa.mk (Kd.aA cj.out)
       have bt:=aa.mk (Kd.aA cl.out)
       have bA:=aa.mk (Kd.aA cV.out)
       have bK:=aa.mk (Kd.aA dx.out)
       have cL:=aa.mk (Kd.dB d8.out)
       have dc:=aa.mk (Kd.dB dX.out)
       have dQ:=aa.mk (Kd.aA fL.out)
       have gL:=aa.mk (Kd.aA gR.out)
       have hY:=aa.mk (aq bo.out)
       have jv:=aa.mk (aq bV.out)
       have fz:=aa.mk (aq dn.out)
       have fO:=aa.mk (af HB.out)
       clear cj cl cV dx d8 dX fL gR bo bV dn HB
       have cj:=br;have cl:=bt;have cV:=bA;have dx:=bK;have d8:=cL;have dX:=dc;have fL:=dQ;have gR:=gL;have bo:=hY;have bV:=jv;have dn:=fz;have HB:=fO
       clear br bt bA bK cL dc dQ gL hY jv fz fO
       refine ju (n:=9) (S:=fun w'=>w'.cell? ⟨bX,0,none⟩=some (.slice fX dI.length fT)∧w'.cell? ⟨bX,1,none⟩=some (.slice gi dS.length gf)) (ds:=[8]) #[false,false,false,false,false,false,false,false,false] (by kernel_rfl) rfl rfl ⟨(ag dn.out 0).trans rfl,(ag dn.out 1).trans rfl⟩ (fun hHeld=> ?_);refine fN ay.RE ay.OK (fun HT_ HW_=> ?_)
       generalize AZ.drew=xP at cj cl cV dx d8 dX fL gR bo bV dn HB hHeld ⊢
       refine bP (i:=0) (N:=some 74) (v:= ?_) (a':= ?_) #[true,false,false,false,false,false,false,false,false] rfl rfl (bz HT_.out (by kernel_rfl)) (fun _ _ _ h=>h) (Or.inl ⟨by rfl, ?_⟩) ?_ ?_
       rotate_left
       ·intro w'
        go_simp
        with_reducible rfl
       rotate_left
       ·simp only [Act.put,dg,dh,di,aY,a9]
        rfl
       refine bP (i:=2) (N:=some 76) (v:= ?_) (a':= ?_) #[true,false,true,false,false,false,false,false,false] rfl rfl (bz HT_.out (by kernel_rfl)) (fun _ _ _ h=>h) (Or.inl ⟨by rfl, ?_⟩) ?_ ?_
       rotate_left
       ·intro w'
        go_simp
        with_reducible rfl
       rotate_left
       ·simp only [Act.put,dg,dh,di,aY,a9]
        rfl
       refine bP (i:=3) (N:=some 77) (v:= ?_) (a':= ?_) #[true,false,true,true,false,false,false,false,false] rfl rfl (bz HT_.out (by kernel_rfl)) (fun _ _ _ h=>h) (Or.inl ⟨by rfl, ?_⟩) ?_ ?_
       rotate_left
       ·intro w'
        go_simp
        with_reducible rfl
       rotate_left
       ·simp only [Act.put,dg,dh,di,aY,a9]
        rfl
       refine bP (i:=4) (N:=some 78) (v:= ?_) (a':= ?_) #[true,false,true,true,true,false,false,false,false] rfl rfl (bz HT_.out (by kernel_rfl)) (fun _ _ _ h=>h) (Or.inl ⟨by rfl, ?_⟩) ?_ ?_
       rotate_left
       ·intro w'
        go_simp
        with_reducible rfl
       rotate_left
       ·simp only [Act.put,dg,dh,di,aY,a9]
        rfl
       refine eL (i:=1) (N:=some 75) (v:= ?_) (a':= ?_) #[true,true,true,true,true,false,false,false,false] rfl rfl (cO HT_.out HW_.out (by kernel_rfl)) (fun _ _ _ h=>h) (Or.inl ⟨by rfl, ?_⟩) hHeld ?_ ?_
       rotate_left
       ·rintro w' ⟨s0,s1⟩
        go_simp
        with_reducible rfl
       rotate_left
       ·simp only [Act.put,dg,dh,di,aY,a9]
        rfl
       refine iP (i:=5) (N:=some 79) #[true,true,true,true,true,true,false,false,false] rfl rfl (dZ HT_.out (by kernel_rfl)) (by decide) (fun K hK=> ?_)
       refine mA Try.func34 (by kernel_rfl) rfl #[.int .i64 (wrap64 (Int.tdiv a5 2)),.int .i64 4] (by rfl) rfl rfl (by (try simp only [List.map_toArray,List.map_cons,List.map_nil]);first|done|rfl|(simp only [List.length_drop,List.length_take];rfl)) ?_
       with_reducible refine (bw.calls (wrap64 (Int.tdiv a5 2)) 4 mg _ A55.out).mono ?_
       rintro e w' ⟨rfl,⟨nd,rfl⟩⟩
       refine ⟨_,rfl, ?_⟩
       have Sb:0≤(eA:Int):=of_decide_eq_true (by assumption)
       have Sc:(eA:Int)<((dS.length:Int):Int):=of_decide_eq_true (by assumption)
       obtain ⟨uE,aez,Sd,Sg,aal,aeA,Sh⟩:=Kd.mP gR.out (by first|omega|(have hz_:=(Kd.bf gR.out).1;omega))
       (first|cases Sd|(injection Sd with ea_ en_ ec_;(first|subst ea_|(injection ea_ with ea_;subst ea_));subst ec_;clear en_))
       have aam:=aa.mk Sg
       have Si:=aa.mk Sh
       clear Sg aal Sh
       obtain ⟨OT,aan⟩:=Kd.jq 0 gR.out (eA:Int) Sb Sc
       replace Sb:=eq_true Sb
       replace Sc:=eq_true Sc
       have OU:=Kd.Gn gR.out (eA:Int) (wrap64 (mg - 2))
       rw [← Sa.out] at OU
       have aao:=aa.mk OU
       clear OU
       refine hK.out _ _ ⟨(ag dn.out 0).trans rfl,(ag dn.out 1).trans rfl⟩ (fun hHeld=> ?_)
       clear hK K
       refine eM (a':= ?_) ?_ ?_
       rotate_left
       ·show Act.put _ (some 79) _=_
        simp only [Act.put,dg,dh,di,aY,a9]
        rfl
       refine bP (i:=6) (N:=some 80) (v:= ?_) (a':= ?_) #[true,true,true,true,true,true,true,false,false] rfl rfl (bz HT_.out (by kernel_rfl)) (fun _ _ _ h=>h) (Or.inl ⟨by rfl, ?_⟩) ?_ ?_
       rotate_left
       ·intro w'
        go_simp
        with_reducible rfl
       rotate_left
       ·simp only [Act.put,dg,dh,di,aY,a9]
        rfl
       refine bP (i:=7) (N:=some 81) (v:= ?_) (a':= ?_) #[true,true,true,true,true,true,true,true,false] rfl rfl (bz HT_.out (by kernel_rfl)) (fun _ _ _ h=>h) (Or.inl ⟨by rfl, ?_⟩) ?_ ?_
       rotate_left
       ·intro w'
        go_simp
        with_reducible rfl
       rotate_left
       ·simp only [Act.put,dg,dh,di,aY,a9]
        rfl
       refine qz (i:=8) (N:=none) #[true,true,true,true,true,true,true,true,true] rfl rfl (dZ HT_.out (by kernel_rfl)) (by decide) (fun K hK=> ?_)
       refine oz (w1:= ?_) (by rfl) rfl ?_ ?_
       rotate_left
       ·go_simp
        rfl
       refine hK.out _ _ ?_
       clear hK K
       refine j1 (gD HT_.out (by kernel_rfl)) ?_
       try go_wp2
       go_meet
       case rel=>exact ⟨_,(jd),(iY),(eE),(eG),(dI),(R9),(.slice iF eE.length iG),(.slice je eG.length jf),(.slice fX dI.length fT),(.slice (some ⟨uE,0,none⟩) dS.length gf),H',⟨by first|omega|exact Nat.le_refl _⟩,⟨by (with_reducible repeat (first|apply Kd.aw|apply Kd.av|apply Kd.aA));exact Kd.bN (Kd.cg (p:=⟨uE,(eA:Int).toNat,none⟩) (Kd.bN cV.out (fun k_ hk=>(⟨hk,fun e_=>hk.2.2 (by rw [e_];rfl)⟩:_∧k_≠uE))) (fun _ hk=>hk.2) (.int .i64 (wrap64 (mg - 2)))) (fun _ hk=>⟨hk.1.1,⟨hk.1.2.1,hk.1.2.2⟩⟩)⟩,⟨by (with_reducible repeat (first|apply Kd.aw|apply Kd.av|apply Kd.aA));exact Kd.bN (Kd.cg (p:=⟨uE,(eA:Int).toNat,none⟩) (Kd.bN dx.out (fun k_ hk=>(⟨hk,fun e_=>hk.2.2 (by rw [e_];rfl)⟩:_∧k_≠uE))) (fun _ hk=>hk.2) (.int .i64 (wrap64 (mg - 2)))) (fun _ hk=>⟨hk.1.1,⟨hk.1.2.1,hk.1.2.2⟩⟩)⟩,⟨by (with_reducible repeat (first|apply Kd.aw|apply Kd.av|apply Kd.aA));exact Kd.bN (Kd.cg (p:=⟨uE,(eA:Int).toNat,none⟩) (Kd.dL cj.out Si.out (by decide)) (fun _ hk=>hk.2) (.int .i64 (wrap64 (mg - 2)))) (fun _ hk=>trivial)⟩,⟨by (with_reducible repeat (first|apply Kd.aw|apply Kd.av|apply Kd.aA));exact Kd.bN (Kd.cg (p:=⟨uE,(eA:Int).toNat,none⟩) (Kd.dL cl.out Si.out (by decide)) (fun _ hk=>hk.2) (.int .i64 (wrap64 (mg - 2)))) (fun _ hk=>trivial)⟩,⟨by (with_reducible repeat (first|apply Kd.cS|apply Kd.cT|apply Kd.dB));exact Kd.fM (Kd.kF (p:=⟨uE,(eA:Int).toNat,none⟩) (Kd.fM d8.out (fun k_ hk=>(⟨hk,fun e_=>hk.2.2.2.2.2.1 (by rw [e_];rfl)⟩:_∧k_≠uE))) (fun _ hk=>hk.2) (.int .i64 (wrap64 (mg - 2)))) (fun _ hk=>⟨hk.1.2.2.1,⟨hk.1.2.2.2.1,⟨hk.1.1,⟨hk.1.2.1,⟨hk.1.2.2.2.2.1,⟨hk.1.2.2.2.2.2.1,⟨hk.1.2.2.2.2.2.2.1,⟨hk.1.2.2.2.2.2.2.2.1,hk.1.2.2.2.2.2.2.2.2⟩⟩⟩⟩⟩⟩⟩⟩)⟩,⟨by (with_reducible repeat (first|apply Kd.cS|apply Kd.cT|apply Kd.dB));exact Kd.fM (Kd.kF (p:=⟨uE,(eA:Int).toNat,none⟩) (Kd.fM dX.out (fun k_ hk=>(⟨hk,fun e_=>hk.2.2.2.2.2.1 (by rw [e_];rfl)⟩:_∧k_≠uE))) (fun _ hk=>hk.2) (.int .i64 (wrap64 (mg - 2)))) (fun _ hk=>⟨hk.1.2.2.1,⟨hk.1.2.2.2.1,⟨hk.1.1,⟨hk.1.2.1,⟨hk.1.2.2.2.2.1,⟨hk.1.2.2.2.2.2.1,⟨hk.1.2.2.2.2.2.2.1,⟨hk.1.2.2.2.2.2.2.2.1,hk.1.2.2.2.2.2.2.2.2⟩⟩⟩⟩⟩⟩⟩⟩)⟩,⟨by (with_reducible repeat (first|apply Kd.aw|apply Kd.av|apply Kd.aA));exact Kd.bN (Kd.cg (p:=⟨uE,(eA:Int).toNat,none⟩) (Kd.bN fL.out (fun k_ hk=>(⟨hk,fun e_=>hk.2.2 (by rw [e_];rfl)⟩:_∧k_≠uE))) (fun _ hk=>hk.2) (.int .i64 (wrap64 (mg - 2)))) (fun _ hk=>⟨hk.1.1,⟨hk.1.2.1,hk.1.2.2⟩⟩)⟩,⟨by (with_reducible repeat (first|apply Kd.aw|apply Kd.av|apply Kd.aA));exact aao.out⟩,⟨by (with_reducible repeat (first|refine ak ?_ _|refine aq ?_|refine aj ?_ _));refine cI ?_ (by have h_:=Kd.mz gR.out bo.out (by decide);intro e_;exact h_ (by rw [e_];rfl)) _;(with_reducible repeat (first|refine ak ?_ _|refine aq ?_|refine aj ?_ _));exact bo.out⟩,⟨by (with_reducible repeat (first|refine ak ?_ _|refine aq ?_|refine aj ?_ _));refine cI ?_ (by have h_:=Kd.mz gR.out bV.out (by decide);intro e_;exact h_ (by rw [e_];rfl)) _;(with_reducible repeat (first|refine ak ?_ _|refine aq ?_|refine aj ?_ _));exact bV.out⟩,⟨by (with_reducible repeat (first|refine ak ?_ _|refine aq ?_|refine aj ?_ _));refine cI ?_ (by have h_:=Kd.mz gR.out dn.out (by decide);intro e_;exact h_ (by rw [e_];rfl)) _;(with_reducible repeat (first|refine ak ?_ _|refine aq ?_|refine aj ?_ _));exact dn.out⟩,⟨by repeat (first|(with_reducible first|exact HB.out|apply ae|apply ab|apply af|refine ai ?_ aam.out|refine ai ?_ d7.out|refine ai ?_ fV.out|refine ai ?_ iK.out)|exact HB.out)⟩⟩
      rw [if_neg I2] at H
      exact absurd H (by simp)
     rw [if_neg Ge] at H
     exact absurd H (by simp)
    case rest=>
     clear OL
     try clear c1
     try clear p2
     try clear c3
     try clear c4
     try clear c5
     try clear p5
     try clear q5
     try clear hx5
     try clear p6
     try clear oh
     try clear c34
     try clear c44
     try clear c45
     try clear Mm
     try clear c47b0
     try clear c47b1
     try clear RW
     try clear c49b0
     try clear RX
     try clear c50b0
     try clear R2
     try clear R3
     try clear aeB
     try clear aeC
     try clear Ge
     try clear c56b0
     try clear I2
     try clear c57b0
     try clear Sb
     try clear Sc
     try clear aeD
     try clear aeE
     try clear Ef
     try clear Eg
     try clear Eh
     try clear Ei
     try clear OP
     try clear OT
     try clear R2
     try clear Sb
     try clear R3
     try clear Sc
     obtain ⟨kq,lB,lC,eP,eQ,jo,jp,nl,nn,js,jt,HA,aeF,HO_14,HO_15,HO_290001,HO_290002,HO_304000,HO_304001,HO_313000,HO_313001,bo,bV,dn,HB⟩:=hcut
     cases kq with
     |zero=>exact absurd HA.out (by simp [ay.j0])
     |succ aeG=>
      have H:=HA.out
      clear HA
      simp only [ay.j0] at H
      replace H:=Option.bind_eq_some_iff.mp H
      obtain ⟨Lb,Sj,H⟩:=H
      replace H:(if Lb=true then ((ei.f cU cz cq eP eQ).bind fun Ca=>(if Ca=true then ((cf.f cU cz cq eP eQ lB lC).bind fun vv=>(if vv=true then ((cf.f cU cz cq jo jp lB lC).bind fun sn=>(some sn)) else (some false))) else (some false))) else (some false))=some r:=H
      have Xo:=aa.mk Sj
      clear Sj
      by_cases Xp:Lb=true
      ·subst Xp
       have H1:((ei.f cU cz cq eP eQ).bind fun Ca=>(if Ca=true then ((cf.f cU cz cq eP eQ lB lC).bind fun vv=>(if vv=true then ((cf.f cU cz cq jo jp lB lC).bind fun sn=>(some sn)) else (some false))) else (some false)))=some r:=by rw [if_pos rfl] at H;exact H
       clear H
       have H:=H1
       clear H1
       replace H:=Option.bind_eq_some_iff.mp H
       obtain ⟨Ca,Sk,H⟩:=H
       replace H:(if Ca=true then ((cf.f cU cz cq eP eQ lB lC).bind fun vv=>(if vv=true then ((cf.f cU cz cq jo jp lB lC).bind fun sn=>(some sn)) else (some false))) else (some false))=some r:=H
       have A64:=aa.mk Sk
       clear Sk
       by_cases Xq:Ca=true
       ·subst Xq
        have H1:((cf.f cU cz cq eP eQ lB lC).bind fun vv=>(if vv=true then ((cf.f cU cz cq jo jp lB lC).bind fun sn=>(some sn)) else (some false)))=some r:=by rw [if_pos rfl] at H;exact H
        clear H
        have H:=H1
        clear H1
        replace H:=Option.bind_eq_some_iff.mp H
        obtain ⟨vv,Sl,H⟩:=H
        replace H:(if vv=true then ((cf.f cU cz cq jo jp lB lC).bind fun sn=>(some sn)) else (some false))=some r:=H
        have A66:=aa.mk Sl
        clear Sl
        by_cases Xr:vv=true
        ·subst Xr
         have H1:((cf.f cU cz cq jo jp lB lC).bind fun sn=>(some sn))=some r:=by rw [if_pos rfl] at H;exact H
         clear H
         have H:=H1
         clear H1
         replace H:=Option.bind_eq_some_iff.mp H
         obtain ⟨sn,Sm,H⟩:=H
         replace H:(some sn)=some r:=H
         have A68:=aa.mk Sm
         clear Sm
         obtain rfl:=Option.some.inj H
         go_wp2_with (first|((with_reducible refine bY (f:=39) rfl ?_);refine er (some 82) rfl rfl Try.func39 (by kernel_rfl) rfl #[] rfl (by (try simp only [List.map_toArray,List.map_cons,List.map_nil]);first|done|rfl|(simp only [List.length_drop,List.length_take];rfl)) ?_;(with_reducible refine (dr.calls true _ Xo.out).mono ?_);rintro e Sn ⟨rfl,hb⟩;refine ⟨_,rfl, ?_⟩;have br:=aa.mk (Kd.aZ (by (with_reducible repeat (first|apply Kd.aw|apply Kd.av|apply Kd.aA));exact HO_14.out) hb);have bt:=aa.mk (Kd.aZ (by (with_reducible repeat (first|apply Kd.aw|apply Kd.av|apply Kd.aA));exact HO_15.out) hb);have bA:=aa.mk (Kd.aZ (by (with_reducible repeat (first|apply Kd.aw|apply Kd.av|apply Kd.aA));exact HO_290001.out) hb);have bK:=aa.mk (Kd.aZ (by (with_reducible repeat (first|apply Kd.aw|apply Kd.av|apply Kd.aA));exact HO_290002.out) hb);have cL:=aa.mk (Kd.eK (by (with_reducible repeat (first|apply Kd.cS|apply Kd.cT|apply Kd.dB));exact HO_304000.out) hb);have dc:=aa.mk (Kd.eK (by (with_reducible repeat (first|apply Kd.cS|apply Kd.cT|apply Kd.dB));exact HO_304001.out) hb);have dQ:=aa.mk (Kd.aZ (by (with_reducible repeat (first|apply Kd.aw|apply Kd.av|apply Kd.aA));exact HO_313000.out) hb);have gL:=aa.mk (Kd.aZ (by (with_reducible repeat (first|apply Kd.aw|apply Kd.av|apply Kd.aA));exact HO_313001.out) hb);have hY:=aa.mk (aH (g:=bE) (o:= .cells #[.int .i64 cU,.slice fo cz.length fp,.slice fu cq.length fw] 26 (0,0)) (by (with_reducible repeat (first|refine ak ?_ _|refine aq ?_|refine aj ?_ _));exact bo.out) hb);have jv:=aa.mk (aH (g:=bZ) (o:= .cells #[nl,nn] 41 (0,0)) (by (with_reducible repeat (first|refine ak ?_ _|refine aq ?_|refine aj ?_ _));exact bV.out) hb);have fz:=aa.mk (aH (g:=bX) (o:= .cells #[js,jt] 41 (0,0)) (by (with_reducible repeat (first|refine ak ?_ _|refine aq ?_|refine aj ?_ _));exact dn.out) hb);have fO:=aa.mk (aE (by repeat (first|(with_reducible first|exact HB.out|apply ae|apply ab|apply af|refine ai ?_ d7.out|refine ai ?_ fV.out|refine ai ?_ iK.out)|exact HB.out)) hb);clear HO_14;clear HO_15;clear HO_290001;clear HO_290002;clear HO_304000;clear HO_304001;clear HO_313000;clear HO_313001;clear bo;clear bV;clear dn;clear HB;have HO_14:=br;have HO_15:=bt;have HO_290001:=bA;have HO_290002:=bK;have HO_304000:=cL;have HO_304001:=dc;have HO_313000:=dQ;have HO_313001:=gL;have bo:=hY;have bV:=jv;have dn:=fz;have HB:=fO;clear br bt bA bK cL dc dQ gL hY jv fz fO;(try clear hb);(try clear hb2);(try clear hk);(try clear hi);have Qd:=iL.out;have Qe:=mw.out;have acH:=hD.out;have acI:=jw.out;have Xs:Sn.cell? ⟨bE,0,none⟩=some (.int .i64 cU):=(ag bo.out 0).trans rfl;have Xt:Sn.cell? ⟨bE,1,none⟩=some (.slice fo cz.length fp):=(ag bo.out 1).trans rfl;have Xu:Sn.cell? ⟨bE,2,none⟩=some (.slice fu cq.length fw):=(ag bo.out 2).trans rfl;have Xv:=ah bo.out 0;have Xw:=ah bo.out 1;have Xx:=ah bo.out 2;have acJ:=gj.out;have acK:=jx.out;have Xy:Sn.cell? ⟨bZ,0,none⟩=some (nl):=(ag bV.out 0).trans rfl;have Xz:Sn.cell? ⟨bZ,1,none⟩=some (nn):=(ag bV.out 1).trans rfl;have XA:=ah bV.out 0;have XB:=ah bV.out 1;obtain ⟨Lc,Ld,aaq⟩:=Kd.lS HO_304000.out;subst aaq;obtain ⟨Le,Lf,aar⟩:=Kd.lS HO_304001.out;subst aar)|(go_at_call 41;(with_reducible refine (ei.calls cU _ _ cz _ _ cq _ _ eP _ _ eQ true _ ?bS ?bT ?cJ ?cN ?du ?dw ?fY ?fZ A64.out).mono ?_);(case bS=>repeat (first|exact (Kd.bf HO_290001.out).2.2|(with_reducible refine Kd.aT ?_ _)|(with_reducible refine Kd.aU ?_ _)|(with_reducible refine Kd.bk ?_)));(case bT=>exact (Kd.bf HO_290001.out).2.1);(case cJ=>repeat (first|exact (Kd.bf HO_290002.out).2.2|(with_reducible refine Kd.aT ?_ _)|(with_reducible refine Kd.aU ?_ _)|(with_reducible refine Kd.bk ?_)));(case cN=>exact (Kd.bf HO_290002.out).2.1);(case du=>repeat (first|exact (Kd.fP HO_304000.out).2.2|(with_reducible refine Kd.aT ?_ _)|(with_reducible refine Kd.aU ?_ _)|(with_reducible refine Kd.bk ?_)));(case dw=>exact (Kd.fP HO_304000.out).2.1);(case fY=>repeat (first|exact (Kd.fP HO_304001.out).2.2|(with_reducible refine Kd.aT ?_ _)|(with_reducible refine Kd.aU ?_ _)|(with_reducible refine Kd.bk ?_)));(case fZ=>exact (Kd.fP HO_304001.out).2.1);rintro e Sp ⟨rfl,hb⟩;have br:=aa.mk (Kd.aZ (by (with_reducible repeat (first|apply Kd.aw|apply Kd.av|apply Kd.aA));exact HO_14.out) hb);have bt:=aa.mk (Kd.aZ (by (with_reducible repeat (first|apply Kd.aw|apply Kd.av|apply Kd.aA));exact HO_15.out) hb);have bA:=aa.mk (Kd.aZ (by (with_reducible repeat (first|apply Kd.aw|apply Kd.av|apply Kd.aA));exact HO_290001.out) hb);have bK:=aa.mk (Kd.aZ (by (with_reducible repeat (first|apply Kd.aw|apply Kd.av|apply Kd.aA));exact HO_290002.out) hb);have cL:=aa.mk (Kd.eK (by (with_reducible repeat (first|apply Kd.cS|apply Kd.cT|apply Kd.dB));exact HO_304000.out) hb);have dc:=aa.mk (Kd.eK (by (with_reducible repeat (first|apply Kd.cS|apply Kd.cT|apply Kd.dB));exact HO_304001.out) hb);have dQ:=aa.mk (Kd.aZ (by (with_reducible repeat (first|apply Kd.aw|apply Kd.av|apply Kd.aA));exact HO_313000.out) hb);have gL:=aa.mk (Kd.aZ (by (with_reducible repeat (first|apply Kd.aw|apply Kd.av|apply Kd.aA));exact HO_313001.out) hb);have hY:=aa.mk (aH (g:=bE) (o:= .cells #[.int .i64 cU,.slice fo cz.length fp,.slice fu cq.length fw] 26 (0,0)) (by (with_reducible repeat (first|refine ak ?_ _|refine aq ?_|refine aj ?_ _));exact bo.out) hb);have jv:=aa.mk (aH (g:=bZ) (o:= .cells #[.slice Lc eP.length Ld,.slice Le eQ.length Lf] 41 (0,0)) (by (with_reducible repeat (first|refine ak ?_ _|refine aq ?_|refine aj ?_ _));exact bV.out) hb);have fz:=aa.mk (aH (g:=bX) (o:= .cells #[js,jt] 41 (0,0)) (by (with_reducible repeat (first|refine ak ?_ _|refine aq ?_|refine aj ?_ _));exact dn.out) hb);have fO:=aa.mk (aE (by repeat (first|(with_reducible first|exact HB.out|apply ae|apply ab|apply af|refine ai ?_ d7.out|refine ai ?_ fV.out|refine ai ?_ iK.out)|exact HB.out)) hb);clear HO_14;clear HO_15;clear HO_290001;clear HO_290002;clear HO_304000;clear HO_304001;clear HO_313000;clear HO_313001;clear bo;clear bV;clear dn;clear HB;have HO_14:=br;have HO_15:=bt;have HO_290001:=bA;have HO_290002:=bK;have HO_304000:=cL;have HO_304001:=dc;have HO_313000:=dQ;have HO_313001:=gL;have bo:=hY;have bV:=jv;have dn:=fz;have HB:=fO;clear br bt bA bK cL dc dQ gL hY jv fz fO;(try clear hb);(try clear hb2);(try clear hk);(try clear hi);have XC:Sp.cell? ⟨bE,0,none⟩=some (.int .i64 cU):=(ag bo.out 0).trans rfl;have XD:Sp.cell? ⟨bE,1,none⟩=some (.slice fo cz.length fp):=(ag bo.out 1).trans rfl;have XE:Sp.cell? ⟨bE,2,none⟩=some (.slice fu cq.length fw):=(ag bo.out 2).trans rfl;have XF:=ah bo.out 0;have XG:=ah bo.out 1;have XH:=ah bo.out 2;have XI:Sp.cell? ⟨bZ,0,none⟩=some (.slice Lc eP.length Ld):=(ag bV.out 0).trans rfl;have XJ:Sp.cell? ⟨bZ,1,none⟩=some (.slice Le eQ.length Lf):=(ag bV.out 1).trans rfl;have XK:=ah bV.out 0;have XL:=ah bV.out 1;obtain ⟨aeI,aeJ,aas⟩:=Kd.cA HO_14.out;subst aas;obtain ⟨aeK,aeL,aat⟩:=Kd.cA HO_15.out;subst aat)|(go_at_call 40;(with_reducible refine (cf.calls cU _ _ cz _ _ cq _ _ eP _ _ eQ _ _ lB _ _ lC true _ ?bS ?bT ?cJ ?cN ?du ?dw ?fY ?fZ ?xC ?sV ?sW ?sX A66.out).mono ?_);(case bS=>repeat (first|exact (Kd.bf HO_290001.out).2.2|(with_reducible refine Kd.aT ?_ _)|(with_reducible refine Kd.aU ?_ _)|(with_reducible refine Kd.bk ?_)));(case bT=>exact (Kd.bf HO_290001.out).2.1);(case cJ=>repeat (first|exact (Kd.bf HO_290002.out).2.2|(with_reducible refine Kd.aT ?_ _)|(with_reducible refine Kd.aU ?_ _)|(with_reducible refine Kd.bk ?_)));(case cN=>exact (Kd.bf HO_290002.out).2.1);(case du=>repeat (first|exact (Kd.fP HO_304000.out).2.2|(with_reducible refine Kd.aT ?_ _)|(with_reducible refine Kd.aU ?_ _)|(with_reducible refine Kd.bk ?_)));(case dw=>exact (Kd.fP HO_304000.out).2.1);(case fY=>repeat (first|exact (Kd.fP HO_304001.out).2.2|(with_reducible refine Kd.aT ?_ _)|(with_reducible refine Kd.aU ?_ _)|(with_reducible refine Kd.bk ?_)));(case fZ=>exact (Kd.fP HO_304001.out).2.1);(case xC=>repeat (first|exact (Kd.bf HO_14.out).2.2|(with_reducible refine Kd.aT ?_ _)|(with_reducible refine Kd.aU ?_ _)|(with_reducible refine Kd.bk ?_)));(case sV=>exact (Kd.bf HO_14.out).2.1);(case sW=>repeat (first|exact (Kd.bf HO_15.out).2.2|(with_reducible refine Kd.aT ?_ _)|(with_reducible refine Kd.aU ?_ _)|(with_reducible refine Kd.bk ?_)));(case sX=>exact (Kd.bf HO_15.out).2.1);rintro e Sq ⟨rfl,hb⟩;have br:=aa.mk (Kd.aZ (by (with_reducible repeat (first|apply Kd.aw|apply Kd.av|apply Kd.aA));exact HO_14.out) hb);have bt:=aa.mk (Kd.aZ (by (with_reducible repeat (first|apply Kd.aw|apply Kd.av|apply Kd.aA));exact HO_15.out) hb);have bA:=aa.mk (Kd.aZ (by (with_reducible repeat (first|apply Kd.aw|apply Kd.av|apply Kd.aA));exact HO_290001.out) hb);have bK:=aa.mk (Kd.aZ (by (with_reducible repeat (first|apply Kd.aw|apply Kd.av|apply Kd.aA));exact HO_290002.out) hb);have cL:=aa.mk (Kd.eK (by (with_reducible repeat (first|apply Kd.cS|apply Kd.cT|apply Kd.dB));exact HO_304000.out) hb);have dc:=aa.mk (Kd.eK (by (with_reducible repeat (first|apply Kd.cS|apply Kd.cT|apply Kd.dB));exact HO_304001.out) hb);have dQ:=aa.mk (Kd.aZ (by (with_reducible repeat (first|apply Kd.aw|apply Kd.av|apply Kd.aA));exact HO_313000.out) hb);have gL:=aa.mk (Kd.aZ (by (with_reducible repeat (first|apply Kd.aw|apply Kd.av|apply Kd.aA));exact HO_313001.out) hb);have hY:=aa.mk (aH (g:=bE) (o:= .cells #[.int .i64 cU,.slice fo cz.length fp,.slice fu cq.length fw] 26 (0,0)) (by (with_reducible repeat (first|refine ak ?_ _|refine aq ?_|refine aj ?_ _));exact bo.out) hb);have jv:=aa.mk (aH (g:=bZ) (o:= .cells #[.slice Lc eP.length Ld,.slice Le eQ.length Lf] 41 (0,0)) (by (with_reducible repeat (first|refine ak ?_ _|refine aq ?_|refine aj ?_ _));exact bV.out) hb);have fz:=aa.mk (aH (g:=bX) (o:= .cells #[js,jt] 41 (0,0)) (by (with_reducible repeat (first|refine ak ?_ _|refine aq ?_|refine aj ?_ _));exact dn.out) hb);have fO:=aa.mk (aE (by repeat (first|(with_reducible first|exact HB.out|apply ae|apply ab|apply af|refine ai ?_ d7.out|refine ai ?_ fV.out|refine ai ?_ iK.out)|exact HB.out)) hb);clear HO_14;clear HO_15;clear HO_290001;clear HO_290002;clear HO_304000;clear HO_304001;clear HO_313000;clear HO_313001;clear bo;clear bV;clear dn;clear HB;have HO_14:=br;have HO_15:=bt;have HO_290001:=bA;have HO_290002:=bK;have HO_304000:=cL;have HO_304001:=dc;have HO_313000:=dQ;have HO_313001:=gL;have bo:=hY;have bV:=jv;have dn:=fz;have HB:=fO;clear br bt bA bK cL dc dQ gL hY jv fz fO;(try clear hb);(try clear hb2);(try clear hk);(try clear hi);have XM:Sq.cell? ⟨bE,0,none⟩=some (.int .i64 cU):=(ag bo.out 0).trans rfl;have XN:Sq.cell? ⟨bE,1,none⟩=some (.slice fo cz.length fp):=(ag bo.out 1).trans rfl;have XO:Sq.cell? ⟨bE,2,none⟩=some (.slice fu cq.length fw):=(ag bo.out 2).trans rfl;have XP:=ah bo.out 0;have XQ:=ah bo.out 1;have XR:=ah bo.out 2;have XS:Sq.cell? ⟨bX,0,none⟩=some (js):=(ag dn.out 0).trans rfl;have XT:Sq.cell? ⟨bX,1,none⟩=some (jt):=(ag dn.out 1).trans rfl;have XU:=ah dn.out 0;have XV:=ah dn.out 1;obtain ⟨aau,aav,aaw⟩:=Kd.cA HO_313000.out;subst aaw;obtain ⟨aax,aay,aaz⟩:=Kd.cA HO_313001.out;subst aaz)|(go_at_call 40;(with_reducible refine (cf.calls cU _ _ cz _ _ cq _ _ jo _ _ jp _ _ lB _ _ lC sn _ ?bS ?bT ?cJ ?cN ?du ?dw ?fY ?fZ ?xC ?sV ?sW ?sX A68.out).mono ?_);(case bS=>repeat (first|exact (Kd.bf HO_290001.out).2.2|(with_reducible refine Kd.aT ?_ _)|(with_reducible refine Kd.aU ?_ _)|(with_reducible refine Kd.bk ?_)));(case bT=>exact (Kd.bf HO_290001.out).2.1);(case cJ=>repeat (first|exact (Kd.bf HO_290002.out).2.2|(with_reducible refine Kd.aT ?_ _)|(with_reducible refine Kd.aU ?_ _)|(with_reducible refine Kd.bk ?_)));(case cN=>exact (Kd.bf HO_290002.out).2.1);(case du=>repeat (first|exact (Kd.bf HO_313000.out).2.2|(with_reducible refine Kd.aT ?_ _)|(with_reducible refine Kd.aU ?_ _)|(with_reducible refine Kd.bk ?_)));(case dw=>exact (Kd.bf HO_313000.out).2.1);(case fY=>repeat (first|exact (Kd.bf HO_313001.out).2.2|(with_reducible refine Kd.aT ?_ _)|(with_reducible refine Kd.aU ?_ _)|(with_reducible refine Kd.bk ?_)));(case fZ=>exact (Kd.bf HO_313001.out).2.1);(case xC=>repeat (first|exact (Kd.bf HO_14.out).2.2|(with_reducible refine Kd.aT ?_ _)|(with_reducible refine Kd.aU ?_ _)|(with_reducible refine Kd.bk ?_)));(case sV=>exact (Kd.bf HO_14.out).2.1);(case sW=>repeat (first|exact (Kd.bf HO_15.out).2.2|(with_reducible refine Kd.aT ?_ _)|(with_reducible refine Kd.aU ?_ _)|(with_reducible refine Kd.bk ?_)));(case sX=>exact (Kd.bf HO_15.out).2.1);rintro e w87 ⟨rfl,hb⟩;have br:=aa.mk (Kd.aZ (by (with_reducible repeat (first|apply Kd.aw|apply Kd.av|apply Kd.aA));exact HO_14.out) hb);have bt:=aa.mk (Kd.aZ (by (with_reducible repeat (first|apply Kd.aw|apply Kd.av|apply Kd.aA));exact HO_15.out) hb);have bA:=aa.mk (Kd.aZ (by (with_reducible repeat (first|apply Kd.aw|apply Kd.av|apply Kd.aA));exact HO_290001.out) hb);have bK:=aa.mk (Kd.aZ (by (with_reducible repeat (first|apply Kd.aw|apply Kd.av|apply Kd.aA));exact HO_290002.out) hb);have cL:=aa.mk (Kd.eK (by (with_reducible repeat (first|apply Kd.cS|apply Kd.cT|apply Kd.dB));exact HO_304000.out) hb);have dc:=aa.mk (Kd.eK (by (with_reducible repeat (first|apply Kd.cS|apply Kd.cT|apply Kd.dB));exact HO_304001.out) hb);have dQ:=aa.mk (Kd.aZ (by (with_reducible repeat (first|apply Kd.aw|apply Kd.av|apply Kd.aA));exact HO_313000.out) hb);have gL:=aa.mk (Kd.aZ (by (with_reducible repeat (first|apply Kd.aw|apply Kd.av|apply Kd.aA));exact HO_313001.out) hb);have hY:=aa.mk (aH (g:=bE) (o:= .cells #[.int .i64 cU,.slice fo cz.length fp,.slice fu cq.length fw] 26 (0,0)) (by (with_reducible repeat (first|refine ak ?_ _|refine aq ?_|refine aj ?_ _));exact bo.out) hb);have jv:=aa.mk (aH (g:=bZ) (o:= .cells #[.slice Lc eP.length Ld,.slice Le eQ.length Lf] 41 (0,0)) (by (with_reducible repeat (first|refine ak ?_ _|refine aq ?_|refine aj ?_ _));exact bV.out) hb);have fz:=aa.mk (aH (g:=bX) (o:= .cells #[.slice aau jo.length aav,.slice aax jp.length aay] 41 (0,0)) (by (with_reducible repeat (first|refine ak ?_ _|refine aq ?_|refine aj ?_ _));exact dn.out) hb);have fO:=aa.mk (aE (by repeat (first|(with_reducible first|exact HB.out|apply ae|apply ab|apply af|refine ai ?_ d7.out|refine ai ?_ fV.out|refine ai ?_ iK.out)|exact HB.out)) hb);clear HO_14;clear HO_15;clear HO_290001;clear HO_290002;clear HO_304000;clear HO_304001;clear HO_313000;clear HO_313001;clear bo;clear bV;clear dn;clear HB;have HO_14:=br;have HO_15:=bt;have HO_290001:=bA;have HO_290002:=bK;have HO_304000:=cL;have HO_304001:=dc;have HO_313000:=dQ;have HO_313001:=gL;have bo:=hY;have bV:=jv;have dn:=fz;have HB:=fO;clear br bt bA bK cL dc dQ gL hY jv fz fO;(try clear hb);(try clear hb2);(try clear hk);(try clear hi)))
         go_ret
         exact ⟨by first|rfl|(simp [bB,bC]<;>rfl)|(simp [*,bB,bC]<;>rfl),by repeat (first|(with_reducible first|exact HB.out|apply ae|apply ab|apply af|refine ai ?_ d7.out|refine ai ?_ fV.out|refine ai ?_ iK.out)|exact HB.out)⟩
        replace Xr:=Bool.eq_false_iff.mpr Xr
        subst Xr
        have H1:(some false)=some r:=by rw [if_neg (show ¬(false=true) by decide)] at H;exact H
        clear H
        have H:=H1
        clear H1
        obtain rfl:=Option.some.inj H
        go_wp2_with (first|((with_reducible refine bY (f:=39) rfl ?_);refine er (some 82) rfl rfl Try.func39 (by kernel_rfl) rfl #[] rfl (by (try simp only [List.map_toArray,List.map_cons,List.map_nil]);first|done|rfl|(simp only [List.length_drop,List.length_take];rfl)) ?_;(with_reducible refine (dr.calls true _ Xo.out).mono ?_);rintro e Sr ⟨rfl,hb⟩;refine ⟨_,rfl, ?_⟩;have br:=aa.mk (Kd.aZ (by (with_reducible repeat (first|apply Kd.aw|apply Kd.av|apply Kd.aA));exact HO_14.out) hb);have bt:=aa.mk (Kd.aZ (by (with_reducible repeat (first|apply Kd.aw|apply Kd.av|apply Kd.aA));exact HO_15.out) hb);have bA:=aa.mk (Kd.aZ (by (with_reducible repeat (first|apply Kd.aw|apply Kd.av|apply Kd.aA));exact HO_290001.out) hb);have bK:=aa.mk (Kd.aZ (by (with_reducible repeat (first|apply Kd.aw|apply Kd.av|apply Kd.aA));exact HO_290002.out) hb);have cL:=aa.mk (Kd.eK (by (with_reducible repeat (first|apply Kd.cS|apply Kd.cT|apply Kd.dB));exact HO_304000.out) hb);have dc:=aa.mk (Kd.eK (by (with_reducible repeat (first|apply Kd.cS|apply Kd.cT|apply Kd.dB));exact HO_304001.out) hb);have dQ:=aa.mk (Kd.aZ (by (with_reducible repeat (first|apply Kd.aw|apply Kd.av|apply Kd.aA));exact HO_313000.out) hb);have gL:=aa.mk (Kd.aZ (by (with_reducible repeat (first|apply Kd.aw|apply Kd.av|apply Kd.aA));exact HO_313001.out) hb);have hY:=aa.mk (aH (g:=bE) (o:= .cells #[.int .i64 cU,.slice fo cz.length fp,.slice fu cq.length fw] 26 (0,0)) (by (with_reducible repeat (first|refine ak ?_ _|refine aq ?_|refine aj ?_ _));exact bo.out) hb);have jv:=aa.mk (aH (g:=bZ) (o:= .cells #[nl,nn] 41 (0,0)) (by (with_reducible repeat (first|refine ak ?_ _|refine aq ?_|refine aj ?_ _));exact bV.out) hb);have fz:=aa.mk (aH (g:=bX) (o:= .cells #[js,jt] 41 (0,0)) (by (with_reducible repeat (first|refine ak ?_ _|refine aq ?_|refine aj ?_ _));exact dn.out) hb);have fO:=aa.mk (aE (by repeat (first|(with_reducible first|exact HB.out|apply ae|apply ab|apply af|refine ai ?_ d7.out|refine ai ?_ fV.out|refine ai ?_ iK.out)|exact HB.out)) hb);clear HO_14;clear HO_15;clear HO_290001;clear HO_290002;clear HO_304000;clear HO_304001;clear HO_313000;clear HO_313001;clear bo;clear bV;clear dn;clear HB;have HO_14:=br;have HO_15:=bt;have HO_290001:=bA;have HO_290002:=bK;have HO_304000:=cL;have HO_304001:=dc;have HO_313000:=dQ;have HO_313001:=gL;have bo:=hY;have bV:=jv;have dn:=fz;have HB:=fO;clear br bt bA bK cL dc dQ gL hY jv fz fO;(try clear hb);(try clear hb2);(try clear hk);(try clear hi);have acL:=iL.out;have acM:=mw.out;have acN:=hD.out;have acO:=jw.out;have XW:Sr.cell? ⟨bE,0,none⟩=some (.int .i64 cU):=(ag bo.out 0).trans rfl;have XX:Sr.cell? ⟨bE,1,none⟩=some (.slice fo cz.length fp):=(ag bo.out 1).trans rfl;have XY:Sr.cell? ⟨bE,2,none⟩=some (.slice fu cq.length fw):=(ag bo.out 2).trans rfl;have XZ:=ah bo.out 0;have X0:=ah bo.out 1;have X1:=ah bo.out 2;have acP:=gj.out;have acQ:=jx.out;have X2:Sr.cell? ⟨bZ,0,none⟩=some (nl):=(ag bV.out 0).trans rfl;have X3:Sr.cell? ⟨bZ,1,none⟩=some (nn):=(ag bV.out 1).trans rfl;have X4:=ah bV.out 0;have X5:=ah bV.out 1;obtain ⟨OV,OW,aaA⟩:=Kd.lS HO_304000.out;subst aaA;obtain ⟨OX,OY,aaB⟩:=Kd.lS HO_304001.out;subst aaB)|(go_at_call 41;(with_reducible refine (ei.calls cU _ _ cz _ _ cq _ _ eP _ _ eQ true _ ?bS ?bT ?cJ ?cN ?du ?dw ?fY ?fZ A64.out).mono ?_);(case bS=>repeat (first|exact (Kd.bf HO_290001.out).2.2|(with_reducible refine Kd.aT ?_ _)|(with_reducible refine Kd.aU ?_ _)|(with_reducible refine Kd.bk ?_)));(case bT=>exact (Kd.bf HO_290001.out).2.1);(case cJ=>repeat (first|exact (Kd.bf HO_290002.out).2.2|(with_reducible refine Kd.aT ?_ _)|(with_reducible refine Kd.aU ?_ _)|(with_reducible refine Kd.bk ?_)));(case cN=>exact (Kd.bf HO_290002.out).2.1);(case du=>repeat (first|exact (Kd.fP HO_304000.out).2.2|(with_reducible refine Kd.aT ?_ _)|(with_reducible refine Kd.aU ?_ _)|(with_reducible refine Kd.bk ?_)));(case dw=>exact (Kd.fP HO_304000.out).2.1);(case fY=>repeat (first|exact (Kd.fP HO_304001.out).2.2|(with_reducible refine Kd.aT ?_ _)|(with_reducible refine Kd.aU ?_ _)|(with_reducible refine Kd.bk ?_)));(case fZ=>exact (Kd.fP HO_304001.out).2.1);rintro e Ss ⟨rfl,hb⟩;have br:=aa.mk (Kd.aZ (by (with_reducible repeat (first|apply Kd.aw|apply Kd.av|apply Kd.aA));exact HO_14.out) hb);have bt:=aa.mk (Kd.aZ (by (with_reducible repeat (first|apply Kd.aw|apply Kd.av|apply Kd.aA));exact HO_15.out) hb);have bA:=aa.mk (Kd.aZ (by (with_reducible repeat (first|apply Kd.aw|apply Kd.av|apply Kd.aA));exact HO_290001.out) hb);have bK:=aa.mk (Kd.aZ (by (with_reducible repeat (first|apply Kd.aw|apply Kd.av|apply Kd.aA));exact HO_290002.out) hb);have cL:=aa.mk (Kd.eK (by (with_reducible repeat (first|apply Kd.cS|apply Kd.cT|apply Kd.dB));exact HO_304000.out) hb);have dc:=aa.mk (Kd.eK (by (with_reducible repeat (first|apply Kd.cS|apply Kd.cT|apply Kd.dB));exact HO_304001.out) hb);have dQ:=aa.mk (Kd.aZ (by (with_reducible repeat (first|apply Kd.aw|apply Kd.av|apply Kd.aA));exact HO_313000.out) hb);have gL:=aa.mk (Kd.aZ (by (with_reducible repeat (first|apply Kd.aw|apply Kd.av|apply Kd.aA));exact HO_313001.out) hb);have hY:=aa.mk (aH (g:=bE) (o:= .cells #[.int .i64 cU,.slice fo cz.length fp,.slice fu cq.length fw] 26 (0,0)) (by (with_reducible repeat (first|refine ak ?_ _|refine aq ?_|refine aj ?_ _));exact bo.out) hb);have jv:=aa.mk (aH (g:=bZ) (o:= .cells #[.slice OV eP.length OW,.slice OX eQ.length OY] 41 (0,0)) (by (with_reducible repeat (first|refine ak ?_ _|refine aq ?_|refine aj ?_ _));exact bV.out) hb);have fz:=aa.mk (aH (g:=bX) (o:= .cells #[js,jt] 41 (0,0)) (by (with_reducible repeat (first|refine ak ?_ _|refine aq ?_|refine aj ?_ _));exact dn.out) hb);have fO:=aa.mk (aE (by repeat (first|(with_reducible first|exact HB.out|apply ae|apply ab|apply af|refine ai ?_ d7.out|refine ai ?_ fV.out|refine ai ?_ iK.out)|exact HB.out)) hb);clear HO_14;clear HO_15;clear HO_290001;clear HO_290002;clear HO_304000;clear HO_304001;clear HO_313000;clear HO_313001;clear bo;clear bV;clear dn;clear HB;have HO_14:=br;have HO_15:=bt;have HO_290001:=bA;have HO_290002:=bK;have HO_304000:=cL;have HO_304001:=dc;have HO_313000:=dQ;have HO_313001:=gL;have bo:=hY;have bV:=jv;have dn:=fz;have HB:=fO;clear br bt bA bK cL dc dQ gL hY jv fz fO;(try clear hb);(try clear hb2);(try clear hk);(try clear hi);have X6:Ss.cell? ⟨bE,0,none⟩=some (.int .i64 cU):=(ag bo.out 0).trans rfl;have X7:Ss.cell? ⟨bE,1,none⟩=some (.slice fo cz.length fp):=(ag bo.out 1).trans rfl;have X8:Ss.cell? ⟨bE,2,none⟩=some (.slice fu cq.length fw):=(ag bo.out 2).trans rfl;have X9:=ah bo.out 0;have Ya:=ah bo.out 1;have Yb:=ah bo.out 2;have Yc:Ss.cell? ⟨bZ,0,none⟩=some (.slice OV eP.length OW):=(ag bV.out 0).trans rfl;have Yd:Ss.cell? ⟨bZ,1,none⟩=some (.slice OX eQ.length OY):=(ag bV.out 1).trans rfl;have Ye:=ah bV.out 0;have Yf:=ah bV.out 1;obtain ⟨aeM,aeN,aaC⟩:=Kd.cA HO_14.out;subst aaC;obtain ⟨acR,acS,St⟩:=Kd.cA HO_15.out;subst St)|(go_at_call 40;(with_reducible refine (cf.calls cU _ _ cz _ _ cq _ _ eP _ _ eQ _ _ lB _ _ lC false _ ?bS ?bT ?cJ ?cN ?du ?dw ?fY ?fZ ?xC ?sV ?sW ?sX A66.out).mono ?_);(case bS=>repeat (first|exact (Kd.bf HO_290001.out).2.2|(with_reducible refine Kd.aT ?_ _)|(with_reducible refine Kd.aU ?_ _)|(with_reducible refine Kd.bk ?_)));(case bT=>exact (Kd.bf HO_290001.out).2.1);(case cJ=>repeat (first|exact (Kd.bf HO_290002.out).2.2|(with_reducible refine Kd.aT ?_ _)|(with_reducible refine Kd.aU ?_ _)|(with_reducible refine Kd.bk ?_)));(case cN=>exact (Kd.bf HO_290002.out).2.1);(case du=>repeat (first|exact (Kd.fP HO_304000.out).2.2|(with_reducible refine Kd.aT ?_ _)|(with_reducible refine Kd.aU ?_ _)|(with_reducible refine Kd.bk ?_)));(case dw=>exact (Kd.fP HO_304000.out).2.1);(case fY=>repeat (first|exact (Kd.fP HO_304001.out).2.2|(with_reducible refine Kd.aT ?_ _)|(with_reducible refine Kd.aU ?_ _)|(with_reducible refine Kd.bk ?_)));(case fZ=>exact (Kd.fP HO_304001.out).2.1);(case xC=>repeat (first|exact (Kd.bf HO_14.out).2.2|(with_reducible refine Kd.aT ?_ _)|(with_reducible refine Kd.aU ?_ _)|(with_reducible refine Kd.bk ?_)));(case sV=>exact (Kd.bf HO_14.out).2.1);(case sW=>repeat (first|exact (Kd.bf HO_15.out).2.2|(with_reducible refine Kd.aT ?_ _)|(with_reducible refine Kd.aU ?_ _)|(with_reducible refine Kd.bk ?_)));(case sX=>exact (Kd.bf HO_15.out).2.1);rintro e aeO ⟨rfl,hb⟩;have br:=aa.mk (Kd.aZ (by (with_reducible repeat (first|apply Kd.aw|apply Kd.av|apply Kd.aA));exact HO_14.out) hb);have bt:=aa.mk (Kd.aZ (by (with_reducible repeat (first|apply Kd.aw|apply Kd.av|apply Kd.aA));exact HO_15.out) hb);have bA:=aa.mk (Kd.aZ (by (with_reducible repeat (first|apply Kd.aw|apply Kd.av|apply Kd.aA));exact HO_290001.out) hb);have bK:=aa.mk (Kd.aZ (by (with_reducible repeat (first|apply Kd.aw|apply Kd.av|apply Kd.aA));exact HO_290002.out) hb);have cL:=aa.mk (Kd.eK (by (with_reducible repeat (first|apply Kd.cS|apply Kd.cT|apply Kd.dB));exact HO_304000.out) hb);have dc:=aa.mk (Kd.eK (by (with_reducible repeat (first|apply Kd.cS|apply Kd.cT|apply Kd.dB));exact HO_304001.out) hb);have dQ:=aa.mk (Kd.aZ (by (with_reducible repeat (first|apply Kd.aw|apply Kd.av|apply Kd.aA));exact HO_313000.out) hb);have gL:=aa.mk (Kd.aZ (by (with_reducible repeat (first|apply Kd.aw|apply Kd.av|apply Kd.aA));exact HO_313001.out) hb);have hY:=aa.mk (aH (g:=bE) (o:= .cells #[.int .i64 cU,.slice fo cz.length fp,.slice fu cq.length fw] 26 (0,0)) (by (with_reducible repeat (first|refine ak ?_ _|refine aq ?_|refine aj ?_ _));exact bo.out) hb);have jv:=aa.mk (aH (g:=bZ) (o:= .cells #[.slice OV eP.length OW,.slice OX eQ.length OY] 41 (0,0)) (by (with_reducible repeat (first|refine ak ?_ _|refine aq ?_|refine aj ?_ _));exact bV.out) hb);have fz:=aa.mk (aH (g:=bX) (o:= .cells #[js,jt] 41 (0,0)) (by (with_reducible repeat (first|refine ak ?_ _|refine aq ?_|refine aj ?_ _));exact dn.out) hb);have fO:=aa.mk (aE (by repeat (first|(with_reducible first|exact HB.out|apply ae|apply ab|apply af|refine ai ?_ d7.out|refine ai ?_ fV.out|refine ai ?_ iK.out)|exact HB.out)) hb);clear HO_14;clear HO_15;clear HO_290001;clear HO_290002;clear HO_304000;clear HO_304001;clear HO_313000;clear HO_313001;clear bo;clear bV;clear dn;clear HB;have HO_14:=br;have HO_15:=bt;have HO_290001:=bA;have HO_290002:=bK;have HO_304000:=cL;have HO_304001:=dc;have HO_313000:=dQ;have HO_313001:=gL;have bo:=hY;have bV:=jv;have dn:=fz;have HB:=fO;clear br bt bA bK cL dc dQ gL hY jv fz fO;(try clear hb);(try clear hb2);(try clear hk);(try clear hi)))
        go_ret
        exact ⟨by first|rfl|(simp [bB,bC]<;>rfl)|(simp [*,bB,bC]<;>rfl),by repeat (first|(with_reducible first|exact HB.out|apply ae|apply ab|apply af|refine ai ?_ d7.out|refine ai ?_ fV.out|refine ai ?_ iK.out)|exact HB.out)⟩
       replace Xq:=Bool.eq_false_iff.mpr Xq
       subst Xq
       have H1:(some false)=some r:=by rw [if_neg (show ¬(false=true) by decide)] at H;exact H
       clear H
       have H:=H1
       clear H1
       obtain rfl:=Option.some.inj H
       go_wp2_with (first|((with_reducible refine bY (f:=39) rfl ?_);refine er (some 82) rfl rfl Try.func39 (by kernel_rfl) rfl #[] rfl (by (try simp only [List.map_toArray,List.map_cons,List.map_nil]);first|done|rfl|(simp only [List.length_drop,List.length_take];rfl)) ?_;(with_reducible refine (dr.calls true _ Xo.out).mono ?_);rintro e IM ⟨rfl,hb⟩;refine ⟨_,rfl, ?_⟩;have br:=aa.mk (Kd.aZ (by (with_reducible repeat (first|apply Kd.aw|apply Kd.av|apply Kd.aA));exact HO_14.out) hb);have bt:=aa.mk (Kd.aZ (by (with_reducible repeat (first|apply Kd.aw|apply Kd.av|apply Kd.aA));exact HO_15.out) hb);have bA:=aa.mk (Kd.aZ (by (with_reducible repeat (first|apply Kd.aw|apply Kd.av|apply Kd.aA));exact HO_290001.out) hb);have bK:=aa.mk (Kd.aZ (by (with_reducible repeat (first|apply Kd.aw|apply Kd.av|apply Kd.aA));exact HO_290002.out) hb);have cL:=aa.mk (Kd.eK (by (with_reducible repeat (first|apply Kd.cS|apply Kd.cT|apply Kd.dB));exact HO_304000.out) hb);have dc:=aa.mk (Kd.eK (by (with_reducible repeat (first|apply Kd.cS|apply Kd.cT|apply Kd.dB));exact HO_304001.out) hb);have dQ:=aa.mk (Kd.aZ (by (with_reducible repeat (first|apply Kd.aw|apply Kd.av|apply Kd.aA));exact HO_313000.out) hb);have gL:=aa.mk (Kd.aZ (by (with_reducible repeat (first|apply Kd.aw|apply Kd.av|apply Kd.aA));exact HO_313001.out) hb);have hY:=aa.mk (aH (g:=bE) (o:= .cells #[.int .i64 cU,.slice fo cz.length fp,.slice fu cq.length fw] 26 (0,0)) (by (with_reducible repeat (first|refine ak ?_ _|refine aq ?_|refine aj ?_ _));exact bo.out) hb);have jv:=aa.mk (aH (g:=bZ) (o:= .cells #[nl,nn] 41 (0,0)) (by (with_reducible repeat (first|refine ak ?_ _|refine aq ?_|refine aj ?_ _));exact bV.out) hb);have fz:=aa.mk (aH (g:=bX) (o:= .cells #[js,jt] 41 (0,0)) (by (with_reducible repeat (first|refine ak ?_ _|refine aq ?_|refine aj ?_ _));exact dn.out) hb);have fO:=aa.mk (aE (by repeat (first|(with_reducible first|exact HB.out|apply ae|apply ab|apply af|refine ai ?_ d7.out|refine ai ?_ fV.out|refine ai ?_ iK.out)|exact HB.out)) hb);clear HO_14;clear HO_15;clear HO_290001;clear HO_290002;clear HO_304000;clear HO_304001;clear HO_313000;clear HO_313001;clear bo;clear bV;clear dn;clear HB;have HO_14:=br;have HO_15:=bt;have HO_290001:=bA;have HO_290002:=bK;have HO_304000:=cL;have HO_304001:=dc;have HO_313000:=dQ;have HO_313001:=gL;have bo:=hY;have bV:=jv;have dn:=fz;have HB:=fO;clear br bt bA bK cL dc dQ gL hY jv fz fO;(try clear hb);(try clear hb2);(try clear hk);(try clear hi);have aaD:=iL.out;have aaE:=mw.out;have aaF:=hD.out;have aaG:=jw.out;have Su:IM.cell? ⟨bE,0,none⟩=some (.int .i64 cU):=(ag bo.out 0).trans rfl;have Sv:IM.cell? ⟨bE,1,none⟩=some (.slice fo cz.length fp):=(ag bo.out 1).trans rfl;have Sw:IM.cell? ⟨bE,2,none⟩=some (.slice fu cq.length fw):=(ag bo.out 2).trans rfl;have Sx:=ah bo.out 0;have Sy:=ah bo.out 1;have Sz:=ah bo.out 2;have aaH:=gj.out;have aaI:=jx.out;have SA:IM.cell? ⟨bZ,0,none⟩=some (nl):=(ag bV.out 0).trans rfl;have SB:IM.cell? ⟨bZ,1,none⟩=some (nn):=(ag bV.out 1).trans rfl;have SC:=ah bV.out 0;have SD:=ah bV.out 1;obtain ⟨SE,SF,SG⟩:=Kd.lS HO_304000.out;subst SG;obtain ⟨SH,SI,SJ⟩:=Kd.lS HO_304001.out;subst SJ)|(go_at_call 41;(with_reducible refine (ei.calls cU _ _ cz _ _ cq _ _ eP _ _ eQ false _ ?bS ?bT ?cJ ?cN ?du ?dw ?fY ?fZ A64.out).mono ?_);(case bS=>repeat (first|exact (Kd.bf HO_290001.out).2.2|(with_reducible refine Kd.aT ?_ _)|(with_reducible refine Kd.aU ?_ _)|(with_reducible refine Kd.bk ?_)));(case bT=>exact (Kd.bf HO_290001.out).2.1);(case cJ=>repeat (first|exact (Kd.bf HO_290002.out).2.2|(with_reducible refine Kd.aT ?_ _)|(with_reducible refine Kd.aU ?_ _)|(with_reducible refine Kd.bk ?_)));(case cN=>exact (Kd.bf HO_290002.out).2.1);(case du=>repeat (first|exact (Kd.fP HO_304000.out).2.2|(with_reducible refine Kd.aT ?_ _)|(with_reducible refine Kd.aU ?_ _)|(with_reducible refine Kd.bk ?_)));(case dw=>exact (Kd.fP HO_304000.out).2.1);(case fY=>repeat (first|exact (Kd.fP HO_304001.out).2.2|(with_reducible refine Kd.aT ?_ _)|(with_reducible refine Kd.aU ?_ _)|(with_reducible refine Kd.bk ?_)));(case fZ=>exact (Kd.fP HO_304001.out).2.1);rintro e aeP ⟨rfl,hb⟩;have br:=aa.mk (Kd.aZ (by (with_reducible repeat (first|apply Kd.aw|apply Kd.av|apply Kd.aA));exact HO_14.out) hb);have bt:=aa.mk (Kd.aZ (by (with_reducible repeat (first|apply Kd.aw|apply Kd.av|apply Kd.aA));exact HO_15.out) hb);have bA:=aa.mk (Kd.aZ (by (with_reducible repeat (first|apply Kd.aw|apply Kd.av|apply Kd.aA));exact HO_290001.out) hb);have bK:=aa.mk (Kd.aZ (by (with_reducible repeat (first|apply Kd.aw|apply Kd.av|apply Kd.aA));exact HO_290002.out) hb);have cL:=aa.mk (Kd.eK (by (with_reducible repeat (first|apply Kd.cS|apply Kd.cT|apply Kd.dB));exact HO_304000.out) hb);have dc:=aa.mk (Kd.eK (by (with_reducible repeat (first|apply Kd.cS|apply Kd.cT|apply Kd.dB));exact HO_304001.out) hb);have dQ:=aa.mk (Kd.aZ (by (with_reducible repeat (first|apply Kd.aw|apply Kd.av|apply Kd.aA));exact HO_313000.out) hb);have gL:=aa.mk (Kd.aZ (by (with_reducible repeat (first|apply Kd.aw|apply Kd.av|apply Kd.aA));exact HO_313001.out) hb);have hY:=aa.mk (aH (g:=bE) (o:= .cells #[.int .i64 cU,.slice fo cz.length fp,.slice fu cq.length fw] 26 (0,0)) (by (with_reducible repeat (first|refine ak ?_ _|refine aq ?_|refine aj ?_ _));exact bo.out) hb);have jv:=aa.mk (aH (g:=bZ) (o:= .cells #[.slice SE eP.length SF,.slice SH eQ.length SI] 41 (0,0)) (by (with_reducible repeat (first|refine ak ?_ _|refine aq ?_|refine aj ?_ _));exact bV.out) hb);have fz:=aa.mk (aH (g:=bX) (o:= .cells #[js,jt] 41 (0,0)) (by (with_reducible repeat (first|refine ak ?_ _|refine aq ?_|refine aj ?_ _));exact dn.out) hb);have fO:=aa.mk (aE (by repeat (first|(with_reducible first|exact HB.out|apply ae|apply ab|apply af|refine ai ?_ d7.out|refine ai ?_ fV.out|refine ai ?_ iK.out)|exact HB.out)) hb);clear HO_14;clear HO_15;clear HO_290001;clear HO_290002;clear HO_304000;clear HO_304001;clear HO_313000;clear HO_313001;clear bo;clear bV;clear dn;clear HB;have HO_14:=br;have HO_15:=bt;have HO_290001:=bA;have HO_290002:=bK;have HO_304000:=cL;have HO_304001:=dc;have HO_313000:=dQ;have HO_313001:=gL;have bo:=hY;have bV:=jv;have dn:=fz;have HB:=fO;clear br bt bA bK cL dc dQ gL hY jv fz fO;(try clear hb);(try clear hb2);(try clear hk);(try clear hi)))
       go_ret
       exact ⟨by first|rfl|(simp [bB,bC]<;>rfl)|(simp [*,bB,bC]<;>rfl),by repeat (first|(with_reducible first|exact HB.out|apply ae|apply ab|apply af|refine ai ?_ d7.out|refine ai ?_ fV.out|refine ai ?_ iK.out)|exact HB.out)⟩
      replace Xp:=Bool.eq_false_iff.mpr Xp
      subst Xp
      have H1:(some false)=some r:=by rw [if_neg (show ¬(false=true) by decide)] at H;exact H
      clear H
      have H:=H1
      clear H1
      obtain rfl:=Option.some.inj H
      go_wp2_with (first|((with_reducible refine bY (f:=39) rfl ?_);refine er (some 82) rfl rfl Try.func39 (by kernel_rfl) rfl #[] rfl (by (try simp only [List.map_toArray,List.map_cons,List.map_nil]);first|done|rfl|(simp only [List.length_drop,List.length_take];rfl)) ?_;(with_reducible refine (dr.calls false _ Xo.out).mono ?_);rintro e aeQ ⟨rfl,hb⟩;refine ⟨_,rfl, ?_⟩;have br:=aa.mk (Kd.aZ (by (with_reducible repeat (first|apply Kd.aw|apply Kd.av|apply Kd.aA));exact HO_14.out) hb);have bt:=aa.mk (Kd.aZ (by (with_reducible repeat (first|apply Kd.aw|apply Kd.av|apply Kd.aA));exact HO_15.out) hb);have bA:=aa.mk (Kd.aZ (by (with_reducible repeat (first|apply Kd.aw|apply Kd.av|apply Kd.aA));exact HO_290001.out) hb);have bK:=aa.mk (Kd.aZ (by (with_reducible repeat (first|apply Kd.aw|apply Kd.av|apply Kd.aA));exact HO_290002.out) hb);have cL:=aa.mk (Kd.eK (by (with_reducible repeat (first|apply Kd.cS|apply Kd.cT|apply Kd.dB));exact HO_304000.out) hb);have dc:=aa.mk (Kd.eK (by (with_reducible repeat (first|apply Kd.cS|apply Kd.cT|apply Kd.dB));exact HO_304001.out) hb);have dQ:=aa.mk (Kd.aZ (by (with_reducible repeat (first|apply Kd.aw|apply Kd.av|apply Kd.aA));exact HO_313000.out) hb);have gL:=aa.mk (Kd.aZ (by (with_reducible repeat (first|apply Kd.aw|apply Kd.av|apply Kd.aA));exact HO_313001.out) hb);have hY:=aa.mk (aH (g:=bE) (o:= .cells #[.int .i64 cU,.slice fo cz.length fp,.slice fu cq.length fw] 26 (0,0)) (by (with_reducible repeat (first|refine ak ?_ _|refine aq ?_|refine aj ?_ _));exact bo.out) hb);have jv:=aa.mk (aH (g:=bZ) (o:= .cells #[nl,nn] 41 (0,0)) (by (with_reducible repeat (first|refine ak ?_ _|refine aq ?_|refine aj ?_ _));exact bV.out) hb);have fz:=aa.mk (aH (g:=bX) (o:= .cells #[js,jt] 41 (0,0)) (by (with_reducible repeat (first|refine ak ?_ _|refine aq ?_|refine aj ?_ _));exact dn.out) hb);have fO:=aa.mk (aE (by repeat (first|(with_reducible first|exact HB.out|apply ae|apply ab|apply af|refine ai ?_ d7.out|refine ai ?_ fV.out|refine ai ?_ iK.out)|exact HB.out)) hb);clear HO_14;clear HO_15;clear HO_290001;clear HO_290002;clear HO_304000;clear HO_304001;clear HO_313000;clear HO_313001;clear bo;clear bV;clear dn;clear HB;have HO_14:=br;have HO_15:=bt;have HO_290001:=bA;have HO_290002:=bK;have HO_304000:=cL;have HO_304001:=dc;have HO_313000:=dQ;have HO_313001:=gL;have bo:=hY;have bV:=jv;have dn:=fz;have HB:=fO;clear br bt bA bK cL dc dQ gL hY jv fz fO;(try clear hb);(try clear hb2);(try clear hk);(try clear hi)))
      go_ret
      exact ⟨by first|rfl|(simp [bB,bC]<;>rfl)|(simp [*,bB,bC]<;>rfl),by repeat (first|(with_reducible first|exact HB.out|apply ae|apply ab|apply af|refine ai ?_ d7.out|refine ai ?_ fV.out|refine ai ?_ iK.out)|exact HB.out)⟩
   rw [if_neg oh] at H
   exact absurd H (by simp)
  rw [if_neg sZ] at H
  exact absurd H (by simp)
 replace xc:=Bool.eq_false_iff.mpr xc
 subst xc
 have H1:((dr.f).bind fun sq=>(if sq=true then ((cf.f cU cz cq l2 l1 jd iY).bind fun pX=>(some pX)) else (some false)))=some r:=by rw [if_neg (show ¬(false=true) by decide)] at H;exact H
 clear H
 have H:=H1
 clear H1
 replace H:=Option.bind_eq_some_iff.mp H
 obtain ⟨sq,Mn,H⟩:=H
 replace H:(if sq=true then ((cf.f cU cz cq l2 l1 jd iY).bind fun pX=>(some pX)) else (some false))=some r:=H
 have SK:=aa.mk Mn
 clear Mn
 by_cases Lg:sq=true
 ·subst Lg
  have H1:((cf.f cU cz cq l2 l1 jd iY).bind fun pX=>(some pX))=some r:=by rw [if_pos rfl] at H;exact H
  clear H
  have H:=H1
  clear H1
  replace H:=Option.bind_eq_some_iff.mp H
  obtain ⟨pX,Mo,H⟩:=H
  replace H:(some pX)=some r:=H
  have aaJ:=aa.mk Mo
  clear Mo
  obtain rfl:=Option.some.inj H
  go_enter Try.func4,Try.ntmps4
  try go_wp2_with (first|((with_reducible refine bY (f:=31) rfl ?_);refine er (some 21) rfl rfl Try.func31 (by kernel_rfl) rfl #[.slice A0 l0.length c0] rfl (by (try simp only [List.map_toArray,List.map_cons,List.map_nil]);first|done|rfl|(simp only [List.length_drop,List.length_take];rfl)) ?_;(with_reducible refine (aG.calls k _ _ l0 cU cz cq _ ?bS ?bT A7.out).mono ?_);(case bS=>repeat (first|exact xJ.out|(with_reducible refine Kd.aT ?_ _)|(with_reducible refine Kd.aU ?_ _)|(with_reducible refine Kd.bk ?_)));(case bT=>exact Fu.out);rintro e aeR ⟨RG,RH,rfl,mN,qh,hb⟩;refine ⟨_,rfl, ?_⟩;have br:=aa.mk (Kd.eH mN (az (by repeat (first|(with_reducible first|exact HB.out|apply ae|apply ab|apply af)|exact HB.out))));have bt:=aa.mk (Kd.eH qh (az (by repeat (first|(with_reducible first|exact HB.out|apply ae|apply ab|apply af)|exact HB.out))));have bA:=aa.mk (aE (by repeat (first|(with_reducible first|exact HB.out|apply ae|apply ab|apply af)|exact HB.out)) hb);clear HB;have cj:=br;have cl:=bt;have HB:=bA;clear br bt bA;(try clear hb);(try clear hb2);(try clear hk);(try clear hi);(try clear mN);(try clear qh))|((with_reducible refine bF (N:=13) rfl ?_);refine bH ?hg (N:=13) ?hd (cs:=#[.int .i64 0,.slice none 0 0,.slice none 0 0]) (t:=26) ?hr ?_;(case hd=>rfl);(case hg=>rfl);(case hr=>first|(go_simp;done)|(go_simp;rfl));intro bE hg Ch hbox hb;have br:=aa.mk (Kd.aZ (by (with_reducible repeat (first|apply Kd.aw|apply Kd.av|apply Kd.aA));exact cj.out) hb);have bt:=aa.mk (Kd.aZ (by (with_reducible repeat (first|apply Kd.aw|apply Kd.av|apply Kd.aA));exact cl.out) hb);have bA:=aa.mk (aE (by repeat (first|(with_reducible first|exact HB.out|apply ae|apply ab|apply af)|exact HB.out)) hb);have bK:=aa.mk (hbox);have cL:=aa.mk ((by rw [hg];exact (az (by repeat (first|(with_reducible first|exact HB.out|apply ae|apply ab|apply af)|exact HB.out))):w.heap.size≤bE));have dc:=aa.mk ((by rw [hg];exact (az (by repeat (first|(with_reducible first|exact HB.out|apply ae|apply ab|apply af)|exact HB.out))):w.heap.size≤bE));clear cj;clear cl;clear HB;have cj:=br;have cl:=bt;have HB:=bA;have bo:=bK;have Mk:=cL;have d7:=dc;clear br bt bA bK cL dc;clear hb hbox hg;have SL:Ch.cell? ⟨bE,0,none⟩=some (.int .i64 0):=(ag bo.out 0).trans rfl;have SM:Ch.cell? ⟨bE,1,none⟩=some (.slice none 0 0):=(ag bo.out 1).trans rfl;have SN:Ch.cell? ⟨bE,2,none⟩=some (.slice none 0 0):=(ag bo.out 2).trans rfl;have SP:=ah bo.out 0;have SQ:=ah bo.out 1;have SR:=ah bo.out 2;obtain ⟨jU,jV,SS⟩:=Kd.cA cj.out;subst SS;obtain ⟨j6,j7,SU⟩:=Kd.cA cl.out;subst SU))
  have br:aa (Kd.R oS 97 (((Ch.setCell ⟨bE,0,none⟩ (.int .i64 cU)).setCell ⟨bE,1,none⟩ (.slice jU cz.length jV)).setCell ⟨bE,2,none⟩ (.slice j6 cq.length j7)) w.heap.size (fun _=>True) (.slice jU cz.length jV) cz):=⟨by (with_reducible repeat (first|apply Kd.aw|apply Kd.av|apply Kd.aA));exact Kd.bN (Kd.cg (p:=⟨bE,2,none⟩) (Kd.cg (p:=⟨bE,1,none⟩) (Kd.cg (p:=⟨bE,0,none⟩) (Kd.dL cj.out bo.out (by decide)) (fun _ hk=>hk.2) (.int .i64 cU)) (fun _ hk=>hk.2) (.slice jU cz.length jV)) (fun _ hk=>hk.2) (.slice j6 cq.length j7)) (fun _ hk=>trivial)⟩
  have bt:aa (Kd.R nD 36 (((Ch.setCell ⟨bE,0,none⟩ (.int .i64 cU)).setCell ⟨bE,1,none⟩ (.slice jU cz.length jV)).setCell ⟨bE,2,none⟩ (.slice j6 cq.length j7)) w.heap.size (fun _=>True) (.slice j6 cq.length j7) cq):=⟨by (with_reducible repeat (first|apply Kd.aw|apply Kd.av|apply Kd.aA));exact Kd.bN (Kd.cg (p:=⟨bE,2,none⟩) (Kd.cg (p:=⟨bE,1,none⟩) (Kd.cg (p:=⟨bE,0,none⟩) (Kd.dL cl.out bo.out (by decide)) (fun _ hk=>hk.2) (.int .i64 cU)) (fun _ hk=>hk.2) (.slice jU cz.length jV)) (fun _ hk=>hk.2) (.slice j6 cq.length j7)) (fun _ hk=>trivial)⟩
  have bA:aa ((((Ch.setCell ⟨bE,0,none⟩ (.int .i64 cU)).setCell ⟨bE,1,none⟩ (.slice jU cz.length jV)).setCell ⟨bE,2,none⟩ (.slice j6 cq.length j7)).heap[bE]? =some (.cells #[.int .i64 cU,.slice jU cz.length jV,.slice j6 cq.length j7] 26 (0,0))):=⟨by (with_reducible repeat (first|refine ak ?_ _|refine aq ?_|refine aj ?_ _));refine df (cs:=#[.int .i64 cU,.slice jU cz.length jV,.slice none 0 0]) ?_ 2 _ rfl;(with_reducible repeat (first|refine ak ?_ _|refine aq ?_|refine aj ?_ _));refine df (cs:=#[.int .i64 cU,.slice none 0 0,.slice none 0 0]) ?_ 1 _ rfl;(with_reducible repeat (first|refine ak ?_ _|refine aq ?_|refine aj ?_ _));refine df (cs:=#[.int .i64 0,.slice none 0 0,.slice none 0 0]) ?_ 0 _ rfl;(with_reducible repeat (first|refine ak ?_ _|refine aq ?_|refine aj ?_ _));exact bo.out⟩
  have bK:aa (Below w.heap.size w (((Ch.setCell ⟨bE,0,none⟩ (.int .i64 cU)).setCell ⟨bE,1,none⟩ (.slice jU cz.length jV)).setCell ⟨bE,2,none⟩ (.slice j6 cq.length j7))):=⟨by repeat (first|(with_reducible first|exact HB.out|apply ae|apply ab|apply af|refine ai ?_ d7.out)|exact HB.out)⟩
  (try clear cj);(try clear cl);(try clear bo);(try clear HB)
  generalize (((Ch.setCell ⟨bE,0,none⟩ (.int .i64 cU)).setCell ⟨bE,1,none⟩ (.slice jU cz.length jV)).setCell ⟨bE,2,none⟩ (.slice j6 cq.length j7))=aaK at br bt bA bK ⊢
  have cj:=br;have cl:=bt;have bo:=bA;have HB:=bK
  clear br bt bA bK
  have br:=aa.mk (Kd.aA cj.out)
  have bt:=aa.mk (Kd.aA cl.out)
  have bA:=aa.mk (aq bo.out)
  have bK:=aa.mk (af HB.out)
  clear cj cl bo HB
  have cj:=br;have cl:=bt;have bo:=bA;have HB:=bK
  clear br bt bA bK
  refine ju (n:=10) (S:=fun w'=>w'.cell? ⟨bE,0,none⟩=some (.int .i64 cU)∧w'.cell? ⟨bE,1,none⟩=some (.slice jU cz.length jV)∧w'.cell? ⟨bE,2,none⟩=some (.slice j6 cq.length j7)) (ds:=[]) #[false,false,false,false,false,false,false,false,false,false] (by kernel_rfl) rfl rfl ⟨(ag bo.out 0).trans rfl,(ag bo.out 1).trans rfl,(ag bo.out 2).trans rfl⟩ (fun hHeld=> ?_);refine fN ay.OJ ay.ID (fun HT_ HW_=> ?_)
  generalize aaK.drew=aeS at cj cl bo HB hHeld ⊢
  refine bP (i:=0) (N:=some 22) (v:= ?_) (a':= ?_) #[true,false,false,false,false,false,false,false,false,false] rfl rfl (bz HT_.out (by kernel_rfl)) (fun _ _ _ h=>h) (Or.inl ⟨by rfl, ?_⟩) ?_ ?_
  rotate_left
  ·intro w'
   go_simp
   with_reducible rfl
  rotate_left
  ·simp only [Act.put,dg,dh,di,aY,a9]
   rfl
  refine bP (i:=1) (N:=some 23) (v:= ?_) (a':= ?_) #[true,true,false,false,false,false,false,false,false,false] rfl rfl (bz HT_.out (by kernel_rfl)) (fun _ _ _ h=>h) (Or.inl ⟨by rfl, ?_⟩) ?_ ?_
  rotate_left
  ·intro w'
   go_simp
   with_reducible rfl
  rotate_left
  ·simp only [Act.put,dg,dh,di,aY,a9]
   rfl
  refine bP (i:=6) (N:=some 28) (v:= ?_) (a':= ?_) #[true,true,false,false,false,false,true,false,false,false] rfl rfl (bz HT_.out (by kernel_rfl)) (fun _ _ _ h=>h) (Or.inl ⟨by rfl, ?_⟩) ?_ ?_
  rotate_left
  ·intro w'
   go_simp
   with_reducible rfl
  rotate_left
  ·simp only [Act.put,dg,dh,di,aY,a9]
   rfl
  refine eL (i:=2) (N:=some 24) (v:= ?_) (a':= ?_) #[true,true,true,false,false,false,true,false,false,false] rfl rfl (cO HT_.out HW_.out (by kernel_rfl)) (fun _ _ _ h=>h) (Or.inl ⟨by rfl, ?_⟩) hHeld ?_ ?_
  rotate_left
  ·rintro w' ⟨s0,s1,s2⟩
   go_simp
   with_reducible rfl
  rotate_left
  ·simp only [Act.put,dg,dh,di,aY,a9]
   rfl
  refine bP (i:=3) (N:=some 25) (v:= ?_) (a':= ?_) #[true,true,true,true,false,false,true,false,false,false] rfl rfl (bz HT_.out (by kernel_rfl)) (fun _ _ _ h=>h) (Or.inl ⟨by rfl, ?_⟩) ?_ ?_
  rotate_left
  ·intro w'
   go_simp
   with_reducible rfl
  rotate_left
  ·simp only [Act.put,dg,dh,di,aY,a9]
   rfl
  refine eL (i:=5) (N:=some 27) (v:= ?_) (a':= ?_) #[true,true,true,true,false,true,true,false,false,false] rfl rfl (cO HT_.out HW_.out (by kernel_rfl)) (fun _ _ _ h=>h) (Or.inl ⟨by rfl, ?_⟩) hHeld ?_ ?_
  rotate_left
  ·rintro w' ⟨s0,s1,s2⟩
   go_simp
   with_reducible rfl
  rotate_left
  ·simp only [Act.put,dg,dh,di,aY,a9]
   rfl
  refine iP (i:=4) (N:=some 26) #[true,true,true,true,true,true,true,false,false,false] rfl rfl (dZ HT_.out (by kernel_rfl)) (by decide) (fun K hK=> ?_)
  refine mA Try.func36 (by kernel_rfl) rfl #[.slice A2 l2.length c2,.int .i64 (cq.length:Int)] (by rfl) rfl rfl (by (try simp only [List.map_toArray,List.map_cons,List.map_nil]);first|done|rfl|(simp only [List.length_drop,List.length_take];rfl)) ?_
  with_reducible refine (cD.calls k _ _ l2 (cq.length:Int) jd _ ?bS ?bT A8.out).mono ?_
  (case bS=>repeat (first|exact (Kd.aN qn.out HB.out)|(with_reducible refine Kd.aT ?_ _)|(with_reducible refine Kd.aU ?_ _)|(with_reducible refine Kd.bk ?_)))
  (case bT=>exact lm.out)
  rintro e aeT ⟨gJ,rfl,mN,hb⟩
  refine ⟨_,rfl, ?_⟩
  have br:=aa.mk (Kd.aZ (by (with_reducible repeat (first|apply Kd.aw|apply Kd.av|apply Kd.aA));exact cj.out) hb)
  have bt:=aa.mk (Kd.aZ (by (with_reducible repeat (first|apply Kd.aw|apply Kd.av|apply Kd.aA));exact cl.out) hb)
  have bA:=aa.mk (Kd.eH mN (az (by repeat (first|(with_reducible first|exact HB.out|apply ae|apply ab|apply af|refine ai ?_ d7.out)|exact HB.out))))
  have bK:=aa.mk (aH (g:=bE) (o:= .cells #[.int .i64 cU,.slice jU cz.length jV,.slice j6 cq.length j7] 26 (0,0)) (by (with_reducible repeat (first|refine ak ?_ _|refine aq ?_|refine aj ?_ _));exact bo.out) hb)
  have cL:=aa.mk (aE (by repeat (first|(with_reducible first|exact HB.out|apply ae|apply ab|apply af|refine ai ?_ d7.out)|exact HB.out)) hb)
  clear cj cl bo HB
  have cj:=br;have cl:=bt;have cV:=bA;have bo:=bK;have HB:=cL
  clear br bt bA bK cL
  (try clear hb);(try clear hb2);(try clear hk);(try clear hi);(try clear mN)
  refine hK.out _ _ ⟨(ag bo.out 0).trans rfl,(ag bo.out 1).trans rfl,(ag bo.out 2).trans rfl⟩ (fun hHeld=> ?_)
  clear hK K
  refine eM (a':= ?_) ?_ ?_
  rotate_left
  ·show Act.put _ (some 26) _=_
   simp only [Act.put,dg,dh,di,aY,a9]
   rfl
  refine iP (i:=7) (N:=some 29) #[true,true,true,true,true,true,true,true,false,false] rfl rfl (dZ HT_.out (by kernel_rfl)) (by decide) (fun K hK=> ?_)
  refine mA Try.func37 (by kernel_rfl) rfl #[.agg #[.int .i64 cU,.slice jU cz.length jV,.slice j6 cq.length j7],.slice A1 l1.length c1] (by rfl) rfl rfl (by (try simp only [List.map_toArray,List.map_cons,List.map_nil]);first|done|rfl|(simp only [List.length_drop,List.length_take];rfl)) ?_
  with_reducible refine (cC.calls k cU _ _ cz _ _ cq _ _ l1 iY _ ?bS ?bT ?cJ ?cN ?du ?dw A9.out).mono ?_
  (case bS=>repeat (first|exact (Kd.bf cj.out).2.2|(with_reducible refine Kd.aT ?_ _)|(with_reducible refine Kd.aU ?_ _)|(with_reducible refine Kd.bk ?_)))
  (case bT=>exact (Kd.bf cj.out).2.1)
  (case cJ=>repeat (first|exact (Kd.bf cl.out).2.2|(with_reducible refine Kd.aT ?_ _)|(with_reducible refine Kd.aU ?_ _)|(with_reducible refine Kd.bk ?_)))
  (case cN=>exact (Kd.bf cl.out).2.1)
  (case du=>repeat (first|exact (Kd.aN lA.out HB.out)|(with_reducible refine Kd.aT ?_ _)|(with_reducible refine Kd.aU ?_ _)|(with_reducible refine Kd.bk ?_)))
  (case dw=>exact pK.out)
  rintro e OZ ⟨gK,rfl,mN,hb⟩
  refine ⟨_,rfl, ?_⟩
  have br:=aa.mk (Kd.aZ (by (with_reducible repeat (first|apply Kd.aw|apply Kd.av|apply Kd.aA));exact cj.out) hb)
  have bt:=aa.mk (Kd.aZ (by (with_reducible repeat (first|apply Kd.aw|apply Kd.av|apply Kd.aA));exact cl.out) hb)
  have bA:=aa.mk (Kd.kx (by (with_reducible repeat (first|apply Kd.aw|apply Kd.av|apply Kd.aA));exact cV.out) (Kd.iZ mN) hb)
  have bK:=aa.mk (Kd.eH (Kd.oy mN (Kd.gq (by (with_reducible repeat (first|apply Kd.aw|apply Kd.av|apply Kd.aA));exact cV.out))) (az (by repeat (first|(with_reducible first|exact HB.out|apply ae|apply ab|apply af|refine ai ?_ d7.out)|exact HB.out))))
  have cL:=aa.mk (aH (g:=bE) (o:= .cells #[.int .i64 cU,.slice jU cz.length jV,.slice j6 cq.length j7] 26 (0,0)) (by (with_reducible repeat (first|refine ak ?_ _|refine aq ?_|refine aj ?_ _));exact bo.out) hb)
  have dc:=aa.mk (aE (by repeat (first|(with_reducible first|exact HB.out|apply ae|apply ab|apply af|refine ai ?_ d7.out)|exact HB.out)) hb)
  clear cj cl cV bo HB
  have cj:=br;have cl:=bt;have cV:=bA;have dx:=bK;have bo:=cL;have HB:=dc
  clear br bt bA bK cL dc
  (try clear hb);(try clear hb2);(try clear hk);(try clear hi);(try clear mN)
  refine hK.out _ _ ⟨(ag bo.out 0).trans rfl,(ag bo.out 1).trans rfl,(ag bo.out 2).trans rfl⟩ (fun hHeld=> ?_)
  clear hK K
  refine eM (a':= ?_) ?_ ?_
  rotate_left
  ·show Act.put _ (some 29) _=_
   simp only [Act.put,dg,dh,di,aY,a9]
   rfl
  refine bP (i:=8) (N:=some 14) (v:= ?_) (a':= ?_) #[true,true,true,true,true,true,true,true,true,false] rfl rfl (bz HT_.out (by kernel_rfl)) (fun _ _ _ h=>h) (Or.inl ⟨by rfl, ?_⟩) ?_ ?_
  rotate_left
  ·intro w'
   go_simp
   with_reducible rfl
  rotate_left
  ·simp only [Act.put,dg,dh,di,aY,a9]
   rfl
  refine bP (i:=9) (N:=some 15) (v:= ?_) (a':= ?_) #[true,true,true,true,true,true,true,true,true,true] rfl rfl (bz HT_.out (by kernel_rfl)) (fun _ _ _ h=>h) (Or.inl ⟨by rfl, ?_⟩) ?_ ?_
  rotate_left
  ·intro w'
   go_simp
   with_reducible rfl
  rotate_left
  ·simp only [Act.put,dg,dh,di,aY,a9]
   rfl
  refine j1 (gD HT_.out (by kernel_rfl)) ?_
  have SV:OZ.cell? ⟨bE,0,none⟩=some (.int .i64 cU):=(ag bo.out 0).trans rfl
  have SW:OZ.cell? ⟨bE,1,none⟩=some (.slice jU cz.length jV):=(ag bo.out 1).trans rfl
  have SX:OZ.cell? ⟨bE,2,none⟩=some (.slice j6 cq.length j7):=(ag bo.out 2).trans rfl
  have SY:=ah bo.out 0
  have SZ:=ah bo.out 1
  have S0:=ah bo.out 2
  try go_wp2_with (first|((with_reducible refine bY (f:=38) rfl ?_);refine er (some 33) rfl rfl Try.func38 (by kernel_rfl) rfl #[.agg #[.int .i64 cU,.slice jU cz.length jV,.slice j6 cq.length j7],.int .i64 a3] rfl (by (try simp only [List.map_toArray,List.map_cons,List.map_nil]);first|done|rfl|(simp only [List.length_drop,List.length_take];rfl)) ?_;(with_reducible refine (ew.calls k cU _ _ cz _ _ cq a3 eE eG false _ ?bS ?bT ?cJ ?cN LP.out).mono ?_);(case bS=>repeat (first|exact (Kd.bf cj.out).2.2|(with_reducible refine Kd.aT ?_ _)|(with_reducible refine Kd.aU ?_ _)|(with_reducible refine Kd.bk ?_)));(case bT=>exact (Kd.bf cj.out).2.1);(case cJ=>repeat (first|exact (Kd.bf cl.out).2.2|(with_reducible refine Kd.aT ?_ _)|(with_reducible refine Kd.aU ?_ _)|(with_reducible refine Kd.bk ?_)));(case cN=>exact (Kd.bf cl.out).2.1);rintro e aeU ⟨RI,RJ,rfl,mN,qh,hb⟩;refine ⟨_,rfl, ?_⟩;have br:=aa.mk (Kd.aZ (by (with_reducible repeat (first|apply Kd.aw|apply Kd.av|apply Kd.aA));exact cj.out) hb);have bt:=aa.mk (Kd.aZ (by (with_reducible repeat (first|apply Kd.aw|apply Kd.av|apply Kd.aA));exact cl.out) hb);have bA:=aa.mk (Kd.aZ (by (with_reducible repeat (first|apply Kd.aw|apply Kd.av|apply Kd.aA));exact cV.out) hb);have bK:=aa.mk (Kd.aZ (by (with_reducible repeat (first|apply Kd.aw|apply Kd.av|apply Kd.aA));exact dx.out) hb);have cL:=aa.mk (Kd.rD (Kd.fM (ok':=fun k_=>some k_≠(.slice jU cz.length jV:Value).ownBlock∧some k_≠(.slice j6 cq.length j7:Value).ownBlock∧some k_≠(gJ:Value).ownBlock∧some k_≠(gK:Value).ownBlock∧k_≠bE) mN (fun k_ hk_=>⟨(Kd.eR (Kd.gq (by (with_reducible repeat (first|apply Kd.aw|apply Kd.av|apply Kd.aA));exact cj.out)) k_ hk_),(Kd.eR (Kd.gq (by (with_reducible repeat (first|apply Kd.aw|apply Kd.av|apply Kd.aA));exact cl.out)) k_ hk_),(Kd.eR (Kd.gq (by (with_reducible repeat (first|apply Kd.aw|apply Kd.av|apply Kd.aA));exact cV.out)) k_ hk_),(Kd.eR (Kd.gq (by (with_reducible repeat (first|apply Kd.aw|apply Kd.av|apply Kd.aA));exact dx.out)) k_ hk_),(Kd.lu (g:=bE) (o:= .cells #[.int .i64 cU,.slice jU cz.length jV,.slice j6 cq.length j7] 26 (0,0)) (by (with_reducible repeat (first|refine ak ?_ _|refine aq ?_|refine aj ?_ _));exact bo.out) k_ hk_)⟩)) (az (by repeat (first|(with_reducible first|exact HB.out|apply ae|apply ab|apply af|refine ai ?_ d7.out)|exact HB.out))));have dc:=aa.mk (Kd.rD (Kd.fM (ok':=fun k_=>some k_≠(.slice jU cz.length jV:Value).ownBlock∧some k_≠(.slice j6 cq.length j7:Value).ownBlock∧some k_≠(gJ:Value).ownBlock∧some k_≠(gK:Value).ownBlock∧k_≠bE) qh (fun k_ hk_=>⟨(Kd.eR (Kd.gq (by (with_reducible repeat (first|apply Kd.aw|apply Kd.av|apply Kd.aA));exact cj.out)) k_ hk_),(Kd.eR (Kd.gq (by (with_reducible repeat (first|apply Kd.aw|apply Kd.av|apply Kd.aA));exact cl.out)) k_ hk_),(Kd.eR (Kd.gq (by (with_reducible repeat (first|apply Kd.aw|apply Kd.av|apply Kd.aA));exact cV.out)) k_ hk_),(Kd.eR (Kd.gq (by (with_reducible repeat (first|apply Kd.aw|apply Kd.av|apply Kd.aA));exact dx.out)) k_ hk_),(Kd.lu (g:=bE) (o:= .cells #[.int .i64 cU,.slice jU cz.length jV,.slice j6 cq.length j7] 26 (0,0)) (by (with_reducible repeat (first|refine ak ?_ _|refine aq ?_|refine aj ?_ _));exact bo.out) k_ hk_)⟩)) (az (by repeat (first|(with_reducible first|exact HB.out|apply ae|apply ab|apply af|refine ai ?_ d7.out)|exact HB.out))));have dQ:=aa.mk (aH (g:=bE) (o:= .cells #[.int .i64 cU,.slice jU cz.length jV,.slice j6 cq.length j7] 26 (0,0)) (by (with_reducible repeat (first|refine ak ?_ _|refine aq ?_|refine aj ?_ _));exact bo.out) hb);have gL:=aa.mk (aE (by repeat (first|(with_reducible first|exact HB.out|apply ae|apply ab|apply af|refine ai ?_ d7.out)|exact HB.out)) hb);clear cj;clear cl;clear cV;clear dx;clear bo;clear HB;have cj:=br;have cl:=bt;have cV:=bA;have dx:=bK;have d8:=cL;have dX:=dc;have bo:=dQ;have HB:=gL;clear br bt bA bK cL dc dQ gL;(try clear hb);(try clear hb2);(try clear hk);(try clear hi);(try clear mN);(try clear qh))|((with_reducible refine bF (N:=16) rfl ?_);refine bH ?hg (N:=16) ?hd (cs:=#[.slice none 0 0,.slice none 0 0]) (t:=41) ?hr ?_;(case hd=>rfl);(case hg=>rfl);(case hr=>first|(go_simp;done)|(go_simp;rfl));intro bZ hg S1 hbox hb;have br:=aa.mk (Kd.aZ (by (with_reducible repeat (first|apply Kd.aw|apply Kd.av|apply Kd.aA));exact cj.out) hb);have bt:=aa.mk (Kd.aZ (by (with_reducible repeat (first|apply Kd.aw|apply Kd.av|apply Kd.aA));exact cl.out) hb);have bA:=aa.mk (Kd.aZ (by (with_reducible repeat (first|apply Kd.aw|apply Kd.av|apply Kd.aA));exact cV.out) hb);have bK:=aa.mk (Kd.aZ (by (with_reducible repeat (first|apply Kd.aw|apply Kd.av|apply Kd.aA));exact dx.out) hb);have cL:=aa.mk (Kd.eK (Kd.ky (by (with_reducible repeat (first|apply Kd.cS|apply Kd.cT|apply Kd.dB));exact d8.out) bZ (Nat.le_of_eq hg.symm)) hb);have dc:=aa.mk (Kd.eK (Kd.ky (by (with_reducible repeat (first|apply Kd.cS|apply Kd.cT|apply Kd.dB));exact dX.out) bZ (Nat.le_of_eq hg.symm)) hb);have dQ:=aa.mk (aH (g:=bE) (o:= .cells #[.int .i64 cU,.slice jU cz.length jV,.slice j6 cq.length j7] 26 (0,0)) (by (with_reducible repeat (first|refine ak ?_ _|refine aq ?_|refine aj ?_ _));exact bo.out) hb);have gL:=aa.mk (aE (by repeat (first|(with_reducible first|exact HB.out|apply ae|apply ab|apply af|refine ai ?_ d7.out)|exact HB.out)) hb);have hY:=aa.mk (hbox);have jv:=aa.mk ((by rw [hg];exact (az (by repeat (first|(with_reducible first|exact HB.out|apply ae|apply ab|apply af|refine ai ?_ d7.out)|exact HB.out))):w.heap.size≤bZ));have fz:=aa.mk ((by rw [hg];exact (az (by repeat (first|(with_reducible first|exact HB.out|apply ae|apply ab|apply af|refine ai ?_ d7.out)|exact HB.out))):w.heap.size≤bZ));have fO:=aa.mk ((by rw [hg];exact Nat.ne_of_lt (cn (g:=bE) (o:= .cells #[.int .i64 cU,.slice jU cz.length jV,.slice j6 cq.length j7] 26 (0,0)) (by (with_reducible repeat (first|refine ak ?_ _|refine aq ?_|refine aj ?_ _));exact bo.out)):bE≠bZ));have oD:=aa.mk ((by rw [hg];exact Nat.ne_of_gt (cn (g:=bE) (o:= .cells #[.int .i64 cU,.slice jU cz.length jV,.slice j6 cq.length j7] 26 (0,0)) (by (with_reducible repeat (first|refine ak ?_ _|refine aq ?_|refine aj ?_ _));exact bo.out)):bZ≠bE));clear cj;clear cl;clear cV;clear dx;clear d8;clear dX;clear bo;clear HB;have cj:=br;have cl:=bt;have cV:=bA;have dx:=bK;have d8:=cL;have dX:=dc;have bo:=dQ;have HB:=gL;have bV:=hY;have Ml:=jv;have fV:=fz;have iL:=fO;have mw:=oD;clear br bt bA bK cL dc dQ gL hY jv fz fO oD;clear hb hbox hg;obtain ⟨ub,uc,S3⟩:=Kd.lS d8.out;subst S3;have aaL:=mw.out;have aaM:=iL.out;have S4:S1.cell? ⟨bZ,0,none⟩=some (.slice none 0 0):=(ag bV.out 0).trans rfl;have S5:S1.cell? ⟨bZ,1,none⟩=some (.slice none 0 0):=(ag bV.out 1).trans rfl;have S6:=ah bV.out 0;have S7:=ah bV.out 1;obtain ⟨u4,u5,S8⟩:=Kd.lS dX.out;subst S8)|((with_reducible refine bY (f:=39) rfl ?_);refine er (some 38) rfl rfl Try.func39 (by kernel_rfl) rfl #[] rfl (by (try simp only [List.map_toArray,List.map_cons,List.map_nil]);first|done|rfl|(simp only [List.length_drop,List.length_take];rfl)) ?_;(with_reducible refine (dr.calls true _ SK.out).mono ?_);rintro e O0 ⟨rfl,hb⟩;refine ⟨_,rfl, ?_⟩;have br:=aa.mk (Kd.aZ (by (with_reducible repeat (first|apply Kd.aw|apply Kd.av|apply Kd.aA));exact (Kd.bN (Kd.cg (p:=⟨bZ,1,none⟩) (Kd.cg (p:=⟨bZ,0,none⟩) (Kd.dL cj.out bV.out (by decide)) (fun _ hk=>hk.2) (.slice ub eE.length uc)) (fun _ hk=>hk.2) (.slice u4 eG.length u5)) (fun _ h_=>h_.1))) hb);have bt:=aa.mk (Kd.aZ (by (with_reducible repeat (first|apply Kd.aw|apply Kd.av|apply Kd.aA));exact (Kd.bN (Kd.cg (p:=⟨bZ,1,none⟩) (Kd.cg (p:=⟨bZ,0,none⟩) (Kd.dL cl.out bV.out (by decide)) (fun _ hk=>hk.2) (.slice ub eE.length uc)) (fun _ hk=>hk.2) (.slice u4 eG.length u5)) (fun _ h_=>h_.1))) hb);have bA:=aa.mk (Kd.aZ (by (with_reducible repeat (first|apply Kd.aw|apply Kd.av|apply Kd.aA));exact (Kd.bN (Kd.cg (p:=⟨bZ,1,none⟩) (Kd.cg (p:=⟨bZ,0,none⟩) (Kd.dL cV.out bV.out (by decide)) (fun _ hk=>hk.2) (.slice ub eE.length uc)) (fun _ hk=>hk.2) (.slice u4 eG.length u5)) (fun _ h_=>h_.1))) hb);have bK:=aa.mk (Kd.aZ (by (with_reducible repeat (first|apply Kd.aw|apply Kd.av|apply Kd.aA));exact (Kd.bN (Kd.cg (p:=⟨bZ,1,none⟩) (Kd.cg (p:=⟨bZ,0,none⟩) (Kd.dL dx.out bV.out (by decide)) (fun _ hk=>hk.2) (.slice ub eE.length uc)) (fun _ hk=>hk.2) (.slice u4 eG.length u5)) (fun _ h_=>h_.1))) hb);have cL:=aa.mk (Kd.eK (by (with_reducible repeat (first|apply Kd.cS|apply Kd.cT|apply Kd.dB));exact (Kd.fM (Kd.kF (p:=⟨bZ,1,none⟩) (Kd.kF (p:=⟨bZ,0,none⟩) (Kd.fM d8.out (fun k_ hk=>(⟨hk,hk.2⟩:_∧k_≠bZ))) (fun _ hk=>hk.2) (.slice ub eE.length uc)) (fun _ hk=>hk.2) (.slice u4 eG.length u5)) (fun _ h_=>h_.1))) hb);have dc:=aa.mk (Kd.eK (by (with_reducible repeat (first|apply Kd.cS|apply Kd.cT|apply Kd.dB));exact (Kd.fM (Kd.kF (p:=⟨bZ,1,none⟩) (Kd.kF (p:=⟨bZ,0,none⟩) (Kd.fM dX.out (fun k_ hk=>(⟨hk,hk.2⟩:_∧k_≠bZ))) (fun _ hk=>hk.2) (.slice ub eE.length uc)) (fun _ hk=>hk.2) (.slice u4 eG.length u5)) (fun _ h_=>h_.1))) hb);have dQ:=aa.mk (aH (g:=bE) (o:= .cells #[.int .i64 cU,.slice jU cz.length jV,.slice j6 cq.length j7] 26 (0,0)) (by (with_reducible repeat (first|refine ak ?_ _|refine aq ?_|refine aj ?_ _));refine cI ?_ iL.out _;(with_reducible repeat (first|refine ak ?_ _|refine aq ?_|refine aj ?_ _));refine cI ?_ iL.out _;(with_reducible repeat (first|refine ak ?_ _|refine aq ?_|refine aj ?_ _));exact bo.out) hb);have gL:=aa.mk (aH (g:=bZ) (o:= .cells #[.slice ub eE.length uc,.slice u4 eG.length u5] 41 (0,0)) (by (with_reducible repeat (first|refine ak ?_ _|refine aq ?_|refine aj ?_ _));refine df (cs:=#[.slice ub eE.length uc,.slice none 0 0]) ?_ 1 _ rfl;(with_reducible repeat (first|refine ak ?_ _|refine aq ?_|refine aj ?_ _));refine df (cs:=#[.slice none 0 0,.slice none 0 0]) ?_ 0 _ rfl;(with_reducible repeat (first|refine ak ?_ _|refine aq ?_|refine aj ?_ _));exact bV.out) hb);have hY:=aa.mk (aE (by repeat (first|(with_reducible first|exact HB.out|apply ae|apply ab|apply af|refine ai ?_ d7.out|refine ai ?_ fV.out)|exact HB.out)) hb);clear cj;clear cl;clear cV;clear dx;clear d8;clear dX;clear bo;clear bV;clear HB;have cj:=br;have cl:=bt;have cV:=bA;have dx:=bK;have d8:=cL;have dX:=dc;have bo:=dQ;have bV:=gL;have HB:=hY;clear br bt bA bK cL dc dQ gL hY;(try clear hb);(try clear hb2);(try clear hk);(try clear hi);have S9:O0.cell? ⟨bE,0,none⟩=some (.int .i64 cU):=(ag bo.out 0).trans rfl;have Ta:O0.cell? ⟨bE,1,none⟩=some (.slice jU cz.length jV):=(ag bo.out 1).trans rfl;have Tb:O0.cell? ⟨bE,2,none⟩=some (.slice j6 cq.length j7):=(ag bo.out 2).trans rfl;have Tc:=ah bo.out 0;have Td:=ah bo.out 1;have Te:=ah bo.out 2;obtain ⟨acT,acU,Tf⟩:=Kd.cA cV.out;subst Tf;obtain ⟨acV,acW,Tg⟩:=Kd.cA dx.out;subst Tg)|(go_at_call 40;(with_reducible refine (cf.calls cU _ _ cz _ _ cq _ _ l2 _ _ l1 _ _ jd _ _ iY pX _ ?bS ?bT ?cJ ?cN ?du ?dw ?fY ?fZ ?xC ?sV ?sW ?sX aaJ.out).mono ?_);(case bS=>repeat (first|exact (Kd.bf cj.out).2.2|(with_reducible refine Kd.aT ?_ _)|(with_reducible refine Kd.aU ?_ _)|(with_reducible refine Kd.bk ?_)));(case bT=>exact (Kd.bf cj.out).2.1);(case cJ=>repeat (first|exact (Kd.bf cl.out).2.2|(with_reducible refine Kd.aT ?_ _)|(with_reducible refine Kd.aU ?_ _)|(with_reducible refine Kd.bk ?_)));(case cN=>exact (Kd.bf cl.out).2.1);(case du=>repeat (first|exact (Kd.aN qn.out HB.out)|(with_reducible refine Kd.aT ?_ _)|(with_reducible refine Kd.aU ?_ _)|(with_reducible refine Kd.bk ?_)));(case dw=>exact lm.out);(case fY=>repeat (first|exact (Kd.aN lA.out HB.out)|(with_reducible refine Kd.aT ?_ _)|(with_reducible refine Kd.aU ?_ _)|(with_reducible refine Kd.bk ?_)));(case fZ=>exact pK.out);(case xC=>repeat (first|exact (Kd.bf cV.out).2.2|(with_reducible refine Kd.aT ?_ _)|(with_reducible refine Kd.aU ?_ _)|(with_reducible refine Kd.bk ?_)));(case sV=>exact (Kd.bf cV.out).2.1);(case sW=>repeat (first|exact (Kd.bf dx.out).2.2|(with_reducible refine Kd.aT ?_ _)|(with_reducible refine Kd.aU ?_ _)|(with_reducible refine Kd.bk ?_)));(case sX=>exact (Kd.bf dx.out).2.1);rintro e aeV ⟨rfl,hb⟩;have br:=aa.mk (Kd.aZ (by (with_reducible repeat (first|apply Kd.aw|apply Kd.av|apply Kd.aA));exact cj.out) hb);have bt:=aa.mk (Kd.aZ (by (with_reducible repeat (first|apply Kd.aw|apply Kd.av|apply Kd.aA));exact cl.out) hb);have bA:=aa.mk (Kd.aZ (by (with_reducible repeat (first|apply Kd.aw|apply Kd.av|apply Kd.aA));exact cV.out) hb);have bK:=aa.mk (Kd.aZ (by (with_reducible repeat (first|apply Kd.aw|apply Kd.av|apply Kd.aA));exact dx.out) hb);have cL:=aa.mk (Kd.eK (by (with_reducible repeat (first|apply Kd.cS|apply Kd.cT|apply Kd.dB));exact d8.out) hb);have dc:=aa.mk (Kd.eK (by (with_reducible repeat (first|apply Kd.cS|apply Kd.cT|apply Kd.dB));exact dX.out) hb);have dQ:=aa.mk (aH (g:=bE) (o:= .cells #[.int .i64 cU,.slice jU cz.length jV,.slice j6 cq.length j7] 26 (0,0)) (by (with_reducible repeat (first|refine ak ?_ _|refine aq ?_|refine aj ?_ _));exact bo.out) hb);have gL:=aa.mk (aH (g:=bZ) (o:= .cells #[.slice ub eE.length uc,.slice u4 eG.length u5] 41 (0,0)) (by (with_reducible repeat (first|refine ak ?_ _|refine aq ?_|refine aj ?_ _));exact bV.out) hb);have hY:=aa.mk (aE (by repeat (first|(with_reducible first|exact HB.out|apply ae|apply ab|apply af|refine ai ?_ d7.out|refine ai ?_ fV.out)|exact HB.out)) hb);clear cj;clear cl;clear cV;clear dx;clear d8;clear dX;clear bo;clear bV;clear HB;have cj:=br;have cl:=bt;have cV:=bA;have dx:=bK;have d8:=cL;have dX:=dc;have bo:=dQ;have bV:=gL;have HB:=hY;clear br bt bA bK cL dc dQ gL hY;(try clear hb);(try clear hb2);(try clear hk);(try clear hi)))
  go_ret
  exact ⟨by first|rfl|(simp [bB,bC]<;>rfl)|(simp [*,bB,bC]<;>rfl),by repeat (first|(with_reducible first|exact HB.out|apply ae|apply ab|apply af|refine ai ?_ d7.out|refine ai ?_ fV.out)|exact HB.out)⟩
 replace Lg:=Bool.eq_false_iff.mpr Lg
 subst Lg
 have H1:(some false)=some r:=by rw [if_neg (show ¬(false=true) by decide)] at H;exact H
 clear H
 have H:=H1
 clear H1
 obtain rfl:=Option.some.inj H
 go_enter Try.func4,Try.ntmps4
 try go_wp2_with (first|((with_reducible refine bY (f:=31) rfl ?_);refine er (some 21) rfl rfl Try.func31 (by kernel_rfl) rfl #[.slice A0 l0.length c0] rfl (by (try simp only [List.map_toArray,List.map_cons,List.map_nil]);first|done|rfl|(simp only [List.length_drop,List.length_take];rfl)) ?_;(with_reducible refine (aG.calls k _ _ l0 cU cz cq _ ?bS ?bT A7.out).mono ?_);(case bS=>repeat (first|exact xJ.out|(with_reducible refine Kd.aT ?_ _)|(with_reducible refine Kd.aU ?_ _)|(with_reducible refine Kd.bk ?_)));(case bT=>exact Fu.out);rintro e aeW ⟨RG,RH,rfl,mN,qh,hb⟩;refine ⟨_,rfl, ?_⟩;have br:=aa.mk (Kd.eH mN (az (by repeat (first|(with_reducible first|exact HB.out|apply ae|apply ab|apply af)|exact HB.out))));have bt:=aa.mk (Kd.eH qh (az (by repeat (first|(with_reducible first|exact HB.out|apply ae|apply ab|apply af)|exact HB.out))));have bA:=aa.mk (aE (by repeat (first|(with_reducible first|exact HB.out|apply ae|apply ab|apply af)|exact HB.out)) hb);clear HB;have cj:=br;have cl:=bt;have HB:=bA;clear br bt bA;(try clear hb);(try clear hb2);(try clear hk);(try clear hi);(try clear mN);(try clear qh))|((with_reducible refine bF (N:=13) rfl ?_);refine bH ?hg (N:=13) ?hd (cs:=#[.int .i64 0,.slice none 0 0,.slice none 0 0]) (t:=26) ?hr ?_;(case hd=>rfl);(case hg=>rfl);(case hr=>first|(go_simp;done)|(go_simp;rfl));intro bE hg Ci hbox hb;have br:=aa.mk (Kd.aZ (by (with_reducible repeat (first|apply Kd.aw|apply Kd.av|apply Kd.aA));exact cj.out) hb);have bt:=aa.mk (Kd.aZ (by (with_reducible repeat (first|apply Kd.aw|apply Kd.av|apply Kd.aA));exact cl.out) hb);have bA:=aa.mk (aE (by repeat (first|(with_reducible first|exact HB.out|apply ae|apply ab|apply af)|exact HB.out)) hb);have bK:=aa.mk (hbox);have cL:=aa.mk ((by rw [hg];exact (az (by repeat (first|(with_reducible first|exact HB.out|apply ae|apply ab|apply af)|exact HB.out))):w.heap.size≤bE));have dc:=aa.mk ((by rw [hg];exact (az (by repeat (first|(with_reducible first|exact HB.out|apply ae|apply ab|apply af)|exact HB.out))):w.heap.size≤bE));clear cj;clear cl;clear HB;have cj:=br;have cl:=bt;have HB:=bA;have bo:=bK;have Mk:=cL;have d7:=dc;clear br bt bA bK cL dc;clear hb hbox hg;have Th:Ci.cell? ⟨bE,0,none⟩=some (.int .i64 0):=(ag bo.out 0).trans rfl;have Ti:Ci.cell? ⟨bE,1,none⟩=some (.slice none 0 0):=(ag bo.out 1).trans rfl;have Tj:Ci.cell? ⟨bE,2,none⟩=some (.slice none 0 0):=(ag bo.out 2).trans rfl;have Tk:=ah bo.out 0;have Tl:=ah bo.out 1;have Tm:=ah bo.out 2;obtain ⟨kz,kA,Tn⟩:=Kd.cA cj.out;subst Tn;obtain ⟨kI,kJ,Tp⟩:=Kd.cA cl.out;subst Tp))
 have br:aa (Kd.R oS 97 (((Ci.setCell ⟨bE,0,none⟩ (.int .i64 cU)).setCell ⟨bE,1,none⟩ (.slice kz cz.length kA)).setCell ⟨bE,2,none⟩ (.slice kI cq.length kJ)) w.heap.size (fun _=>True) (.slice kz cz.length kA) cz):=⟨by (with_reducible repeat (first|apply Kd.aw|apply Kd.av|apply Kd.aA));exact Kd.bN (Kd.cg (p:=⟨bE,2,none⟩) (Kd.cg (p:=⟨bE,1,none⟩) (Kd.cg (p:=⟨bE,0,none⟩) (Kd.dL cj.out bo.out (by decide)) (fun _ hk=>hk.2) (.int .i64 cU)) (fun _ hk=>hk.2) (.slice kz cz.length kA)) (fun _ hk=>hk.2) (.slice kI cq.length kJ)) (fun _ hk=>trivial)⟩
 have bt:aa (Kd.R nD 36 (((Ci.setCell ⟨bE,0,none⟩ (.int .i64 cU)).setCell ⟨bE,1,none⟩ (.slice kz cz.length kA)).setCell ⟨bE,2,none⟩ (.slice kI cq.length kJ)) w.heap.size (fun _=>True) (.slice kI cq.length kJ) cq):=⟨by (with_reducible repeat (first|apply Kd.aw|apply Kd.av|apply Kd.aA));exact Kd.bN (Kd.cg (p:=⟨bE,2,none⟩) (Kd.cg (p:=⟨bE,1,none⟩) (Kd.cg (p:=⟨bE,0,none⟩) (Kd.dL cl.out bo.out (by decide)) (fun _ hk=>hk.2) (.int .i64 cU)) (fun _ hk=>hk.2) (.slice kz cz.length kA)) (fun _ hk=>hk.2) (.slice kI cq.length kJ)) (fun _ hk=>trivial)⟩
 have bA:aa ((((Ci.setCell ⟨bE,0,none⟩ (.int .i64 cU)).setCell ⟨bE,1,none⟩ (.slice kz cz.length kA)).setCell ⟨bE,2,none⟩ (.slice kI cq.length kJ)).heap[bE]? =some (.cells #[.int .i64 cU,.slice kz cz.length kA,.slice kI cq.length kJ] 26 (0,0))):=⟨by (with_reducible repeat (first|refine ak ?_ _|refine aq ?_|refine aj ?_ _));refine df (cs:=#[.int .i64 cU,.slice kz cz.length kA,.slice none 0 0]) ?_ 2 _ rfl;(with_reducible repeat (first|refine ak ?_ _|refine aq ?_|refine aj ?_ _));refine df (cs:=#[.int .i64 cU,.slice none 0 0,.slice none 0 0]) ?_ 1 _ rfl;(with_reducible repeat (first|refine ak ?_ _|refine aq ?_|refine aj ?_ _));refine df (cs:=#[.int .i64 0,.slice none 0 0,.slice none 0 0]) ?_ 0 _ rfl;(with_reducible repeat (first|refine ak ?_ _|refine aq ?_|refine aj ?_ _));exact bo.out⟩
 have bK:aa (Below w.heap.size w (((Ci.setCell ⟨bE,0,none⟩ (.int .i64 cU)).setCell ⟨bE,1,none⟩ (.slice kz cz.length kA)).setCell ⟨bE,2,none⟩ (.slice kI cq.length kJ))):=⟨by repeat (first|(with_reducible first|exact HB.out|apply ae|apply ab|apply af|refine ai ?_ d7.out)|exact HB.out)⟩
 (try clear cj);(try clear cl);(try clear bo);(try clear HB)
 generalize (((Ci.setCell ⟨bE,0,none⟩ (.int .i64 cU)).setCell ⟨bE,1,none⟩ (.slice kz cz.length kA)).setCell ⟨bE,2,none⟩ (.slice kI cq.length kJ))=aaN at br bt bA bK ⊢
 have cj:=br;have cl:=bt;have bo:=bA;have HB:=bK
 clear br bt bA bK
 have br:=aa.mk (Kd.aA cj.out)
 have bt:=aa.mk (Kd.aA cl.out)
 have bA:=aa.mk (aq bo.out)
 have bK:=aa.mk (af HB.out)
 clear cj cl bo HB
 have cj:=br;have cl:=bt;have bo:=bA;have HB:=bK
 clear br bt bA bK
 refine ju (n:=10) (S:=fun w'=>w'.cell? ⟨bE,0,none⟩=some (.int .i64 cU)∧w'.cell? ⟨bE,1,none⟩=some (.slice kz cz.length kA)∧w'.cell? ⟨bE,2,none⟩=some (.slice kI cq.length kJ)) (ds:=[]) #[false,false,false,false,false,false,false,false,false,false] (by kernel_rfl) rfl rfl ⟨(ag bo.out 0).trans rfl,(ag bo.out 1).trans rfl,(ag bo.out 2).trans rfl⟩ (fun hHeld=> ?_);refine fN ay.OJ ay.ID (fun HT_ HW_=> ?_)
 generalize aaN.drew=aeX at cj cl bo HB hHeld ⊢
 refine bP (i:=0) (N:=some 22) (v:= ?_) (a':= ?_) #[true,false,false,false,false,false,false,false,false,false] rfl rfl (bz HT_.out (by kernel_rfl)) (fun _ _ _ h=>h) (Or.inl ⟨by rfl, ?_⟩) ?_ ?_
 rotate_left
 ·intro w'
  go_simp
  with_reducible rfl
 rotate_left
 ·simp only [Act.put,dg,dh,di,aY,a9]
  rfl
 refine bP (i:=1) (N:=some 23) (v:= ?_) (a':= ?_) #[true,true,false,false,false,false,false,false,false,false] rfl rfl (bz HT_.out (by kernel_rfl)) (fun _ _ _ h=>h) (Or.inl ⟨by rfl, ?_⟩) ?_ ?_
 rotate_left
 ·intro w'
  go_simp
  with_reducible rfl
 rotate_left
 ·simp only [Act.put,dg,dh,di,aY,a9]
  rfl
 refine bP (i:=6) (N:=some 28) (v:= ?_) (a':= ?_) #[true,true,false,false,false,false,true,false,false,false] rfl rfl (bz HT_.out (by kernel_rfl)) (fun _ _ _ h=>h) (Or.inl ⟨by rfl, ?_⟩) ?_ ?_
 rotate_left
 ·intro w'
  go_simp
  with_reducible rfl
 rotate_left
 ·simp only [Act.put,dg,dh,di,aY,a9]
  rfl
 refine eL (i:=2) (N:=some 24) (v:= ?_) (a':= ?_) #[true,true,true,false,false,false,true,false,false,false] rfl rfl (cO HT_.out HW_.out (by kernel_rfl)) (fun _ _ _ h=>h) (Or.inl ⟨by rfl, ?_⟩) hHeld ?_ ?_
 rotate_left
 ·rintro w' ⟨s0,s1,s2⟩
  go_simp
  with_reducible rfl
 rotate_left
 ·simp only [Act.put,dg,dh,di,aY,a9]
  rfl
 refine bP (i:=3) (N:=some 25) (v:= ?_) (a':= ?_) #[true,true,true,true,false,false,true,false,false,false] rfl rfl (bz HT_.out (by kernel_rfl)) (fun _ _ _ h=>h) (Or.inl ⟨by rfl, ?_⟩) ?_ ?_
 rotate_left
 ·intro w'
  go_simp
  with_reducible rfl
 rotate_left
 ·simp only [Act.put,dg,dh,di,aY,a9]
  rfl
 refine eL (i:=5) (N:=some 27) (v:= ?_) (a':= ?_) #[true,true,true,true,false,true,true,false,false,false] rfl rfl (cO HT_.out HW_.out (by kernel_rfl)) (fun _ _ _ h=>h) (Or.inl ⟨by rfl, ?_⟩) hHeld ?_ ?_
 rotate_left
 ·rintro w' ⟨s0,s1,s2⟩
  go_simp
  with_reducible rfl
 rotate_left
 ·simp only [Act.put,dg,dh,di,aY,a9]
  rfl
 refine iP (i:=4) (N:=some 26) #[true,true,true,true,true,true,true,false,false,false] rfl rfl (dZ HT_.out (by kernel_rfl)) (by decide) (fun K hK=> ?_)
 refine mA Try.func36 (by kernel_rfl) rfl #[.slice A2 l2.length c2,.int .i64 (cq.length:Int)] (by rfl) rfl rfl (by (try simp only [List.map_toArray,List.map_cons,List.map_nil]);first|done|rfl|(simp only [List.length_drop,List.length_take];rfl)) ?_
 with_reducible refine (cD.calls k _ _ l2 (cq.length:Int) jd _ ?bS ?bT A8.out).mono ?_
 (case bS=>repeat (first|exact (Kd.aN qn.out HB.out)|(with_reducible refine Kd.aT ?_ _)|(with_reducible refine Kd.aU ?_ _)|(with_reducible refine Kd.bk ?_)))
 (case bT=>exact lm.out)
 rintro e aeY ⟨gJ,rfl,mN,hb⟩
 refine ⟨_,rfl, ?_⟩
 have br:=aa.mk (Kd.aZ (by (with_reducible repeat (first|apply Kd.aw|apply Kd.av|apply Kd.aA));exact cj.out) hb)
 have bt:=aa.mk (Kd.aZ (by (with_reducible repeat (first|apply Kd.aw|apply Kd.av|apply Kd.aA));exact cl.out) hb)
 have bA:=aa.mk (Kd.eH mN (az (by repeat (first|(with_reducible first|exact HB.out|apply ae|apply ab|apply af|refine ai ?_ d7.out)|exact HB.out))))
 have bK:=aa.mk (aH (g:=bE) (o:= .cells #[.int .i64 cU,.slice kz cz.length kA,.slice kI cq.length kJ] 26 (0,0)) (by (with_reducible repeat (first|refine ak ?_ _|refine aq ?_|refine aj ?_ _));exact bo.out) hb)
 have cL:=aa.mk (aE (by repeat (first|(with_reducible first|exact HB.out|apply ae|apply ab|apply af|refine ai ?_ d7.out)|exact HB.out)) hb)
 clear cj cl bo HB
 have cj:=br;have cl:=bt;have cV:=bA;have bo:=bK;have HB:=cL
 clear br bt bA bK cL
 (try clear hb);(try clear hb2);(try clear hk);(try clear hi);(try clear mN)
 refine hK.out _ _ ⟨(ag bo.out 0).trans rfl,(ag bo.out 1).trans rfl,(ag bo.out 2).trans rfl⟩ (fun hHeld=> ?_)
 clear hK K
 refine eM (a':= ?_) ?_ ?_
 rotate_left
 ·show Act.put _ (some 26) _=_
  simp only [Act.put,dg,dh,di,aY,a9]
  rfl
 refine iP (i:=7) (N:=some 29) #[true,true,true,true,true,true,true,true,false,false] rfl rfl (dZ HT_.out (by kernel_rfl)) (by decide) (fun K hK=> ?_)
 refine mA Try.func37 (by kernel_rfl) rfl #[.agg #[.int .i64 cU,.slice kz cz.length kA,.slice kI cq.length kJ],.slice A1 l1.length c1] (by rfl) rfl rfl (by (try simp only [List.map_toArray,List.map_cons,List.map_nil]);first|done|rfl|(simp only [List.length_drop,List.length_take];rfl)) ?_
 with_reducible refine (cC.calls k cU _ _ cz _ _ cq _ _ l1 iY _ ?bS ?bT ?cJ ?cN ?du ?dw A9.out).mono ?_
 (case bS=>repeat (first|exact (Kd.bf cj.out).2.2|(with_reducible refine Kd.aT ?_ _)|(with_reducible refine Kd.aU ?_ _)|(with_reducible refine Kd.bk ?_)))
 (case bT=>exact (Kd.bf cj.out).2.1)
 (case cJ=>repeat (first|exact (Kd.bf cl.out).2.2|(with_reducible refine Kd.aT ?_ _)|(with_reducible refine Kd.aU ?_ _)|(with_reducible refine Kd.bk ?_)))
 (case cN=>exact (Kd.bf cl.out).2.1)
 (case du=>repeat (first|exact (Kd.aN lA.out HB.out)|(with_reducible refine Kd.aT ?_ _)|(with_reducible refine Kd.aU ?_ _)|(with_reducible refine Kd.bk ?_)))
 (case dw=>exact pK.out)
 rintro e O1 ⟨gK,rfl,mN,hb⟩
 refine ⟨_,rfl, ?_⟩
 have br:=aa.mk (Kd.aZ (by (with_reducible repeat (first|apply Kd.aw|apply Kd.av|apply Kd.aA));exact cj.out) hb)
 have bt:=aa.mk (Kd.aZ (by (with_reducible repeat (first|apply Kd.aw|apply Kd.av|apply Kd.aA));exact cl.out) hb)
 have bA:=aa.mk (Kd.kx (by (with_reducible repeat (first|apply Kd.aw|apply Kd.av|apply Kd.aA));exact cV.out) (Kd.iZ mN) hb)
 have bK:=aa.mk (Kd.eH (Kd.oy mN (Kd.gq (by (with_reducible repeat (first|apply Kd.aw|apply Kd.av|apply Kd.aA));exact cV.out))) (az (by repeat (first|(with_reducible first|exact HB.out|apply ae|apply ab|apply af|refine ai ?_ d7.out)|exact HB.out))))
 have cL:=aa.mk (aH (g:=bE) (o:= .cells #[.int .i64 cU,.slice kz cz.length kA,.slice kI cq.length kJ] 26 (0,0)) (by (with_reducible repeat (first|refine ak ?_ _|refine aq ?_|refine aj ?_ _));exact bo.out) hb)
 have dc:=aa.mk (aE (by repeat (first|(with_reducible first|exact HB.out|apply ae|apply ab|apply af|refine ai ?_ d7.out)|exact HB.out)) hb)
 clear cj cl cV bo HB
 have cj:=br;have cl:=bt;have cV:=bA;have dx:=bK;have bo:=cL;have HB:=dc
 clear br bt bA bK cL dc
 (try clear hb);(try clear hb2);(try clear hk);(try clear hi);(try clear mN)
 refine hK.out _ _ ⟨(ag bo.out 0).trans rfl,(ag bo.out 1).trans rfl,(ag bo.out 2).trans rfl⟩ (fun hHeld=> ?_)
 clear hK K
 refine eM (a':= ?_) ?_ ?_
 rotate_left
 ·show Act.put _ (some 29) _=_
  simp only [Act.put,dg,dh,di,aY,a9]
  rfl
 refine bP (i:=8) (N:=some 14) (v:= ?_) (a':= ?_) #[true,true,true,true,true,true,true,true,true,false] rfl rfl (bz HT_.out (by kernel_rfl)) (fun _ _ _ h=>h) (Or.inl ⟨by rfl, ?_⟩) ?_ ?_
 rotate_left
 ·intro w'
  go_simp
  with_reducible rfl
 rotate_left
 ·simp only [Act.put,dg,dh,di,aY,a9]
  rfl
 refine bP (i:=9) (N:=some 15) (v:= ?_) (a':= ?_) #[true,true,true,true,true,true,true,true,true,true] rfl rfl (bz HT_.out (by kernel_rfl)) (fun _ _ _ h=>h) (Or.inl ⟨by rfl, ?_⟩) ?_ ?_
 rotate_left
 ·intro w'
  go_simp
  with_reducible rfl
 rotate_left
 ·simp only [Act.put,dg,dh,di,aY,a9]
  rfl
 refine j1 (gD HT_.out (by kernel_rfl)) ?_
 have Tq:O1.cell? ⟨bE,0,none⟩=some (.int .i64 cU):=(ag bo.out 0).trans rfl
 have Tr:O1.cell? ⟨bE,1,none⟩=some (.slice kz cz.length kA):=(ag bo.out 1).trans rfl
 have Ts:O1.cell? ⟨bE,2,none⟩=some (.slice kI cq.length kJ):=(ag bo.out 2).trans rfl
 have Tt:=ah bo.out 0
 have Tu:=ah bo.out 1
 have Tv:=ah bo.out 2
 try go_wp2_with (first|((with_reducible refine bY (f:=38) rfl ?_);refine er (some 33) rfl rfl Try.func38 (by kernel_rfl) rfl #[.agg #[.int .i64 cU,.slice kz cz.length kA,.slice kI cq.length kJ],.int .i64 a3] rfl (by (try simp only [List.map_toArray,List.map_cons,List.map_nil]);first|done|rfl|(simp only [List.length_drop,List.length_take];rfl)) ?_;(with_reducible refine (ew.calls k cU _ _ cz _ _ cq a3 eE eG false _ ?bS ?bT ?cJ ?cN LP.out).mono ?_);(case bS=>repeat (first|exact (Kd.bf cj.out).2.2|(with_reducible refine Kd.aT ?_ _)|(with_reducible refine Kd.aU ?_ _)|(with_reducible refine Kd.bk ?_)));(case bT=>exact (Kd.bf cj.out).2.1);(case cJ=>repeat (first|exact (Kd.bf cl.out).2.2|(with_reducible refine Kd.aT ?_ _)|(with_reducible refine Kd.aU ?_ _)|(with_reducible refine Kd.bk ?_)));(case cN=>exact (Kd.bf cl.out).2.1);rintro e aeZ ⟨RI,RJ,rfl,mN,qh,hb⟩;refine ⟨_,rfl, ?_⟩;have br:=aa.mk (Kd.aZ (by (with_reducible repeat (first|apply Kd.aw|apply Kd.av|apply Kd.aA));exact cj.out) hb);have bt:=aa.mk (Kd.aZ (by (with_reducible repeat (first|apply Kd.aw|apply Kd.av|apply Kd.aA));exact cl.out) hb);have bA:=aa.mk (Kd.aZ (by (with_reducible repeat (first|apply Kd.aw|apply Kd.av|apply Kd.aA));exact cV.out) hb);have bK:=aa.mk (Kd.aZ (by (with_reducible repeat (first|apply Kd.aw|apply Kd.av|apply Kd.aA));exact dx.out) hb);have cL:=aa.mk (Kd.rD (Kd.fM (ok':=fun k_=>some k_≠(.slice kz cz.length kA:Value).ownBlock∧some k_≠(.slice kI cq.length kJ:Value).ownBlock∧some k_≠(gJ:Value).ownBlock∧some k_≠(gK:Value).ownBlock∧k_≠bE) mN (fun k_ hk_=>⟨(Kd.eR (Kd.gq (by (with_reducible repeat (first|apply Kd.aw|apply Kd.av|apply Kd.aA));exact cj.out)) k_ hk_),(Kd.eR (Kd.gq (by (with_reducible repeat (first|apply Kd.aw|apply Kd.av|apply Kd.aA));exact cl.out)) k_ hk_),(Kd.eR (Kd.gq (by (with_reducible repeat (first|apply Kd.aw|apply Kd.av|apply Kd.aA));exact cV.out)) k_ hk_),(Kd.eR (Kd.gq (by (with_reducible repeat (first|apply Kd.aw|apply Kd.av|apply Kd.aA));exact dx.out)) k_ hk_),(Kd.lu (g:=bE) (o:= .cells #[.int .i64 cU,.slice kz cz.length kA,.slice kI cq.length kJ] 26 (0,0)) (by (with_reducible repeat (first|refine ak ?_ _|refine aq ?_|refine aj ?_ _));exact bo.out) k_ hk_)⟩)) (az (by repeat (first|(with_reducible first|exact HB.out|apply ae|apply ab|apply af|refine ai ?_ d7.out)|exact HB.out))));have dc:=aa.mk (Kd.rD (Kd.fM (ok':=fun k_=>some k_≠(.slice kz cz.length kA:Value).ownBlock∧some k_≠(.slice kI cq.length kJ:Value).ownBlock∧some k_≠(gJ:Value).ownBlock∧some k_≠(gK:Value).ownBlock∧k_≠bE) qh (fun k_ hk_=>⟨(Kd.eR (Kd.gq (by (with_reducible repeat (first|apply Kd.aw|apply Kd.av|apply Kd.aA));exact cj.out)) k_ hk_),(Kd.eR (Kd.gq (by (with_reducible repeat (first|apply Kd.aw|apply Kd.av|apply Kd.aA));exact cl.out)) k_ hk_),(Kd.eR (Kd.gq (by (with_reducible repeat (first|apply Kd.aw|apply Kd.av|apply Kd.aA));exact cV.out)) k_ hk_),(Kd.eR (Kd.gq (by (with_reducible repeat (first|apply Kd.aw|apply Kd.av|apply Kd.aA));exact dx.out)) k_ hk_),(Kd.lu (g:=bE) (o:= .cells #[.int .i64 cU,.slice kz cz.length kA,.slice kI cq.length kJ] 26 (0,0)) (by (with_reducible repeat (first|refine ak ?_ _|refine aq ?_|refine aj ?_ _));exact bo.out) k_ hk_)⟩)) (az (by repeat (first|(with_reducible first|exact HB.out|apply ae|apply ab|apply af|refine ai ?_ d7.out)|exact HB.out))));have dQ:=aa.mk (aH (g:=bE) (o:= .cells #[.int .i64 cU,.slice kz cz.length kA,.slice kI cq.length kJ] 26 (0,0)) (by (with_reducible repeat (first|refine ak ?_ _|refine aq ?_|refine aj ?_ _));exact bo.out) hb);have gL:=aa.mk (aE (by repeat (first|(with_reducible first|exact HB.out|apply ae|apply ab|apply af|refine ai ?_ d7.out)|exact HB.out)) hb);clear cj;clear cl;clear cV;clear dx;clear bo;clear HB;have cj:=br;have cl:=bt;have cV:=bA;have dx:=bK;have d8:=cL;have dX:=dc;have bo:=dQ;have HB:=gL;clear br bt bA bK cL dc dQ gL;(try clear hb);(try clear hb2);(try clear hk);(try clear hi);(try clear mN);(try clear qh))|((with_reducible refine bF (N:=16) rfl ?_);refine bH ?hg (N:=16) ?hd (cs:=#[.slice none 0 0,.slice none 0 0]) (t:=41) ?hr ?_;(case hd=>rfl);(case hg=>rfl);(case hr=>first|(go_simp;done)|(go_simp;rfl));intro bZ hg Tw hbox hb;have br:=aa.mk (Kd.aZ (by (with_reducible repeat (first|apply Kd.aw|apply Kd.av|apply Kd.aA));exact cj.out) hb);have bt:=aa.mk (Kd.aZ (by (with_reducible repeat (first|apply Kd.aw|apply Kd.av|apply Kd.aA));exact cl.out) hb);have bA:=aa.mk (Kd.aZ (by (with_reducible repeat (first|apply Kd.aw|apply Kd.av|apply Kd.aA));exact cV.out) hb);have bK:=aa.mk (Kd.aZ (by (with_reducible repeat (first|apply Kd.aw|apply Kd.av|apply Kd.aA));exact dx.out) hb);have cL:=aa.mk (Kd.eK (Kd.ky (by (with_reducible repeat (first|apply Kd.cS|apply Kd.cT|apply Kd.dB));exact d8.out) bZ (Nat.le_of_eq hg.symm)) hb);have dc:=aa.mk (Kd.eK (Kd.ky (by (with_reducible repeat (first|apply Kd.cS|apply Kd.cT|apply Kd.dB));exact dX.out) bZ (Nat.le_of_eq hg.symm)) hb);have dQ:=aa.mk (aH (g:=bE) (o:= .cells #[.int .i64 cU,.slice kz cz.length kA,.slice kI cq.length kJ] 26 (0,0)) (by (with_reducible repeat (first|refine ak ?_ _|refine aq ?_|refine aj ?_ _));exact bo.out) hb);have gL:=aa.mk (aE (by repeat (first|(with_reducible first|exact HB.out|apply ae|apply ab|apply af|refine ai ?_ d7.out)|exact HB.out)) hb);have hY:=aa.mk (hbox);have jv:=aa.mk ((by rw [hg];exact (az (by repeat (first|(with_reducible first|exact HB.out|apply ae|apply ab|apply af|refine ai ?_ d7.out)|exact HB.out))):w.heap.size≤bZ));have fz:=aa.mk ((by rw [hg];exact (az (by repeat (first|(with_reducible first|exact HB.out|apply ae|apply ab|apply af|refine ai ?_ d7.out)|exact HB.out))):w.heap.size≤bZ));have fO:=aa.mk ((by rw [hg];exact Nat.ne_of_lt (cn (g:=bE) (o:= .cells #[.int .i64 cU,.slice kz cz.length kA,.slice kI cq.length kJ] 26 (0,0)) (by (with_reducible repeat (first|refine ak ?_ _|refine aq ?_|refine aj ?_ _));exact bo.out)):bE≠bZ));have oD:=aa.mk ((by rw [hg];exact Nat.ne_of_gt (cn (g:=bE) (o:= .cells #[.int .i64 cU,.slice kz cz.length kA,.slice kI cq.length kJ] 26 (0,0)) (by (with_reducible repeat (first|refine ak ?_ _|refine aq ?_|refine aj ?_ _));exact bo.out)):bZ≠bE));clear cj;clear cl;clear cV;clear dx;clear d8;clear dX;clear bo;clear HB;have cj:=br;have cl:=bt;have cV:=bA;have dx:=bK;have d8:=cL;have dX:=dc;have bo:=dQ;have HB:=gL;have bV:=hY;have Ml:=jv;have fV:=fz;have iL:=fO;have mw:=oD;clear br bt bA bK cL dc dQ gL hY jv fz fO oD;clear hb hbox hg;obtain ⟨u7,vg,Tx⟩:=Kd.lS d8.out;subst Tx;have aaO:=mw.out;have aaP:=iL.out;have Ty:Tw.cell? ⟨bZ,0,none⟩=some (.slice none 0 0):=(ag bV.out 0).trans rfl;have Tz:Tw.cell? ⟨bZ,1,none⟩=some (.slice none 0 0):=(ag bV.out 1).trans rfl;have TA:=ah bV.out 0;have TB:=ah bV.out 1;obtain ⟨xD,xE,TC⟩:=Kd.lS dX.out;subst TC)|((with_reducible refine bY (f:=39) rfl ?_);refine er (some 38) rfl rfl Try.func39 (by kernel_rfl) rfl #[] rfl (by (try simp only [List.map_toArray,List.map_cons,List.map_nil]);first|done|rfl|(simp only [List.length_drop,List.length_take];rfl)) ?_;(with_reducible refine (dr.calls false _ SK.out).mono ?_);rintro e ae0 ⟨rfl,hb⟩;refine ⟨_,rfl, ?_⟩;have br:=aa.mk (Kd.aZ (by (with_reducible repeat (first|apply Kd.aw|apply Kd.av|apply Kd.aA));exact (Kd.bN (Kd.cg (p:=⟨bZ,1,none⟩) (Kd.cg (p:=⟨bZ,0,none⟩) (Kd.dL cj.out bV.out (by decide)) (fun _ hk=>hk.2) (.slice u7 eE.length vg)) (fun _ hk=>hk.2) (.slice xD eG.length xE)) (fun _ h_=>h_.1))) hb);have bt:=aa.mk (Kd.aZ (by (with_reducible repeat (first|apply Kd.aw|apply Kd.av|apply Kd.aA));exact (Kd.bN (Kd.cg (p:=⟨bZ,1,none⟩) (Kd.cg (p:=⟨bZ,0,none⟩) (Kd.dL cl.out bV.out (by decide)) (fun _ hk=>hk.2) (.slice u7 eE.length vg)) (fun _ hk=>hk.2) (.slice xD eG.length xE)) (fun _ h_=>h_.1))) hb);have bA:=aa.mk (Kd.aZ (by (with_reducible repeat (first|apply Kd.aw|apply Kd.av|apply Kd.aA));exact (Kd.bN (Kd.cg (p:=⟨bZ,1,none⟩) (Kd.cg (p:=⟨bZ,0,none⟩) (Kd.dL cV.out bV.out (by decide)) (fun _ hk=>hk.2) (.slice u7 eE.length vg)) (fun _ hk=>hk.2) (.slice xD eG.length xE)) (fun _ h_=>h_.1))) hb);have bK:=aa.mk (Kd.aZ (by (with_reducible repeat (first|apply Kd.aw|apply Kd.av|apply Kd.aA));exact (Kd.bN (Kd.cg (p:=⟨bZ,1,none⟩) (Kd.cg (p:=⟨bZ,0,none⟩) (Kd.dL dx.out bV.out (by decide)) (fun _ hk=>hk.2) (.slice u7 eE.length vg)) (fun _ hk=>hk.2) (.slice xD eG.length xE)) (fun _ h_=>h_.1))) hb);have cL:=aa.mk (Kd.eK (by (with_reducible repeat (first|apply Kd.cS|apply Kd.cT|apply Kd.dB));exact (Kd.fM (Kd.kF (p:=⟨bZ,1,none⟩) (Kd.kF (p:=⟨bZ,0,none⟩) (Kd.fM d8.out (fun k_ hk=>(⟨hk,hk.2⟩:_∧k_≠bZ))) (fun _ hk=>hk.2) (.slice u7 eE.length vg)) (fun _ hk=>hk.2) (.slice xD eG.length xE)) (fun _ h_=>h_.1))) hb);have dc:=aa.mk (Kd.eK (by (with_reducible repeat (first|apply Kd.cS|apply Kd.cT|apply Kd.dB));exact (Kd.fM (Kd.kF (p:=⟨bZ,1,none⟩) (Kd.kF (p:=⟨bZ,0,none⟩) (Kd.fM dX.out (fun k_ hk=>(⟨hk,hk.2⟩:_∧k_≠bZ))) (fun _ hk=>hk.2) (.slice u7 eE.length vg)) (fun _ hk=>hk.2) (.slice xD eG.length xE)) (fun _ h_=>h_.1))) hb);have dQ:=aa.mk (aH (g:=bE) (o:= .cells #[.int .i64 cU,.slice kz cz.length kA,.slice kI cq.length kJ] 26 (0,0)) (by (with_reducible repeat (first|refine ak ?_ _|refine aq ?_|refine aj ?_ _));refine cI ?_ iL.out _;(with_reducible repeat (first|refine ak ?_ _|refine aq ?_|refine aj ?_ _));refine cI ?_ iL.out _;(with_reducible repeat (first|refine ak ?_ _|refine aq ?_|refine aj ?_ _));exact bo.out) hb);have gL:=aa.mk (aH (g:=bZ) (o:= .cells #[.slice u7 eE.length vg,.slice xD eG.length xE] 41 (0,0)) (by (with_reducible repeat (first|refine ak ?_ _|refine aq ?_|refine aj ?_ _));refine df (cs:=#[.slice u7 eE.length vg,.slice none 0 0]) ?_ 1 _ rfl;(with_reducible repeat (first|refine ak ?_ _|refine aq ?_|refine aj ?_ _));refine df (cs:=#[.slice none 0 0,.slice none 0 0]) ?_ 0 _ rfl;(with_reducible repeat (first|refine ak ?_ _|refine aq ?_|refine aj ?_ _));exact bV.out) hb);have hY:=aa.mk (aE (by repeat (first|(with_reducible first|exact HB.out|apply ae|apply ab|apply af|refine ai ?_ d7.out|refine ai ?_ fV.out)|exact HB.out)) hb);clear cj;clear cl;clear cV;clear dx;clear d8;clear dX;clear bo;clear bV;clear HB;have cj:=br;have cl:=bt;have cV:=bA;have dx:=bK;have d8:=cL;have dX:=dc;have bo:=dQ;have bV:=gL;have HB:=hY;clear br bt bA bK cL dc dQ gL hY;(try clear hb);(try clear hb2);(try clear hk);(try clear hi)))
 go_ret
 exact ⟨by first|rfl|(simp [bB,bC]<;>rfl)|(simp [*,bB,bC]<;>rfl),by repeat (first|(with_reducible first|exact HB.out|apply ae|apply ab|apply af|refine ai ?_ d7.out|refine ai ?_ fV.out)|exact HB.out)⟩
def ay.Pure:Prop:=∀ (l0:List Int) (l1:List Int) (l2:List Int) (a3:Int) (a4:Int) (a5:Int),l0.length≤maxLen→l0.length*8≤140737488351232→(∀ x ∈ l0,(Lit.int .i64 x).wf=true)→l1.length≤maxLen→l1.length*8≤140737488351232→(∀ x ∈ l1,(Lit.int .i64 x).wf=true)→l2.length≤maxLen→l2.length*8≤140737488351232→(∀ x ∈ l2,(Lit.int .i64 x).wf=true)→(Lit.int .i64 a3).wf=true→(Lit.int .i64 a4).wf=true→(Lit.int .i64 a5).wf=true→∃ k,ay.f k l0 l1 l2 a3 a4 a5=some true
theorem ay.walk (P:ay.Pure) (a0:Option Addr) (Cj Ck:Nat) (z0:List Int) (a1:Option Addr) (Cl Cm:Nat) (z1:List Int) (a2:Option Addr) (Cn Co:Nat) (z2:List Int) (a3:Int) (a4:Int) (a5:Int) (w:World) (w0:(a0=none∧Cj=0∧Ck=0∧z0=[])∨∃ x,a0=some x∧Cj≤Ck∧Ck≤maxLen∧z0.length=Ck∧(∀ i,i<z0.length→w.cell? (x.add i)=some (.int .i64 (z0.getD i 0)))∧∀ n ∈ z0,(Lit.int .i64 n).wf=true) (y0:Cj*8≤140737488351232) (w1:(a1=none∧Cl=0∧Cm=0∧z1=[])∨∃ x,a1=some x∧Cl≤Cm∧Cm≤maxLen∧z1.length=Cm∧(∀ i,i<z1.length→w.cell? (x.add i)=some (.int .i64 (z1.getD i 0)))∧∀ n ∈ z1,(Lit.int .i64 n).wf=true) (y1:Cl*8≤140737488351232) (w2:(a2=none∧Cn=0∧Co=0∧z2=[])∨∃ x,a2=some x∧Cn≤Co∧Co≤maxLen∧z2.length=Co∧(∀ i,i<z2.length→w.cell? (x.add i)=some (.int .i64 (z2.getD i 0)))∧∀ n ∈ z2,(Lit.int .i64 n).wf=true) (y2:Cn*8≤140737488351232) (w3:(Lit.int .i64 a3).wf=true) (w4:(Lit.int .i64 a4).wf=true) (w5:(Lit.int .i64 a5).wf=true):
  Calls Try.prog 4 #[.slice a0 Cj Ck,.slice a1 Cl Cm,.slice a2 Cn Co,.int .i64 a3,.int .i64 a4,.int .i64 a5] w fun e w'=>e= .returned (.bool true)∧Below w.heap.size w w':=by
 obtain ⟨l0,rfl,hr0,hm0,hw0,hc0⟩:=gN.Cy w0
 obtain ⟨l1,rfl,mh,hm1,ZA,oA⟩:=gN.Cy w1
 obtain ⟨l2,rfl,xS,hm2,O8,uQ⟩:=gN.Cy w2
 obtain ⟨k,h⟩:=P l0 l1 l2 a3 a4 a5 hm0 y0 hw0 hm1 y1 ZA hm2 y2 O8 w3 w4 w5
 refine (ay.calls k _ _ l0 _ _ l1 _ _ l2 a3 a4 a5 true w (Kd.pZ (d:=(0:Int)) (h1:=fun _=>rfl) hr0) hc0 (Kd.pZ (d:=(0:Int)) (h1:=fun _=>rfl) mh) oA (Kd.pZ (d:=(0:Int)) (h1:=fun _=>rfl) xS) uQ h).mono ?_
 rintro e w' ⟨rfl,hd⟩
 exact ⟨rfl,hd⟩
end Go.Proofs.Ytbkjplomoegbdaa.PB
