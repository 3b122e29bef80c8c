/- Parts of the proof of CyclesSums, gathered by a program of this claim out of texts that it or the kit's print wrote: lemmas alone, no condition of their own. -/
import Derived.Test.YtbkjplomoegbdaaCcs5
section
namespace Go.Proofs.Ytbkjplomoegbdaa.PB
open Go.RowKit Go.Proofs.YtbkjplomoegbdaaW.bO Go.Proofs.YtbkjplomoegbdaaW.dA Go.Proofs.YtbkjplomoegbdaaW.dG
attribute [local go_sem] iQ iR jM jN gW gX iS iT
set_option linter.unusedVariables false
set_option linter.unusedSimpArgs false
def fE.f (k:Nat) (l0:List Int) (a1:Int):Option (Bool):=(cH.f k l0 a1).bind fun FH=>(some (decide (FH≥0)))
set_option maxHeartbeats 8000000 in
set_option maxRecDepth 100000 in
theorem fE.calls (k:Nat) (A0:Option Addr) (c0:Nat) (l0:List Int) (a1:Int) (r:Bool) (w:World) (hr0:Kd.C (Kd.int .i64) w A0 l0.length l0) (hc0:l0.length≤c0) (h:fE.f k l0 a1=some r):
  Calls Try.prog 89 #[.slice A0 l0.length c0,.int .i64 a1] w fun e w'=>e= .returned (.bool r)∧dD w w':=by
 have xJ:=aa.mk hr0
 have Fu:=aa.mk hc0
 clear hr0 hc0
 have H:((cH.f k l0 a1).bind fun FH=>(some (decide (FH≥0))))=some r:=h
 clear h
 replace H:=Option.bind_eq_some_iff.mp H
 obtain ⟨FH,AB,H⟩:=H
 replace H:(some (decide (FH≥0)))=some r:=H
 have A3:=aa.mk AB
 clear AB
 obtain rfl:=Option.some.inj H
 go_enter Try.func89,Try.ntmps89
 go_wp2_with (first|((with_reducible refine bY (f:=108) rfl ?_);refine er (some 7) rfl rfl Try.func108 (by kernel_rfl) rfl #[.slice A0 l0.length c0,.int .i64 a1] rfl (by (try simp only [List.map_toArray,List.map_cons,List.map_nil]);first|done|rfl|(simp only [List.length_drop,List.length_take];rfl)) ?_;(with_reducible refine (cH.calls k _ _ l0 a1 FH _ ?bS ?bT A3.out).mono ?_);(case bS=>repeat (first|exact xJ.out|(with_reducible refine Kd.aT ?_ _)|(with_reducible refine Kd.aU ?_ _)|(with_reducible refine Kd.bk ?_)));(case bT=>exact Fu.out);rintro e w' ⟨rfl,⟨nd,rfl⟩⟩;refine ⟨_,rfl, ?_⟩))
 go_ret
 exact ⟨by first|rfl|(simp;done)|(simp [*];done),by repeat (first|exact dD.refl _|apply dD.step)⟩
def cP.l0:Nat→List Int→Int→Int→Option (Bool)
 |0,_,_,_=>none
 |k+1,x0,x1,x5=>if x5<(x0.length:Int) then (if 0≤x5 then (if (rd x0 x5)=x1 then (some true) else (cP.l0 k x0 x1 (wrap64 (x5+1)))) else (none)) else (some false)
def cP.f (k:Nat) (l0:List Int) (a1:Int):Option (Bool):=cP.l0 k l0 a1 0
set_option maxHeartbeats 8000000 in
set_option maxRecDepth 100000 in
theorem cP.calls (k:Nat) (A0:Option Addr) (c0:Nat) (l0:List Int) (a1:Int) (r:Bool) (w:World) (hr0:Kd.C (Kd.int .i64) w A0 l0.length l0) (hc0:l0.length≤c0) (h:cP.f k l0 a1=some r):
  Calls Try.prog 96 #[.slice A0 l0.length c0,.int .i64 a1] w fun e w'=>e= .returned (.bool r)∧dD w w':=by
 have xJ:=aa.mk hr0
 have Fu:=aa.mk hc0
 clear hr0 hc0
 have H:(cP.l0 k l0 a1 0)=some r:=h
 clear h
 have H':=aa.mk H
 clear H
 go_enter Try.func96,Try.ntmps96
 go_wp2
 go_loopg [5] k (fun kq v5 w'=>∃ (gI:Int),v5= .int .i64 gI∧aa (cP.l0 kq l0 a1 gI=some r)∧aa (kq≤k)∧dD w w')
 case atStart=>exact ⟨(0),(by first|rfl|(simp;done)|(simp [*];done)),H',⟨Nat.le_refl _⟩,by repeat (first|exact dD.refl _|apply dD.step)⟩
 case round=>
  clear H'
  try clear p2
  obtain ⟨gI,rfl,HA,lw,⟨m1,rfl⟩⟩:=hrel
  cases gk with
  |zero=>exact absurd HA.out (by simp [cP.l0])
  |succ k1=>
   have H:=HA.out
   clear HA
   simp only [cP.l0] at H
   by_cases c3:gI<(l0.length:Int)
   ·rw [if_pos c3] at H
    have c3b0:decide (gI<(l0.length:Int))=true:=decide_eq_true c3
    clear c3
    by_cases c4:0≤gI
    ·rw [if_pos c4] at H
     have c4b0:decide (0≤gI)=true:=decide_eq_true c4
     clear c4
     by_cases c5:(rd l0 gI)=a1
     ·rw [if_pos c5] at H
      have c5b0:((rd l0 gI)==a1)=true:=beq_iff_eq.mpr c5
      have c5b1:((rd l0 gI) !=a1)=false:=bne_eq_false_iff_eq.mpr c5
      clear c5
      obtain rfl:=Option.some.inj H
      have CO:0≤(gI:Int):=of_decide_eq_true (by assumption)
      have CP:gI<(l0.length:Int):=of_decide_eq_true (by assumption)
      obtain ⟨Qr,Ny,JQ⟩:=Kd.dN xJ.out gI CO CP
      cases Ny
      replace CO:=eq_true CO
      replace CP:=eq_true CP
      go_wp2
      go_ret
      exact ⟨by first|rfl|(simp;done)|(simp [*];done),by repeat (first|exact dD.refl _|apply dD.step)⟩
     rw [if_neg c5] at H
     have c5b0:((rd l0 gI)==a1)=false:=beq_eq_false_iff_ne.mpr c5
     have c5b1:((rd l0 gI) !=a1)=true:=bne_iff_ne.mpr c5
     have H':=aa.mk H
     clear H
     have CO:0≤(gI:Int):=of_decide_eq_true (by assumption)
     have CP:gI<(l0.length:Int):=of_decide_eq_true (by assumption)
     obtain ⟨Qr,Ny,JQ⟩:=Kd.dN xJ.out gI CO CP
     cases Ny
     replace CO:=eq_true CO
     replace CP:=eq_true CP
     go_wp2
     go_roundg k1
     case measure=>have:=lw.out;omega
     case rel=>exact ⟨(wrap64 (gI+1)),(by first|rfl|(simp;done)|(simp [*];done)),H',⟨by have:=lw.out;omega⟩,by repeat (first|exact dD.refl _|apply dD.step)⟩
    rw [if_neg c4] at H
    exact absurd H (by simp)
   rw [if_neg c3] at H
   have c3b0:decide (gI<(l0.length:Int))=false:=decide_eq_false c3
   clear c3
   obtain rfl:=Option.some.inj H
   go_wp2
   go_ret
   exact ⟨by first|rfl|(simp;done)|(simp [*];done),by repeat (first|exact dD.refl _|apply dD.step)⟩
end Go.Proofs.Ytbkjplomoegbdaa.PB
end
section
namespace Go.Proofs.Ytbkjplomoegbdaa.PB
open Go.RowKit Go.Proofs.YtbkjplomoegbdaaW.bO Go.Proofs.YtbkjplomoegbdaaW.dA Go.Proofs.YtbkjplomoegbdaaW.dG
set_option linter.unusedVariables false
set_option linter.unusedSimpArgs false
theorem Hp (l:List Int) (x:Int) (hl:l.length≤9223372036854775807):∀ (d i:Nat),i+d=l.length→∃ r,Ev (fun k=>cH.l0 k l x (l.length:Int) (i:Int)) r∧decide (r≥0)=(l.drop i).contains x:=by
  intro d
  induction d with
  |zero=>
    intro i hi
    refine ⟨-1,Ev.step (f:=fun _=>some (-1)) (fun k=> ?_) (Ev.now _), ?_⟩
    · simp only [cH.l0]
      rw [if_neg (by omega)]
    · rw [List.drop_eq_nil_of_le (by omega)];simp
  |succ d ih=>
    intro i hi
    have hr:rd l (i:Int)=l.getD i 0:=by unfold rd;rw [Int.toNat_natCast]
    have hd:l.drop i=l.getD i 0 :: l.drop (i+1):=by
      rw [List.drop_eq_getElem_cons (by omega)]
      simp [List.getD_eq_getElem?_getD,show i<l.length by omega]
    rw [hd]
    by_cases c:x=l.getD i 0
    · refine ⟨i,Ev.step (f:=fun _=>some (i:Int)) (fun k=> ?_) (Ev.now _), ?_⟩
      · simp only [cH.l0]
        rw [if_pos (by omega),if_pos (by omega),if_pos (by omega),hr,if_pos c]
      · rw [decide_eq_true (by omega)];rw [c];simp
    · obtain ⟨r,h1,h2⟩:=ih (i+1) (by omega)
      have w1:wrap64 ((i:Int)+1)=((i+1:Nat):Int):=by unfold wrap64;omega
      refine ⟨r,Ev.step (fun k=> ?_) h1, ?_⟩
      · simp only [cH.l0]
        rw [if_pos (by omega),if_pos (by omega),if_pos (by omega),hr,if_neg c,w1]
      · rw [h2,List.contains_cons,beq_eq_false_iff_ne.2 c,Bool.false_or]
theorem uP (l:List Int) (x:Int) (hl:l.length≤9223372036854775807):Ev (fun k=>fE.f k l x) (l.contains x):=by
  obtain ⟨r,h1,h2⟩:=Hp l x hl l.length 0 (by omega)
  unfold fE.f cH.f
  refine Ev.bind h1 ?_
  rw [h2]
  exact Ev.now _
theorem Nz (l:List Int) (x:Int) (hl:l.length≤9223372036854775807):∀ (d i:Nat),i+d=l.length→Ev (fun k=>cP.l0 k l x (i:Int)) ((l.drop i).contains x):=by
  intro d
  induction d with
  |zero=>
    intro i hi
    refine Ev.step (f:=fun _=>some false) (fun k=> ?_) ?_
    · simp only [cP.l0]
      rw [if_neg (by omega)]
    · rw [List.drop_eq_nil_of_le (by omega)];exact Ev.now _
  |succ d ih=>
    intro i hi
    have hr:rd l (i:Int)=l.getD i 0:=by unfold rd;rw [Int.toNat_natCast]
    have hd:l.drop i=l.getD i 0 :: l.drop (i+1):=by
      rw [List.drop_eq_getElem_cons (by omega)]
      simp [List.getD_eq_getElem?_getD,show i<l.length by omega]
    rw [hd]
    by_cases c:l.getD i 0=x
    · refine Ev.step (f:=fun _=>some true) (fun k=> ?_) ?_
      · simp only [cP.l0]
        rw [if_pos (by omega),if_pos (by omega),hr,if_pos c]
      · rw [c];simp only [List.contains_cons,BEq.rfl,Bool.true_or];exact Ev.now _
    · have w1:wrap64 ((i:Int)+1)=((i+1:Nat):Int):=by unfold wrap64;omega
      refine Ev.step (f:=fun k=>cP.l0 k l x ((i+1:Nat):Int)) (fun k=> ?_) ?_
      · simp only [cP.l0]
        rw [if_pos (by omega),if_pos (by omega),hr,if_neg c,w1]
      · rw [List.contains_cons,beq_eq_false_iff_ne.2 (fun h=>c h.symm),Bool.false_or]
        exact ih (i+1) (by omega)
theorem Hq (l:List Int) (x:Int) (hl:l.length≤9223372036854775807):Ev (fun k=>cP.f k l x) (l.contains x):=by
  have:=Nz l x hl l.length 0 (by omega)
  simpa [cP.f] using this
theorem CQ (A:Option Addr) (c:Nat) (l:List Int) (x:Int) (W:World) (hr:Kd.C (Kd.int .i64) W A l.length l) (hc:l.length≤c):
    Calls Try.prog 89 #[.slice A l.length c,.int .i64 x] W fun e w'=>e= .returned (.bool (l.contains x))∧∃ m,w'=W.drewN m:=by
  obtain ⟨k,hk⟩:=(uP l x hr.2.1).rounds
  exact (fE.calls k A c l x _ W hr hc hk).mono fun _ _ ⟨h1,h2⟩=>⟨h1,h2.out⟩
theorem Qs (A:Option Addr) (c:Nat) (l:List Int) (x:Int) (W:World) (hr:Kd.C (Kd.int .i64) W A l.length l) (hc:l.length≤c):
    Calls Try.prog 96 #[.slice A l.length c,.int .i64 x] W fun e w'=>e= .returned (.bool (l.contains x))∧∃ m,w'=W.drewN m:=by
  obtain ⟨k,hk⟩:=(Hq l x hr.2.1).rounds
  exact (cP.calls k A c l x _ W hr hc hk).mono fun _ _ ⟨h1,h2⟩=>⟨h1,h2.out⟩
theorem Cx {A:Option Addr} {l:List Int} {W:World} (i:Nat) (hi:i≤l.length) (h:Kd.C (Kd.int .i64) W A l.length l):Kd.C (Kd.int .i64) W A (l.take i).length (l.take i):=by
  have hl:(l.take i).length=i:=by rw [List.length_take];omega
  rw [hl]
  exact Kd.pZ (h1:=fun _=>rfl) ((Kd.p7 (d:=(0:Int)) h).eL i hi)
theorem Hr (A:Option Addr) (c:Nat) (l:List Int) (x:Int) (i:Nat) (W:World) (hi:i≤l.length) (hr:Kd.C (Kd.int .i64) W A l.length l) (hc:l.length≤c):
    Calls Try.prog 89 #[.slice A i c,.int .i64 x] W fun e w'=>e= .returned (.bool ((l.take i).contains x))∧∃ m,w'=W.drewN m:=by
  have hl:(l.take i).length=i:=by rw [List.length_take];omega
  have:=CQ A c (l.take i) x W (Cx i hi hr) (by omega)
  rwa [hl] at this
theorem Hs (A:Option Addr) (c:Nat) (l:List Int) (x:Int) (i:Nat) (W:World) (hi:i≤l.length) (hr:Kd.C (Kd.int .i64) W A l.length l) (hc:l.length≤c):
    Calls Try.prog 96 #[.slice A i c,.int .i64 x] W fun e w'=>e= .returned (.bool ((l.take i).contains x))∧∃ m,w'=W.drewN m:=by
  have hl:(l.take i).length=i:=by rw [List.length_take];omega
  have:=Qs A c (l.take i) x W (Cx i hi hr) (by omega)
  rwa [hl] at this
end Go.Proofs.Ytbkjplomoegbdaa.PB
end
section
namespace Go.Proofs.Ytbkjplomoegbdaa.PB
open Go.RowKit Go.Proofs.YtbkjplomoegbdaaW.bO Go.Proofs.YtbkjplomoegbdaaW.dA Go.Proofs.YtbkjplomoegbdaaW.dG
attribute [local go_sem] iQ iR jM jN gW gX iS iT
set_option linter.unusedVariables false
set_option linter.unusedSimpArgs false
def bD.f (a0:Int) (a1:Int) (a2:Int):Option (Bool):=if a0≥a1 then (some (decide (a0≤a2))) else (some false)
set_option maxHeartbeats 8000000 in
set_option maxRecDepth 100000 in
theorem bD.calls (a0:Int) (a1:Int) (a2:Int) (r:Bool) (w:World) (h:bD.f a0 a1 a2=some r):
  Calls Try.prog 110 #[.int .i64 a0,.int .i64 a1,.int .i64 a2] w fun e w'=>e= .returned (.bool r)∧dD w w':=by
 have H:(if a0≥a1 then (some (decide (a0≤a2))) else (some false))=some r:=h
 clear h
 by_cases c4:a0≥a1
 ·rw [if_pos c4] at H
  have c4b0:decide (a1≤a0)=true:=decide_eq_true c4
  clear c4
  obtain rfl:=Option.some.inj H
  go_enter Try.func110,Try.ntmps110
  go_wp2
  go_ret
  exact ⟨by first|rfl|(simp;done)|(simp [*];done),by repeat (first|exact dD.refl _|apply dD.step)⟩
 rw [if_neg c4] at H
 have c4b0:decide (a1≤a0)=false:=decide_eq_false c4
 clear c4
 obtain rfl:=Option.some.inj H
 go_enter Try.func110,Try.ntmps110
 go_wp2
 go_ret
 exact ⟨by first|rfl|(simp;done)|(simp [*];done),by repeat (first|exact dD.refl _|apply dD.step)⟩
def cm.l0:Nat→List Int→Int→Int→Int→Int→Option (Bool × List Int)
 |0,_,_,_,_,_=>none
 |k+1,x0,x5,x6,Y7,FJ=>if FJ<Y7 then (if 0≤FJ then (if FJ<(x0.length:Int) then (if (rd x0 FJ)=x6 then (cm.l0 k (x0.set (FJ:Int).toNat x5) x5 x6 Y7 (wrap64 (FJ+1))) else (cm.l0 k x0 x5 x6 Y7 (wrap64 (FJ+1)))) else (none)) else (none)) else (some (true,x0))
def cm.f (k:Nat) (l0:List Int) (mD:Int) (fR:Int) (gh:Int) (kE:Int) (mE:Int) (mF:Int):Option (Bool × List Int):=if 0≤fR then (if fR<(l0.length:Int) then (if 0≤gh then (if gh<(l0.length:Int) then (if (rd l0 fR)=(rd l0 gh) then (some (false,l0)) else (cm.l0 k l0 (rd l0 fR) (rd l0 gh) (l0.length:Int) 0)) else (none)) else (none)) else (none)) else (none)
set_option maxHeartbeats 8000000 in
set_option maxRecDepth 100000 in
theorem cm.calls (k:Nat) (ol:Nat→Prop) (l7:Value) (l0:List Int) (mD:Int) (fR:Int) (gh:Int) (kE:Int) (mE:Int) (mF:Int) (r1:Bool) (r2:List Int) (w0 w:World) (hB:Below w0.heap.size w0 w) (mN:Kd.R (Kd.int .i64) 3 w w0.heap.size ol l7 l0) (h:cm.f k l0 mD fR gh kE mE mF=some (r1,r2)):
  Calls Try.prog 86 #[l7,.agg #[.int .i64 mD,.int .i64 fR,.int .i64 gh,.int .i64 kE,.int .i64 mE,.int .i64 mF]] w fun e w'=>e= .returned (.bool r1)∧Kd.R (Kd.int .i64) 3 w' w0.heap.size (fun k_=>(ol k_∨w.heap.size≤k_)) l7 r2∧Below w0.heap.size w0 w'∧Kept w w' (fun k_=>ol k_):=by
 have sj:=Try.underlying36
 have mo:=aa.mk (show Kd.R (Kd.int .i64) 3 w w0.heap.size (fun k_=>(ol k_∨w.heap.size≤k_)) l7 l0 from Kd.bN mN (fun k_ hk=>(.inl hk)))
 have HK:=aa.mk (Kept.refl w (fun k_=>ol k_))
 have PA:=aa.mk hB.size
 have HB:=aa.mk hB
 clear hB
 have H:(if 0≤fR then (if fR<(l0.length:Int) then (if 0≤gh then (if gh<(l0.length:Int) then (if (rd l0 fR)=(rd l0 gh) then (some (false,l0)) else (cm.l0 k l0 (rd l0 fR) (rd l0 gh) (l0.length:Int) 0)) else (none)) else (none)) else (none)) else (none))=some (r1,r2):=h
 clear h
 by_cases c3:0≤fR
 ·rw [if_pos c3] at H
  have c3b0:decide (0≤fR)=true:=decide_eq_true c3
  clear c3
  by_cases c4:fR<(l0.length:Int)
  ·rw [if_pos c4] at H
   have c4b0:decide (fR<(l0.length:Int))=true:=decide_eq_true c4
   clear c4
   by_cases c5:0≤gh
   ·rw [if_pos c5] at H
    have c5b0:decide (0≤gh)=true:=decide_eq_true c5
    clear c5
    by_cases c6:gh<(l0.length:Int)
    ·rw [if_pos c6] at H
     have c6b0:decide (gh<(l0.length:Int))=true:=decide_eq_true c6
     clear c6
     by_cases c7:(rd l0 fR)=(rd l0 gh)
     ·rw [if_pos c7] at H
      have c7b0:((rd l0 fR)==(rd l0 gh))=true:=beq_iff_eq.mpr c7
      have c7b1:((rd l0 fR) !=(rd l0 gh))=false:=bne_eq_false_iff_eq.mpr c7
      clear c7
      simp only [Option.some.injEq,Prod.mk.injEq] at H
      obtain ⟨rfl,rfl⟩:=H
      go_enter Try.func86,Try.ntmps86
      go_wp2_with (first|((with_reducible refine bF (N:=3) rfl ?_);refine bH ?hg (N:=3) ?hd (cs:=#[.int .i64 mD,.int .i64 fR,.int .i64 gh,.int .i64 kE,.int .i64 mE,.int .i64 mF]) (t:=36) ?hr ?_;(case hd=>rfl);(case hg=>rfl);(case hr=>first|(go_simp;done)|(go_simp;rfl));intro fq hg w8 hbox hb;have br:=aa.mk (Kd.aZ (by (with_reducible repeat (first|apply Kd.aw|apply Kd.av|apply Kd.aA));exact mo.out) hb);have bt:=aa.mk (Kept.below (S:=(fun k_=>ol k_)) (by repeat (first|(with_reducible first|exact HK.out|apply Kept.alloc|apply Kept.drewN|apply Kept.drew)|exact HK.out)) hb);have bA:=aa.mk (aE (by repeat (first|(with_reducible first|exact HB.out|apply ae|apply ab|apply af)|exact HB.out)) hb);have bK:=aa.mk (hbox);have cL:=aa.mk ((by rw [hg];exact (by first|exact HK.out.1|exact (show Kept w _ (fun k_=>ol k_) from by repeat (first|(with_reducible first|exact HK.out|apply Kept.alloc|apply Kept.drewN|apply Kept.drew)|exact HK.out)).1):w.heap.size≤fq));have dc:=aa.mk ((by rw [hg];exact (az (by repeat (first|(with_reducible first|exact HB.out|apply ae|apply ab|apply af)|exact HB.out))):w0.heap.size≤fq));clear mo;clear HK;clear HB;have mo:=br;have HK:=bt;have HB:=bA;have dl:=bK;have pO:=cL;have sC:=dc;clear br bt bA bK cL dc;clear hb hbox hg;have jP:w8.cell? ⟨fq,0,none⟩=some (.int .i64 mD):=(ag dl.out 0).trans rfl;have jQ:w8.cell? ⟨fq,1,none⟩=some (.int .i64 fR):=(ag dl.out 1).trans rfl;have j9:w8.cell? ⟨fq,2,none⟩=some (.int .i64 gh):=(ag dl.out 2).trans rfl;have CR:w8.cell? ⟨fq,3,none⟩=some (.int .i64 kE):=(ag dl.out 3).trans rfl;have CS:w8.cell? ⟨fq,4,none⟩=some (.int .i64 mE):=(ag dl.out 4).trans rfl;have CT:w8.cell? ⟨fq,5,none⟩=some (.int .i64 mF):=(ag dl.out 5).trans rfl;have ke:=ah dl.out 0;have jR:=ah dl.out 1;have kg:=ah dl.out 2;have CU:=ah dl.out 3;have CV:=ah dl.out 4;have CW:=ah dl.out 5;obtain ⟨G3,Bf,sJ⟩:=Kd.cA mo.out;subst sJ;have nW:0≤(fR:Int):=of_decide_eq_true (by assumption);have nX:fR<(l0.length:Int):=of_decide_eq_true (by assumption);obtain ⟨oZ,wU,qi⟩:=Kd.dN (Kd.bf mo.out).2.2 fR nW nX;cases wU;replace nW:=eq_true nW;replace nX:=eq_true nX;have nY:0≤(gh:Int):=of_decide_eq_true (by assumption);have nZ:gh<(l0.length:Int):=of_decide_eq_true (by assumption);obtain ⟨qV,wV,qj⟩:=Kd.dN (Kd.bf mo.out).2.2 gh nY nZ;obtain rfl:oZ=qV:=(by injection wV);replace nY:=eq_true nY;replace nZ:=eq_true nZ))
      repeat (go_quiet (first|((with_reducible refine bF (N:=3) rfl ?_);refine bH ?hg (N:=3) ?hd (cs:=#[.int .i64 mD,.int .i64 fR,.int .i64 gh,.int .i64 kE,.int .i64 mE,.int .i64 mF]) (t:=36) ?hr ?_;(case hd=>rfl);(case hg=>rfl);(case hr=>first|(go_simp;done)|(go_simp;rfl));intro fq hg w8 hbox hb;have br:=aa.mk (Kd.aZ (by (with_reducible repeat (first|apply Kd.aw|apply Kd.av|apply Kd.aA));exact mo.out) hb);have bt:=aa.mk (Kept.below (S:=(fun k_=>ol k_)) (by repeat (first|(with_reducible first|exact HK.out|apply Kept.alloc|apply Kept.drewN|apply Kept.drew)|exact HK.out)) hb);have bA:=aa.mk (aE (by repeat (first|(with_reducible first|exact HB.out|apply ae|apply ab|apply af)|exact HB.out)) hb);have bK:=aa.mk (hbox);have cL:=aa.mk ((by rw [hg];exact (by first|exact HK.out.1|exact (show Kept w _ (fun k_=>ol k_) from by repeat (first|(with_reducible first|exact HK.out|apply Kept.alloc|apply Kept.drewN|apply Kept.drew)|exact HK.out)).1):w.heap.size≤fq));have dc:=aa.mk ((by rw [hg];exact (az (by repeat (first|(with_reducible first|exact HB.out|apply ae|apply ab|apply af)|exact HB.out))):w0.heap.size≤fq));clear mo;clear HK;clear HB;have mo:=br;have HK:=bt;have HB:=bA;have dl:=bK;have pO:=cL;have sC:=dc;clear br bt bA bK cL dc;clear hb hbox hg;have jP:w8.cell? ⟨fq,0,none⟩=some (.int .i64 mD):=(ag dl.out 0).trans rfl;have jQ:w8.cell? ⟨fq,1,none⟩=some (.int .i64 fR):=(ag dl.out 1).trans rfl;have j9:w8.cell? ⟨fq,2,none⟩=some (.int .i64 gh):=(ag dl.out 2).trans rfl;have CR:w8.cell? ⟨fq,3,none⟩=some (.int .i64 kE):=(ag dl.out 3).trans rfl;have CS:w8.cell? ⟨fq,4,none⟩=some (.int .i64 mE):=(ag dl.out 4).trans rfl;have CT:w8.cell? ⟨fq,5,none⟩=some (.int .i64 mF):=(ag dl.out 5).trans rfl;have ke:=ah dl.out 0;have jR:=ah dl.out 1;have kg:=ah dl.out 2;have CU:=ah dl.out 3;have CV:=ah dl.out 4;have CW:=ah dl.out 5;obtain ⟨G3,Bf,sJ⟩:=Kd.cA mo.out;subst sJ;have nW:0≤(fR:Int):=of_decide_eq_true (by assumption);have nX:fR<(l0.length:Int):=of_decide_eq_true (by assumption);obtain ⟨oZ,wU,qi⟩:=Kd.dN (Kd.bf mo.out).2.2 fR nW nX;cases wU;replace nW:=eq_true nW;replace nX:=eq_true nX;have nY:0≤(gh:Int):=of_decide_eq_true (by assumption);have nZ:gh<(l0.length:Int):=of_decide_eq_true (by assumption);obtain ⟨qV,wV,qj⟩:=Kd.dN (Kd.bf mo.out).2.2 gh nY nZ;obtain rfl:oZ=qV:=(by injection wV);replace nY:=eq_true nY;replace nZ:=eq_true nZ));try go_wp2_with (first|((with_reducible refine bF (N:=3) rfl ?_);refine bH ?hg (N:=3) ?hd (cs:=#[.int .i64 mD,.int .i64 fR,.int .i64 gh,.int .i64 kE,.int .i64 mE,.int .i64 mF]) (t:=36) ?hr ?_;(case hd=>rfl);(case hg=>rfl);(case hr=>first|(go_simp;done)|(go_simp;rfl));intro fq hg w8 hbox hb;have br:=aa.mk (Kd.aZ (by (with_reducible repeat (first|apply Kd.aw|apply Kd.av|apply Kd.aA));exact mo.out) hb);have bt:=aa.mk (Kept.below (S:=(fun k_=>ol k_)) (by repeat (first|(with_reducible first|exact HK.out|apply Kept.alloc|apply Kept.drewN|apply Kept.drew)|exact HK.out)) hb);have bA:=aa.mk (aE (by repeat (first|(with_reducible first|exact HB.out|apply ae|apply ab|apply af)|exact HB.out)) hb);have bK:=aa.mk (hbox);have cL:=aa.mk ((by rw [hg];exact (by first|exact HK.out.1|exact (show Kept w _ (fun k_=>ol k_) from by repeat (first|(with_reducible first|exact HK.out|apply Kept.alloc|apply Kept.drewN|apply Kept.drew)|exact HK.out)).1):w.heap.size≤fq));have dc:=aa.mk ((by rw [hg];exact (az (by repeat (first|(with_reducible first|exact HB.out|apply ae|apply ab|apply af)|exact HB.out))):w0.heap.size≤fq));clear mo;clear HK;clear HB;have mo:=br;have HK:=bt;have HB:=bA;have dl:=bK;have pO:=cL;have sC:=dc;clear br bt bA bK cL dc;clear hb hbox hg;have jP:w8.cell? ⟨fq,0,none⟩=some (.int .i64 mD):=(ag dl.out 0).trans rfl;have jQ:w8.cell? ⟨fq,1,none⟩=some (.int .i64 fR):=(ag dl.out 1).trans rfl;have j9:w8.cell? ⟨fq,2,none⟩=some (.int .i64 gh):=(ag dl.out 2).trans rfl;have CR:w8.cell? ⟨fq,3,none⟩=some (.int .i64 kE):=(ag dl.out 3).trans rfl;have CS:w8.cell? ⟨fq,4,none⟩=some (.int .i64 mE):=(ag dl.out 4).trans rfl;have CT:w8.cell? ⟨fq,5,none⟩=some (.int .i64 mF):=(ag dl.out 5).trans rfl;have ke:=ah dl.out 0;have jR:=ah dl.out 1;have kg:=ah dl.out 2;have CU:=ah dl.out 3;have CV:=ah dl.out 4;have CW:=ah dl.out 5;obtain ⟨G3,Bf,sJ⟩:=Kd.cA mo.out;subst sJ;have nW:0≤(fR:Int):=of_decide_eq_true (by assumption);have nX:fR<(l0.length:Int):=of_decide_eq_true (by assumption);obtain ⟨oZ,wU,qi⟩:=Kd.dN (Kd.bf mo.out).2.2 fR nW nX;cases wU;replace nW:=eq_true nW;replace nX:=eq_true nX;have nY:0≤(gh:Int):=of_decide_eq_true (by assumption);have nZ:gh<(l0.length:Int):=of_decide_eq_true (by assumption);obtain ⟨qV,wV,qj⟩:=Kd.dN (Kd.bf mo.out).2.2 gh nY nZ;obtain rfl:oZ=qV:=(by injection wV);replace nY:=eq_true nY;replace nZ:=eq_true nZ)))
      go_ret
      exact ⟨by first|rfl|(simp [bB,bC]<;>rfl)|(simp [*,bB,bC]<;>rfl),by (with_reducible repeat (first|apply Kd.aw|apply Kd.av|apply Kd.aA));exact mo.out,by repeat (first|(with_reducible first|exact HB.out|apply ae|apply ab|apply af|refine ai ?_ sC.out)|exact HB.out),by repeat (first|(with_reducible first|exact HK.out|apply Kept.alloc|apply Kept.drewN|apply Kept.drew|refine Kept.setCell ?_ (.inr pO.out) _)|exact HK.out)⟩
     rw [if_neg c7] at H
     have c7b0:((rd l0 fR)==(rd l0 gh))=false:=beq_eq_false_iff_ne.mpr c7
     have c7b1:((rd l0 fR) !=(rd l0 gh))=true:=bne_iff_ne.mpr c7
     have H':=aa.mk H
     clear H
     go_enter Try.func86,Try.ntmps86
     go_wp2_with (first|((with_reducible refine bF (N:=3) rfl ?_);refine bH ?hg (N:=3) ?hd (cs:=#[.int .i64 mD,.int .i64 fR,.int .i64 gh,.int .i64 kE,.int .i64 mE,.int .i64 mF]) (t:=36) ?hr ?_;(case hd=>rfl);(case hg=>rfl);(case hr=>first|(go_simp;done)|(go_simp;rfl));intro fq hg qW hbox hb;have br:=aa.mk (Kd.aZ (by (with_reducible repeat (first|apply Kd.aw|apply Kd.av|apply Kd.aA));exact mo.out) hb);have bt:=aa.mk (Kept.below (S:=(fun k_=>ol k_)) (by repeat (first|(with_reducible first|exact HK.out|apply Kept.alloc|apply Kept.drewN|apply Kept.drew)|exact HK.out)) hb);have bA:=aa.mk (aE (by repeat (first|(with_reducible first|exact HB.out|apply ae|apply ab|apply af)|exact HB.out)) hb);have bK:=aa.mk (hbox);have cL:=aa.mk ((by rw [hg];exact (by first|exact HK.out.1|exact (show Kept w _ (fun k_=>ol k_) from by repeat (first|(with_reducible first|exact HK.out|apply Kept.alloc|apply Kept.drewN|apply Kept.drew)|exact HK.out)).1):w.heap.size≤fq));have dc:=aa.mk ((by rw [hg];exact (az (by repeat (first|(with_reducible first|exact HB.out|apply ae|apply ab|apply af)|exact HB.out))):w0.heap.size≤fq));clear mo;clear HK;clear HB;have mo:=br;have HK:=bt;have HB:=bA;have dl:=bK;have pO:=cL;have sC:=dc;clear br bt bA bK cL dc;clear hb hbox hg;have kn:qW.cell? ⟨fq,0,none⟩=some (.int .i64 mD):=(ag dl.out 0).trans rfl;have ko:qW.cell? ⟨fq,1,none⟩=some (.int .i64 fR):=(ag dl.out 1).trans rfl;have qk:qW.cell? ⟨fq,2,none⟩=some (.int .i64 gh):=(ag dl.out 2).trans rfl;have rL:qW.cell? ⟨fq,3,none⟩=some (.int .i64 kE):=(ag dl.out 3).trans rfl;have rM:qW.cell? ⟨fq,4,none⟩=some (.int .i64 mE):=(ag dl.out 4).trans rfl;have rN:qW.cell? ⟨fq,5,none⟩=some (.int .i64 mF):=(ag dl.out 5).trans rfl;have kp:=ah dl.out 0;have kr:=ah dl.out 1;have ql:=ah dl.out 2;have rO:=ah dl.out 3;have rP:=ah dl.out 4;have rQ:=ah dl.out 5;obtain ⟨Qt,FL,Ht⟩:=Kd.cA mo.out;subst Ht;have nW:0≤(fR:Int):=of_decide_eq_true (by assumption);have nX:fR<(l0.length:Int):=of_decide_eq_true (by assumption);obtain ⟨oZ,wU,qi⟩:=Kd.dN (Kd.bf mo.out).2.2 fR nW nX;cases wU;replace nW:=eq_true nW;replace nX:=eq_true nX;have nY:0≤(gh:Int):=of_decide_eq_true (by assumption);have nZ:gh<(l0.length:Int):=of_decide_eq_true (by assumption);obtain ⟨qV,wV,qj⟩:=Kd.dN (Kd.bf mo.out).2.2 gh nY nZ;obtain rfl:oZ=qV:=(by injection wV);replace nY:=eq_true nY;replace nZ:=eq_true nZ))
     repeat (go_quiet (first|((with_reducible refine bF (N:=3) rfl ?_);refine bH ?hg (N:=3) ?hd (cs:=#[.int .i64 mD,.int .i64 fR,.int .i64 gh,.int .i64 kE,.int .i64 mE,.int .i64 mF]) (t:=36) ?hr ?_;(case hd=>rfl);(case hg=>rfl);(case hr=>first|(go_simp;done)|(go_simp;rfl));intro fq hg qW hbox hb;have br:=aa.mk (Kd.aZ (by (with_reducible repeat (first|apply Kd.aw|apply Kd.av|apply Kd.aA));exact mo.out) hb);have bt:=aa.mk (Kept.below (S:=(fun k_=>ol k_)) (by repeat (first|(with_reducible first|exact HK.out|apply Kept.alloc|apply Kept.drewN|apply Kept.drew)|exact HK.out)) hb);have bA:=aa.mk (aE (by repeat (first|(with_reducible first|exact HB.out|apply ae|apply ab|apply af)|exact HB.out)) hb);have bK:=aa.mk (hbox);have cL:=aa.mk ((by rw [hg];exact (by first|exact HK.out.1|exact (show Kept w _ (fun k_=>ol k_) from by repeat (first|(with_reducible first|exact HK.out|apply Kept.alloc|apply Kept.drewN|apply Kept.drew)|exact HK.out)).1):w.heap.size≤fq));have dc:=aa.mk ((by rw [hg];exact (az (by repeat (first|(with_reducible first|exact HB.out|apply ae|apply ab|apply af)|exact HB.out))):w0.heap.size≤fq));clear mo;clear HK;clear HB;have mo:=br;have HK:=bt;have HB:=bA;have dl:=bK;have pO:=cL;have sC:=dc;clear br bt bA bK cL dc;clear hb hbox hg;have kn:qW.cell? ⟨fq,0,none⟩=some (.int .i64 mD):=(ag dl.out 0).trans rfl;have ko:qW.cell? ⟨fq,1,none⟩=some (.int .i64 fR):=(ag dl.out 1).trans rfl;have qk:qW.cell? ⟨fq,2,none⟩=some (.int .i64 gh):=(ag dl.out 2).trans rfl;have rL:qW.cell? ⟨fq,3,none⟩=some (.int .i64 kE):=(ag dl.out 3).trans rfl;have rM:qW.cell? ⟨fq,4,none⟩=some (.int .i64 mE):=(ag dl.out 4).trans rfl;have rN:qW.cell? ⟨fq,5,none⟩=some (.int .i64 mF):=(ag dl.out 5).trans rfl;have kp:=ah dl.out 0;have kr:=ah dl.out 1;have ql:=ah dl.out 2;have rO:=ah dl.out 3;have rP:=ah dl.out 4;have rQ:=ah dl.out 5;obtain ⟨Qt,FL,Ht⟩:=Kd.cA mo.out;subst Ht;have nW:0≤(fR:Int):=of_decide_eq_true (by assumption);have nX:fR<(l0.length:Int):=of_decide_eq_true (by assumption);obtain ⟨oZ,wU,qi⟩:=Kd.dN (Kd.bf mo.out).2.2 fR nW nX;cases wU;replace nW:=eq_true nW;replace nX:=eq_true nX;have nY:0≤(gh:Int):=of_decide_eq_true (by assumption);have nZ:gh<(l0.length:Int):=of_decide_eq_true (by assumption);obtain ⟨qV,wV,qj⟩:=Kd.dN (Kd.bf mo.out).2.2 gh nY nZ;obtain rfl:oZ=qV:=(by injection wV);replace nY:=eq_true nY;replace nZ:=eq_true nZ));try go_wp2_with (first|((with_reducible refine bF (N:=3) rfl ?_);refine bH ?hg (N:=3) ?hd (cs:=#[.int .i64 mD,.int .i64 fR,.int .i64 gh,.int .i64 kE,.int .i64 mE,.int .i64 mF]) (t:=36) ?hr ?_;(case hd=>rfl);(case hg=>rfl);(case hr=>first|(go_simp;done)|(go_simp;rfl));intro fq hg qW hbox hb;have br:=aa.mk (Kd.aZ (by (with_reducible repeat (first|apply Kd.aw|apply Kd.av|apply Kd.aA));exact mo.out) hb);have bt:=aa.mk (Kept.below (S:=(fun k_=>ol k_)) (by repeat (first|(with_reducible first|exact HK.out|apply Kept.alloc|apply Kept.drewN|apply Kept.drew)|exact HK.out)) hb);have bA:=aa.mk (aE (by repeat (first|(with_reducible first|exact HB.out|apply ae|apply ab|apply af)|exact HB.out)) hb);have bK:=aa.mk (hbox);have cL:=aa.mk ((by rw [hg];exact (by first|exact HK.out.1|exact (show Kept w _ (fun k_=>ol k_) from by repeat (first|(with_reducible first|exact HK.out|apply Kept.alloc|apply Kept.drewN|apply Kept.drew)|exact HK.out)).1):w.heap.size≤fq));have dc:=aa.mk ((by rw [hg];exact (az (by repeat (first|(with_reducible first|exact HB.out|apply ae|apply ab|apply af)|exact HB.out))):w0.heap.size≤fq));clear mo;clear HK;clear HB;have mo:=br;have HK:=bt;have HB:=bA;have dl:=bK;have pO:=cL;have sC:=dc;clear br bt bA bK cL dc;clear hb hbox hg;have kn:qW.cell? ⟨fq,0,none⟩=some (.int .i64 mD):=(ag dl.out 0).trans rfl;have ko:qW.cell? ⟨fq,1,none⟩=some (.int .i64 fR):=(ag dl.out 1).trans rfl;have qk:qW.cell? ⟨fq,2,none⟩=some (.int .i64 gh):=(ag dl.out 2).trans rfl;have rL:qW.cell? ⟨fq,3,none⟩=some (.int .i64 kE):=(ag dl.out 3).trans rfl;have rM:qW.cell? ⟨fq,4,none⟩=some (.int .i64 mE):=(ag dl.out 4).trans rfl;have rN:qW.cell? ⟨fq,5,none⟩=some (.int .i64 mF):=(ag dl.out 5).trans rfl;have kp:=ah dl.out 0;have kr:=ah dl.out 1;have ql:=ah dl.out 2;have rO:=ah dl.out 3;have rP:=ah dl.out 4;have rQ:=ah dl.out 5;obtain ⟨Qt,FL,Ht⟩:=Kd.cA mo.out;subst Ht;have nW:0≤(fR:Int):=of_decide_eq_true (by assumption);have nX:fR<(l0.length:Int):=of_decide_eq_true (by assumption);obtain ⟨oZ,wU,qi⟩:=Kd.dN (Kd.bf mo.out).2.2 fR nW nX;cases wU;replace nW:=eq_true nW;replace nX:=eq_true nX;have nY:0≤(gh:Int):=of_decide_eq_true (by assumption);have nZ:gh<(l0.length:Int):=of_decide_eq_true (by assumption);obtain ⟨qV,wV,qj⟩:=Kd.dN (Kd.bf mo.out).2.2 gh nY nZ;obtain rfl:oZ=qV:=(by injection wV);replace nY:=eq_true nY;replace nZ:=eq_true nZ)))
     go_loopg [23] k (fun kq v23 w'=>∃ (iy:List Int) (iA:Int),v23= .int .i64 iA∧aa (cm.l0 kq iy (rd l0 fR) (rd l0 gh) (l0.length:Int) iA=some (r1,r2))∧aa (kq≤k)∧aa (Kd.R (Kd.int .i64) 3 w' w0.heap.size (fun k_=>(ol k_∨w.heap.size≤k_)) (.slice (some oZ) l0.length FL) iy)∧aa (w'.heap[fq]? =some (.cells #[.int .i64 mD,.int .i64 fR,.int .i64 gh,.int .i64 kE,.int .i64 mE,.int .i64 mF] 36 (0,0)))∧aa (Kept w w' (fun k_=>ol k_))∧aa (Below w0.heap.size w0 w'))
     case atStart=>exact ⟨(l0),(0),(by first|rfl|(simp;done)|(simp [*];done)),H',⟨Nat.le_refl _⟩,⟨by (with_reducible repeat (first|apply Kd.aw|apply Kd.av|apply Kd.aA));exact mo.out⟩,⟨by (with_reducible repeat (first|refine ak ?_ _|refine aq ?_|refine aj ?_ _));exact dl.out⟩,⟨by repeat (first|(with_reducible first|exact HK.out|apply Kept.alloc|apply Kept.drewN|apply Kept.drew|refine Kept.setCell ?_ (.inr pO.out) _)|exact HK.out)⟩,⟨by repeat (first|(with_reducible first|exact HB.out|apply ae|apply ab|apply af|refine ai ?_ sC.out)|exact HB.out)⟩⟩
     case round=>
      clear H'
      try clear p1
      try clear q1
      try clear hx1
      try clear p2
      try clear c3
      try clear c3b0
      try clear c4
      try clear c4b0
      try clear c5
      try clear c5b0
      try clear c6
      try clear c6b0
      try clear c7
      try clear c7b0
      try clear c7b1
      try clear c8
      try clear kn
      try clear ko
      try clear qk
      try clear rL
      try clear rM
      try clear rN
      try clear jP
      try clear jQ
      try clear j9
      try clear CR
      try clear CS
      try clear CT
      try clear kp
      try clear kr
      try clear ql
      try clear rO
      try clear rP
      try clear rQ
      try clear ke
      try clear jR
      try clear kg
      try clear CU
      try clear CV
      try clear CW
      try clear qi
      try clear qj
      try clear nW
      try clear nY
      try clear nX
      try clear nZ
      obtain ⟨iy,iA,rfl,HA,lw,HO_0,dl,HK,HB⟩:=hrel
      have pP:=(Kd.bf HO_0.out).1
      rw [pP] at HO_0
      (try simp only [pP])
      (try simp only [pP] at dl)
      cases gk with
      |zero=>exact absurd HA.out (by simp [cm.l0])
      |succ k1=>
       have H:=HA.out
       clear HA
       simp only [cm.l0] at H
       by_cases rR:iA<(l0.length:Int)
       ·rw [if_pos rR] at H
        have c14b0:decide (iA<(l0.length:Int))=true:=decide_eq_true rR
        (try (have c14b0r:=c14b0;simp only [pP] at c14b0r))
        clear rR
        by_cases uu:0≤iA
        ·rw [if_pos uu] at H
         have c15b0:decide (0≤iA)=true:=decide_eq_true uu
         clear uu
         by_cases sI:iA<(iy.length:Int)
         ·rw [if_pos sI] at H
          have c16b0:decide (iA<(iy.length:Int))=true:=decide_eq_true sI
          (try (have c16b0r:=c16b0;simp only [pP] at c16b0r))
          clear sI
          by_cases qf:(rd iy iA)=(rd l0 gh)
          ·rw [if_pos qf] at H
           have c17b0:((rd iy iA)==(rd l0 gh))=true:=beq_iff_eq.mpr qf
           have c17b1:((rd iy iA) !=(rd l0 gh))=false:=bne_eq_false_iff_eq.mpr qf
           clear qf
           obtain ⟨Hu,Bs⟩:∃ y_:List Int,y_=(iy.set (iA:Int).toNat (rd l0 fR)):=⟨_,rfl⟩
           replace H:(cm.l0 k1 Hu (rd l0 fR) (rd l0 gh) (l0.length:Int) (wrap64 (iA+1)))=some (r1,r2):=by first|(rw [Bs];with_reducible exact H)|(have gT:=(Option.bind_some _ _).symm.trans H;rw [Bs];with_reducible exact gT)|(have gT:=(Option.bind_some _ _).symm.trans H;with_reducible exact gT)|with_reducible exact H|(rw [Bs];exact H)|exact H
           have Hv:=aa.mk Bs
           clear Bs
           have H':=aa.mk H
           clear H
           have CX:0≤(iA:Int):=of_decide_eq_true (by assumption)
           have CY:iA<(iy.length:Int):=of_decide_eq_true (by assumption)
           obtain ⟨Hw,NA,DP⟩:=Kd.dN (Kd.bf HO_0.out).2.2 iA CX CY
           obtain rfl:oZ=Hw:=(by injection NA)
           replace CX:=eq_true CX
           replace CY:=eq_true CY
           have Y8:0≤(iA:Int):=of_decide_eq_true (by assumption)
           have Y9:(iA:Int)<((iy.length:Int):Int):=of_decide_eq_true (by assumption)
           obtain ⟨sN,Y0,JP,Qu,Za,adQ,Qv⟩:=Kd.mP HO_0.out (by first|omega|(have hz_:=(Kd.bf HO_0.out).1;omega))
           (first|cases JP|(injection JP with ea_ en_ ec_;(first|subst ea_|(injection ea_ with ea_;subst ea_));subst ec_;clear en_))
           have NB:=aa.mk Qu
           have adR:=aa.mk Qv
           clear Qu Za Qv
           have Zb:=aa.mk (show (ol sN∨w.heap.size≤sN) from (HO_0.out.1 _ rfl))
           (first|simp only [add_plain] at qi|skip)
           (first|simp only [add_plain] at qj|skip)
           (first|simp only [add_plain] at DP|skip)
           obtain ⟨Zc,Zd⟩:=Kd.jq 0 HO_0.out (iA:Int) Y8 Y9
           replace Y8:=eq_true Y8
           replace Y9:=eq_true Y9
           have vn:=Kd.l6 HO_0.out (iA:Int) (rd l0 fR)
           go_wp2_with (first|((with_reducible refine iM (t:=3) (p:=35) rfl ?_);(try (rw [mR wr];generalize hq_:World.drewN wr _=wr;have br:=aa.mk (Kd.MD hq_ HO_0.out);have bt:=aa.mk (CD hq_ dl.out);have bA:=aa.mk (yG hq_ HK.out);have bK:=aa.mk (wy hq_ HB.out);clear hq_ HO_0 dl HK HB;have HO_0:=br;have dl:=bt;have HK:=bA;have HB:=bK;clear br bt bA bK;(try (have vn:=Kd.l6 HO_0.out (iA:Int) (rd l0 fR)))));refine hU (t:=3) (p:=35) (v:= ?vo_w20) (w1:=(wr.setCell ⟨sN,(iA:Int).toNat,none⟩ (.int .i64 (rd l0 fR)))) ?hg ?ho ?hn ?hr ?_;(case ho=>rfl);(case hg=>rfl);(case hn=>rfl);(case hr=>first|(go_simp;done)|(go_simp;rfl));intro AG hw;have hg:wr.grownBy AG (some sN):=(by rw [hw];exact vn.2);have hp_:Kd.R (Kd.int .i64) 3 AG w0.heap.size (fun k_=>(ol k_∨w.heap.size≤k_)) (.slice (some ⟨sN,0,none⟩) iy.length FL) Hu:=(by rw [hw,Hv.out];exact vn.1);clear vn;have br:=aa.mk (hp_);have bt:=aa.mk (dq (g:=fq) (o:= .cells #[.int .i64 mD,.int .i64 fR,.int .i64 gh,.int .i64 kE,.int .i64 mE,.int .i64 mF] 36 (0,0)) (by (with_reducible repeat (first|refine ak ?_ _|refine aq ?_|refine aj ?_ _));exact dl.out) hg (Kd.mz HO_0.out dl.out (by decide)));have bA:=aa.mk ((by rw [hw];exact ai (HB.out) NB.out:Below w0.heap.size w0 AG));have bK:=aa.mk (Kept.ow (S:=(fun k_=>ol k_)) hg (by repeat (first|(with_reducible first|exact HK.out|apply Kept.alloc|apply Kept.drewN|apply Kept.drew|refine Kept.setCell ?_ (.inr pO.out) _)|exact HK.out)) (fun k_ e_=>(HO_0.out.1 k_ e_)));clear HO_0;clear dl;clear HB;clear HK;have HO_0:=br;have dl:=bt;have HB:=bA;have HK:=bK;clear br bt bA bK;clear hg hw hp_))
           repeat (go_quiet (first|((with_reducible refine iM (t:=3) (p:=35) rfl ?_);(try (rw [mR wr];generalize hq_:World.drewN wr _=wr;have br:=aa.mk (Kd.MD hq_ HO_0.out);have bt:=aa.mk (CD hq_ dl.out);have bA:=aa.mk (yG hq_ HK.out);have bK:=aa.mk (wy hq_ HB.out);clear hq_ HO_0 dl HK HB;have HO_0:=br;have dl:=bt;have HK:=bA;have HB:=bK;clear br bt bA bK;(try (have vn:=Kd.l6 HO_0.out (iA:Int) (rd l0 fR)))));refine hU (t:=3) (p:=35) (v:= ?vo_w20) (w1:=(wr.setCell ⟨sN,(iA:Int).toNat,none⟩ (.int .i64 (rd l0 fR)))) ?hg ?ho ?hn ?hr ?_;(case ho=>rfl);(case hg=>rfl);(case hn=>rfl);(case hr=>first|(go_simp;done)|(go_simp;rfl));intro AG hw;have hg:wr.grownBy AG (some sN):=(by rw [hw];exact vn.2);have hp_:Kd.R (Kd.int .i64) 3 AG w0.heap.size (fun k_=>(ol k_∨w.heap.size≤k_)) (.slice (some ⟨sN,0,none⟩) iy.length FL) Hu:=(by rw [hw,Hv.out];exact vn.1);clear vn;have br:=aa.mk (hp_);have bt:=aa.mk (dq (g:=fq) (o:= .cells #[.int .i64 mD,.int .i64 fR,.int .i64 gh,.int .i64 kE,.int .i64 mE,.int .i64 mF] 36 (0,0)) (by (with_reducible repeat (first|refine ak ?_ _|refine aq ?_|refine aj ?_ _));exact dl.out) hg (Kd.mz HO_0.out dl.out (by decide)));have bA:=aa.mk ((by rw [hw];exact ai (HB.out) NB.out:Below w0.heap.size w0 AG));have bK:=aa.mk (Kept.ow (S:=(fun k_=>ol k_)) hg (by repeat (first|(with_reducible first|exact HK.out|apply Kept.alloc|apply Kept.drewN|apply Kept.drew|refine Kept.setCell ?_ (.inr pO.out) _)|exact HK.out)) (fun k_ e_=>(HO_0.out.1 k_ e_)));clear HO_0;clear dl;clear HB;clear HK;have HO_0:=br;have dl:=bt;have HB:=bA;have HK:=bK;clear br bt bA bK;clear hg hw hp_));try go_wp2_with (first|((with_reducible refine iM (t:=3) (p:=35) rfl ?_);(try (rw [mR wr];generalize hq_:World.drewN wr _=wr;have br:=aa.mk (Kd.MD hq_ HO_0.out);have bt:=aa.mk (CD hq_ dl.out);have bA:=aa.mk (yG hq_ HK.out);have bK:=aa.mk (wy hq_ HB.out);clear hq_ HO_0 dl HK HB;have HO_0:=br;have dl:=bt;have HK:=bA;have HB:=bK;clear br bt bA bK;(try (have vn:=Kd.l6 HO_0.out (iA:Int) (rd l0 fR)))));refine hU (t:=3) (p:=35) (v:= ?vo_w20) (w1:=(wr.setCell ⟨sN,(iA:Int).toNat,none⟩ (.int .i64 (rd l0 fR)))) ?hg ?ho ?hn ?hr ?_;(case ho=>rfl);(case hg=>rfl);(case hn=>rfl);(case hr=>first|(go_simp;done)|(go_simp;rfl));intro AG hw;have hg:wr.grownBy AG (some sN):=(by rw [hw];exact vn.2);have hp_:Kd.R (Kd.int .i64) 3 AG w0.heap.size (fun k_=>(ol k_∨w.heap.size≤k_)) (.slice (some ⟨sN,0,none⟩) iy.length FL) Hu:=(by rw [hw,Hv.out];exact vn.1);clear vn;have br:=aa.mk (hp_);have bt:=aa.mk (dq (g:=fq) (o:= .cells #[.int .i64 mD,.int .i64 fR,.int .i64 gh,.int .i64 kE,.int .i64 mE,.int .i64 mF] 36 (0,0)) (by (with_reducible repeat (first|refine ak ?_ _|refine aq ?_|refine aj ?_ _));exact dl.out) hg (Kd.mz HO_0.out dl.out (by decide)));have bA:=aa.mk ((by rw [hw];exact ai (HB.out) NB.out:Below w0.heap.size w0 AG));have bK:=aa.mk (Kept.ow (S:=(fun k_=>ol k_)) hg (by repeat (first|(with_reducible first|exact HK.out|apply Kept.alloc|apply Kept.drewN|apply Kept.drew|refine Kept.setCell ?_ (.inr pO.out) _)|exact HK.out)) (fun k_ e_=>(HO_0.out.1 k_ e_)));clear HO_0;clear dl;clear HB;clear HK;have HO_0:=br;have dl:=bt;have HB:=bA;have HK:=bK;clear br bt bA bK;clear hg hw hp_)))
           (try simp only [← pP])
           (try simp only [← add_plain sN (fR:Int).toNat]);(try simp only [← add_plain sN (gh:Int).toNat])
           go_roundg k1
           case measure=>have:=lw.out;omega
           case rel=>exact ⟨(Hu),(wrap64 (iA+1)),(by first|rfl|(simp;done)|(simp [*];done)),H',⟨by have:=lw.out;omega⟩,⟨by (try simp only [pP]);(with_reducible repeat (first|apply Kd.aw|apply Kd.av|apply Kd.aA));exact HO_0.out⟩,⟨by (try simp only [pP]);(with_reducible repeat (first|refine ak ?_ _|refine aq ?_|refine aj ?_ _));exact dl.out⟩,⟨by repeat (first|(with_reducible first|exact HK.out|apply Kept.alloc|apply Kept.drewN|apply Kept.drew|refine Kept.setCell ?_ (.inr pO.out) _)|exact HK.out)⟩,⟨by repeat (first|(with_reducible first|exact HB.out|apply ae|apply ab|apply af|refine ai ?_ sC.out)|exact HB.out)⟩⟩
          rw [if_neg qf] at H
          have c17b0:((rd iy iA)==(rd l0 gh))=false:=beq_eq_false_iff_ne.mpr qf
          have c17b1:((rd iy iA) !=(rd l0 gh))=true:=bne_iff_ne.mpr qf
          have H':=aa.mk H
          clear H
          have CX:0≤(iA:Int):=of_decide_eq_true (by assumption)
          have CY:iA<(iy.length:Int):=of_decide_eq_true (by assumption)
          obtain ⟨Hw,NA,DP⟩:=Kd.dN (Kd.bf HO_0.out).2.2 iA CX CY
          obtain rfl:oZ=Hw:=(by injection NA)
          replace CX:=eq_true CX
          replace CY:=eq_true CY
          go_wp2
          repeat (go_quiet (fail);try go_wp2)
          (try simp only [← pP])
          (try simp only [← add_plain sN (fR:Int).toNat]);(try simp only [← add_plain sN (gh:Int).toNat])
          go_roundg k1
          case measure=>have:=lw.out;omega
          case rel=>exact ⟨(iy),(wrap64 (iA+1)),(by first|rfl|(simp;done)|(simp [*];done)),H',⟨by have:=lw.out;omega⟩,⟨by (try simp only [pP]);(with_reducible repeat (first|apply Kd.aw|apply Kd.av|apply Kd.aA));exact HO_0.out⟩,⟨by (try simp only [pP]);(with_reducible repeat (first|refine ak ?_ _|refine aq ?_|refine aj ?_ _));exact dl.out⟩,⟨by repeat (first|(with_reducible first|exact HK.out|apply Kept.alloc|apply Kept.drewN|apply Kept.drew|refine Kept.setCell ?_ (.inr pO.out) _)|exact HK.out)⟩,⟨by repeat (first|(with_reducible first|exact HB.out|apply ae|apply ab|apply af|refine ai ?_ sC.out)|exact HB.out)⟩⟩
         rw [if_neg sI] at H
         exact absurd H (by simp)
        rw [if_neg uu] at H
        exact absurd H (by simp)
       rw [if_neg rR] at H
       have c14b0:decide (iA<(l0.length:Int))=false:=decide_eq_false rR
       (try (have c14b0r:=c14b0;simp only [pP] at c14b0r))
       clear rR
       simp only [Option.some.injEq,Prod.mk.injEq] at H
       obtain ⟨rfl,rfl⟩:=H
       go_wp2
       repeat (go_quiet (fail);try go_wp2)
       go_ret
       exact ⟨by first|rfl|(simp [bB,bC]<;>rfl)|(simp [*,bB,bC]<;>rfl),(by first|exact (by (with_reducible repeat (first|apply Kd.aw|apply Kd.av|apply Kd.aA));exact HO_0.out)|(simp only [pP];exact (by (with_reducible repeat (first|apply Kd.aw|apply Kd.av|apply Kd.aA));exact HO_0.out))),by repeat (first|(with_reducible first|exact HB.out|apply ae|apply ab|apply af|refine ai ?_ sC.out)|exact HB.out),by repeat (first|(with_reducible first|exact HK.out|apply Kept.alloc|apply Kept.drewN|apply Kept.drew|refine Kept.setCell ?_ (.inr pO.out) _)|exact HK.out)⟩
    rw [if_neg c6] at H
    exact absurd H (by simp)
   rw [if_neg c5] at H
   exact absurd H (by simp)
  rw [if_neg c4] at H
  exact absurd H (by simp)
 rw [if_neg c3] at H
 exact absurd H (by simp)
def lg.f (a0:Int) (a1:Int):Option (Int):=if a1<1 then (some 0) else (if a1=0 then (none) else (if (Int.tmod a0 a1)<0 then (some (wrap64 ((Int.tmod a0 a1)+a1))) else (some (Int.tmod a0 a1))))
set_option maxHeartbeats 8000000 in
set_option maxRecDepth 100000 in
theorem lg.calls (a0:Int) (a1:Int) (r:Int) (w:World) (h:lg.f a0 a1=some r):
  Calls Try.prog 102 #[.int .i64 a0,.int .i64 a1] w fun e w'=>e= .returned (.int .i64 r)∧dD w w':=by
 have H:(if a1<1 then (some 0) else (if a1=0 then (none) else (if (Int.tmod a0 a1)<0 then (some (wrap64 ((Int.tmod a0 a1)+a1))) else (some (Int.tmod a0 a1)))))=some r:=h
 clear h
 by_cases c3:a1<1
 ·rw [if_pos c3] at H
  have c3b0:decide (a1<1)=true:=decide_eq_true c3
  clear c3
  obtain rfl:=Option.some.inj H
  go_enter Try.func102,Try.ntmps102
  go_wp2
  go_ret
  exact ⟨by first|rfl|(simp;done)|(simp [*];done),by repeat (first|exact dD.refl _|apply dD.step)⟩
 rw [if_neg c3] at H
 have c3b0:decide (a1<1)=false:=decide_eq_false c3
 clear c3
 by_cases c4:a1=0
 ·rw [if_pos c4] at H
  exact absurd H (by simp)
 rw [if_neg c4] at H
 have c4b0:(a1==0)=false:=beq_eq_false_iff_ne.mpr c4
 have c4b1:(a1 !=0)=true:=bne_iff_ne.mpr c4
 by_cases c5:(Int.tmod a0 a1)<0
 ·rw [if_pos c5] at H
  have c5b0:decide ((Int.tmod a0 a1)<0)=true:=decide_eq_true c5
  clear c5
  obtain rfl:=Option.some.inj H
  go_enter Try.func102,Try.ntmps102
  go_wp2
  go_ret
  exact ⟨by first|rfl|(simp;done)|(simp [*];done),by repeat (first|exact dD.refl _|apply dD.step)⟩
 rw [if_neg c5] at H
 have c5b0:decide ((Int.tmod a0 a1)<0)=false:=decide_eq_false c5
 clear c5
 obtain rfl:=Option.some.inj H
 go_enter Try.func102,Try.ntmps102
 go_wp2
 go_ret
 exact ⟨by first|rfl|(simp;done)|(simp [*];done),by repeat (first|exact dD.refl _|apply dD.step)⟩
end Go.Proofs.Ytbkjplomoegbdaa.PB
end
