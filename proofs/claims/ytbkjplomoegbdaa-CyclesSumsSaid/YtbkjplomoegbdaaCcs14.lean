/- Parts of the proof of CyclesSums, gathered by a program of this claim out of texts that it or the kit's print wrote: lemmas alone, no condition of their own. -/
import Derived.Test.YtbkjplomoegbdaaCcs13
namespace Go.Proofs.Ytbkjplomoegbdaa.PB
open Go.RowKit Go.Proofs.Ytbkjplomoegbdaa.UF Go.Proofs.Ytbkjplomoegbdaa.kH Go.Proofs.YtbkjplomoegbdaaW.bO Go.Proofs.YtbkjplomoegbdaaW.dA Go.Proofs.YtbkjplomoegbdaaW.dG
set_option linter.unusedVariables false
set_option linter.unusedSimpArgs false
theorem NP (a b c:Int) (W:World):Calls Try.prog 110 #[.int .i64 a,.int .i64 b,.int .i64 c] W fun e w'=>e= .returned (.bool (decide (b≤a)&&decide (a≤c)))∧∃ m,w'=W.drewN m:=
 (bD.calls a b c _ W (BF a b c)).mono fun _ _ ⟨h1,h2⟩=>⟨h1,h2.out⟩
def xe (n:Nat) (g:List Int) (L:List Nat):Prop:=g.length=n∧L.length=n∧∀ i j,i<n→j<n→(g.getD i 0=g.getD j 0↔L.getD i 0=L.getD j 0)
theorem xe.start (n:Nat) (g:List Int) (hl:g.length=n) (h:∀ j,j<n→g.getD j 0=(j:Int)):xe n g (List.range n):=by
 refine ⟨hl,by simp,fun i j hi hj=> ?_⟩
 rw [h i hi,h j hj]
 simp [List.getD_eq_getElem?_getD,hi,hj]
 omega
theorem xe.merge {n:Nat} {g:List Int} {L:List Nat} (h:xe n g L) {a b:Nat} (ha:a<n) (hb:b<n):xe n (m8 g a b) (JJ L a b):=by
 obtain ⟨h1,h2,h3⟩:=h
 refine ⟨by simp [m8,h1],by simp [JJ,h2],fun i j hi hj=> ?_⟩
 unfold m8 JJ
 rw [nM.oL _ g i 0 0 (by omega),nM.oL _ g j 0 0 (by omega),nM.oL _ L i 0 0 (by omega),nM.oL _ L j 0 0 (by omega),kH.arith,nM.wZ,h3 i j hi hj,h3 i a hi ha,h3 b j hb hj,h3 i b hi hb,h3 a j ha hj]
structure vr (w0:World) (cs:Array Value) (v:Value) (bn n:Nat) (W:World) (g:List Int):Prop where
 nb:W.heap[bn]? =some (.cells cs 26 (0,0))
 row:Kd.R (Kd.int .i64) 3 W w0.heap.size (fun k=>k≠bn) v g
 bel:Below w0.heap.size w0 W
 len:g.length=n
namespace vr
variable {w0:World} {cs:Array Value} {v:Value} {bn n:Nat} {W:World} {g:List Int}
theorem drewN (h:vr w0 cs v bn n W g) (m:Nat):vr w0 cs v bn n (W.drewN m) g:=⟨h.nb,Kd.av h.row m,ab h.bel m,h.len⟩
theorem drew (h:vr w0 cs v bn n W g):vr w0 cs v bn n W.drew g:=h.drewN 1
theorem mO (h:vr w0 cs v bn n W g):some bn≠v.ownBlock:=fun e=>h.row.1 bn e.symm rfl
theorem kept {W':World} {g':List Int} (h:vr w0 cs v bn n W g) (hk:Kept W W' (fun k=>some k=v.ownBlock)) (hr:Kd.R (Kd.int .i64) 3 W' w0.heap.size (fun k=>k≠bn) v g') (hb:Below w0.heap.size w0 W') (hl:g'.length=g.length):vr w0 cs v bn n W' g':=
 ⟨nr h.nb hk h.mO,hr,hb,hl.trans h.len⟩
theorem form (h:vr w0 cs v bn n W g) (hn:0<n):∃ gv cap,v= .slice (some ⟨gv,0,none⟩) n cap:=by
 obtain ⟨gv,cap,e,_⟩:=Kd.mP h.row (by rw [h.len];exact hn)
 exact ⟨gv,cap,by rw [e,h.len]⟩
theorem cell {gv cap:Nat} (h:vr w0 cs (.slice (some ⟨gv,0,none⟩) n cap) bn n W g) {i:Nat} (hi:i<n):W.cell? ⟨gv,i,none⟩=some (.int .i64 (g.getD i 0))∧W.frozen? ⟨gv,i,none⟩=false:=by
 have:=Kd.jq (0:Int) h.row (i:Int) (by omega) (by omega)
 rw [Int.toNat_natCast] at this
 simpa [uf] using this
theorem put {gv cap:Nat} (h:vr w0 cs (.slice (some ⟨gv,0,none⟩) n cap) bn n W g) {i:Nat} (hi:i<n) (x:Int):vr w0 cs (.slice (some ⟨gv,0,none⟩) n cap) bn n (W.setCell ⟨gv,i,none⟩ (.int .i64 x)) (g.set i x):=by
 have hr:=Kd.l6 h.row (i:Int) x
 rw [Int.toNat_natCast] at hr
 have hg:gv≠bn:=h.row.1 gv rfl
 have hge:w0.heap.size≤gv:=Kd.iZ h.row gv rfl
 exact ⟨cI h.nb (fun e=>hg e.symm) _,hr.1,ai h.bel hge,by simp [h.len]⟩
theorem start {w w1 W:World} {n:Nat} {cs:Array Value} {v:Value} (hnb:w1.heap[w.heap.size]? =some (.cells cs 26 (0,0))) (hB:Below w.heap.size w w1) (ho:Kd.R (Kd.int .i64) 3 W w1.heap.size (fun _=>True) v (List.replicate n 0)) (hb:Below w1.heap.size w1 W):vr w cs v w.heap.size n W (List.replicate n 0):=
 ⟨aH hnb hb,Kd.bN (Kd.eH (Kd.gS ho) (Nat.le_of_lt (cn hnb))) (fun k hk=>by have:=cn hnb;have:=hk.2.1;omega),aE hB hb,by simp⟩
theorem merge (h:vr w0 cs v bn n W g) (x:eu) (a b:Nat) (hx1:x.f1=(a:Int)) (oQ:x.f2=(b:Int)) (ha:a<n) (hb:b<n) (hn:n≤48) (S:World→Prop) (hS:∀ W',Kept W W' (fun k=>some k=v.ownBlock)→S W'):
  Calls Try.prog 86 #[v,.agg #[.int .i64 x.f0,.int .i64 x.f1,.int .i64 x.f2,.int .i64 x.f3,.int .i64 x.f4,.int .i64 x.f5]] W fun e w'=>∃ g',e= .returned (.bool (!decide (g.getD a 0=g.getD b 0)))∧S w'∧vr w0 cs v bn n w' g'∧g'=if g.getD a 0=g.getD b 0 then g else m8 g a b:=by
 obtain ⟨m,hm⟩:=(tw g x a b hx1 oQ (by rw [h.len];exact ha) (by rw [h.len];exact hb) (by rw [h.len];omega)).rounds
 have hm':cm.f m g x.f0 x.f1 x.f2 x.f3 x.f4 x.f5=some (!decide (g.getD a 0=g.getD b 0),if g.getD a 0=g.getD b 0 then g else m8 g a b):=by
  rw [hm]
  by_cases c:g.getD a 0=g.getD b 0
  ·rw [if_pos c,if_pos c,decide_eq_true c];rfl
  rw [if_neg c,if_neg c,decide_eq_false c];rfl
 refine (cm.calls m (fun k=>some k=v.ownBlock) v g _ _ _ _ _ _ _ _ w0 W h.bel (Kd.ng rfl h.row) hm').mono ?_
 rintro e w' ⟨rfl,a1,b1,c1⟩
 exact ⟨_,rfl,hS _ c1,h.kept c1 (Kd.qN rfl a1 h.row.1) b1 (by split<;>simp [m8]),rfl⟩
end vr
def q7.T:Bool × List (List Nat × List Nat):=(true,[([],[]),([],[]),([0,1],[0,1]),([2],[2]),([],[]),([4],[4]),([5],[5]),([6],[6]),([3,7],[3,7]),([8],[8]),([9,8],[9]),([10],[10]),([11,10],[10,11]),([12,10,10],[10,12]),([13],[13]),([13],[13]),([14,15,13],[13,14,15]),([16,13],[13,16]),([13],[13]),([13],[13]),([19,13],[13,19]),([18,20,13],[13,18,20]),([21,13],[13,21]),([17,22,13],[13,17,22]),([13,23,10],[10,13,23]),([10,24],[10,24]),([25,13],[25]),([26],[26]),([26],[26]),([28,26],[26,28]),([26],[26]),([26],[26]),([30,31,26],[26,30,31]),([32,26],[26,32]),([29,33,26],[26,29,33]),([34,26],[26,34]),([27,35,26,26],[26,27,35]),([36,26],[26,36]),([26,37],[26,37])])
def q7.B:List Nat:=[0,0,3,7,0,16,48,112,255,511,1023,2047,4095,8191,16383,16383,65535,131071,16383,16383,540671,1851391,3948543,8388607,16777215,33554431,67108863,134217727,134217727,402653183,134217727,134217727,3355443199,7650410495,17045651455,34225520639,68719476735,137438953471,274877906943]
theorem q7.tab:jX .any (opsOf Try.f52 12)=q7.T:=by kernel_rfl
theorem q7.bits:gU q7.T.2 q7.B=true:=by kernel_rfl
def gp.f (aI:Int) (aD:List (hO)) (au:List (eu)) (l1:List Int):Option (Bool):=some (gn aI aD.length au l1)
set_option maxHeartbeats 2000000 in
set_option maxRecDepth 100000 in
theorem gp.calls (aI:Int) (bh:Option Addr) (bi:Nat) (aD:List (hO)) (bu:Option Addr) (aW:Nat) (au:List (eu)) (A1:Option Addr) (c1:Nat) (l1:List Int) (r:Bool) (w:World) (eI:Kd.C oS w bh aD.length aD) (eS:aD.length≤bi) (eC:Kd.C nD w bu au.length au) (eT:au.length≤aW) (mh:Kd.C (Kd.int .i64) w A1 l1.length l1) (oA:l1.length≤c1) (h:gp.f aI aD au l1=some r):
  Calls Try.prog 52 #[.agg #[.int .i64 aI,.slice bh aD.length bi,.slice bu au.length aW],.slice A1 l1.length c1] w fun e w'=>e= .returned (.bool r)∧Below w.heap.size w w':=by
 obtain rfl:=Option.some.inj h
 clear h
 have nu:=Try.underlying26
 have sj:=Try.underlying36
 have sK:=aa.mk eI
 have nw:=aa.mk eC
 have lA:=aa.mk mh
 have sL:=aa.mk eS
 have sM:=aa.mk eT
 have m1:=Kd.jZ eI
 have m2:=Kd.jZ eC
 have m3:=Kd.jZ mh
 clear eI eC eS eT mh oA
 obtain ⟨kc,hkc⟩:=(tG aI aD au).rounds
 have HKC:=aa.mk hkc
 clear hkc
 cases hok:fD aI aD.length au with
 |false=>
  have hres:gn aI aD.length au l1=false:=by simp [gn,hok]
  have HRES:=aa.mk hres
  rw [hok] at HKC
  clear hres hok
  go_enter Try.func52,Try.ntmps52
  go_wp2_with (go_at_call 85;refine (aQ.calls kc aI bh bi aD bu aW au false _ ?h1 sL.out ?h2 sM.out HKC.out).mono ?_;(case h1=>exact Kd.aT sK.out _);(case h2=>exact Kd.aT nw.out _);rintro e w' ⟨rfl,hb⟩)
  go_ret
  rw [HRES.out]
  exact ⟨rfl,aE (ae (Below.refl _ _) _) hb⟩
 |true=>
  rw [hok] at HKC
  have HOK:=aa.mk hok
  have hn:aD.length≤48:=by simp [fD] at hok;omega
  have ha:au.length≤512:=by simp [fD] at hok;omega
  clear hok
  go_enter Try.func52,Try.ntmps52
  go_wp2_with (first|(go_at_call 85;refine (aQ.calls kc aI bh bi aD bu aW au true _ ?h1 sL.out ?h2 sM.out HKC.out).mono ?_;(case h1=>exact Kd.aT sK.out _);(case h2=>exact Kd.aT nw.out _);rintro e w1 ⟨rfl,hb⟩;have hnb:=aH (gC w (.cells #[.int .i64 aI,.slice bh aD.length bi,.slice bu au.length aW] 26)) hb;have q0:=(ag hnb 0).trans rfl;have q1:=(ag hnb 1).trans rfl;have q2:=(ag hnb 2).trans rfl;have HNB:=aa.mk hnb;have ux:=aa.mk (aE (ae (Below.refl _ _) _) hb);clear hb hnb)|((with_reducible refine bF (N:=15) rfl ?_);refine Kd.p8 (Kd.int .i64) w1.heap.size 3 rfl (N:=15) rfl 22 _ _ rfl (aD.length:Int) rfl rfl Try.underlying22 (.int .i64 0) 8 info3 rfl (by decide) (by omega) 0 (ok:=fun _=>True) (okp:=fun _=>True) rfl (fun _ hk=>hk) trivial (by omega) (by omega) (Below.refl _ _) (Nat.le_refl _) ?_;intro v W ho hb hg hnew;clear hg hnew;rw [Int.toNat_natCast] at ho;obtain ⟨Av,cv,ev⟩:=Kd.cA ho;rw [List.length_replicate] at ev;subst ev;have Hm:=aa.mk (vr.start HNB.out ux.out ho hb);clear ho hb ux HNB q0 q1 q2))
  go_loopw [18] (fun JK W=>∃ (i:Nat) (g:List Int),i≤aD.length∧JK= .int .i64 i∧aa (vr w #[.int .i64 aI,.slice bh aD.length bi,.slice bu au.length aW] (.slice Av aD.length cv) w.heap.size aD.length W g)∧aa (∀ j,j<i→g.getD j 0=(j:Int))) (fun JK _=>aD.length - (intOf JK).toNat)
  case atStart=>exact ⟨0,_,Nat.zero_le _,rfl,Hm,⟨fun j hj=>absurd hj (Nat.not_lt_zero _)⟩⟩
  case round=>
   obtain ⟨i,g,hi,rfl,HF,HG⟩:=hrel
   clear Hm
   by_cases hlt:i<aD.length
   ·obtain ⟨gv,cap,ev⟩:=HF.out.form (by omega)
    injection ev with e1 _ e3
    subst e1 e3
    obtain ⟨qa,qa'⟩:=HF.out.cell hlt
    have Pc:=aa.mk (HF.out.put hlt (i:Int))
    have HL:=aa.mk HF.out.len
    clear HF
    go_wp2
    go_roundw
    case rel=>exact ⟨i+1,g.set i i,by omega,by go_num,Pc,⟨fun j hj=>by
     by_cases e:i=j
     ·subst e;simp [List.getD_eq_getElem?_getD,show i<g.length by rw [HL.out];exact hlt]
     have:=HG.out j (by omega)
     rw [← this]
     simp only [List.getD_eq_getElem?_getD,List.getElem?_set_ne e]⟩⟩
    case measure=>simp [intOf];omega
   have HS:=aa.mk (xe.start aD.length g HF.out.len (fun j hj=>HG.out j (by omega)))
   obtain rfl:i=aD.length:=by omega
   clear HG hi hlt
   obtain ⟨wo,ewo⟩:∃ wo:World,wo=wr:=⟨_,rfl⟩
   subst ewo
   go_wp2
   go_loopw [7] (fun v7 W=>∃ (i:Nat) (last:Int) (g:List Int) (L:List Nat),i≤l1.length∧v7= .int .i64 i∧-1≤last∧(0<i→last=rd l1 ((i:Int) - 1))∧(i=0→last= -1)∧aa (vr w #[.int .i64 aI,.slice bh aD.length bi,.slice bu au.length aW] (.slice Av aD.length cv) w.heap.size aD.length W g)∧aa (xe aD.length g L)∧aa (gP au l1 (-1) (List.range aD.length)=gP au (l1.drop i) last L)) (fun v7 _=>l1.length - (intOf v7).toNat)
   case atStart=>exact ⟨0,-1,g,_,Nat.zero_le _,rfl,Int.le_refl _,fun h=>absurd h (Nat.lt_irrefl _),fun _=>rfl,HF,HS,⟨rfl⟩⟩
   case round=>
    clear HF HS
    obtain ⟨i,last,g,L,hi,rfl,hlast,hprev,H6,HF,HS,HE⟩:=hrel
    have HPV:=aa.mk hprev
    have KD:=aa.mk H6
    clear hprev H6
    have q2:wr.cell? ⟨w.heap.size,2,none⟩=some (.slice bu au.length aW):=(ag HF.out.nb 2).trans rfl
    by_cases hlt:i<l1.length
    ·have hdrop:l1.drop i=rd l1 i :: l1.drop (i+1):=by
      rw [List.drop_eq_getElem_cons hlt];simp [rd,List.getD_eq_getElem?_getD,hlt]
     obtain ⟨qg,e1,hx1⟩:=Kd.dN (Kd.aN lA.out HF.out.bel) (i:Int) (by omega) (by omega)
     cases e1
     rw [Int.toNat_natCast] at hx1
     have HD:=aa.mk hdrop
     clear hdrop
     generalize hx:rd l1 i=x at hx1 HD
     have HX:=aa.mk hx
     clear hx
     have ZA:IntKind.i64.wrap ((au.length:Int) - 1)=(au.length:Int) - 1:=IntWalk.i64_in _ (by omega)
     by_cases h1:0≤x∧x≤(au.length:Int) - 1
     ·have hb:(decide (0≤x)&&decide (x≤(au.length:Int) - 1))=true:=by simp;omega
      have HIN:aa (∀ W,Calls Try.prog 110 #[.int .i64 x,.int .i64 0,.int .i64 ((au.length:Int) - 1)] W fun e w'=>e= .returned (.bool true)∧∃ m,w'=W.drewN m):=⟨fun W=>hb ▸ NP _ _ _ W⟩
      clear hb
      by_cases h2:x≤last
      ·have ND:0<i:=by
        rcases Nat.eq_zero_or_pos i with h|h
        ·exact absurd (KD.out h) (by omega)
        exact h
       obtain ⟨DQ,e2,oQ⟩:=Kd.dN (Kd.aN lA.out HF.out.bel) ((i:Int) - 1) (by omega) (by omega)
       injection e2 with e2
       subst e2
       rw [← HPV.out ND,show ((i:Int) - 1).toNat=i - 1 by omega] at oQ
       have hres:gn aI aD.length au l1=false:=by
        unfold gn
        rw [HE.out,HD.out]
        simp only [gP]
        rw [if_pos (by omega)]
        simp
       have HRES:=aa.mk hres
       have O8:IntKind.i64.wrap ((i:Int) - 1)=(i:Int) - 1:=IntWalk.i64_in _ (by omega)
       have hd1:decide ((0:Int)<(i:Int))=true:=decide_eq_true (by omega)
       have hd2:decide (x≤last)=true:=decide_eq_true h2
       have hd3:(1:Int)≤(i:Int):=by omega
       have Zj:(i:Int) - 1<(l1.length:Int):=by omega
       clear hres HPV KD
       go_wp2_with fail
       go_quiet ((go_at_call 110;exact Calls.quiet_of (HIN.out _)))
       go_wp2
       go_ret
       rw [HRES.out]
       exact ⟨rfl,ab HF.out.bel _⟩
      have hmem:au.getD x.toNat jW ∈ au:=oG (by omega)
      obtain ⟨⟨n1,n2⟩,n3,n4⟩:=l8 HOK.out hmem
      obtain ⟨ad,e,g0,g1,g2,g3,g4,g5⟩:=i9 (Kd.aN nw.out HF.out.bel) x h1.1 (by omega)
      cases e
      have hadl:ad.block<w.heap.size:=Kd.Jf nw.out (by omega) (by decide)
      have NQ:qg.block<w.heap.size:=Kd.Jf lA.out (by omega) (by decide)
      obtain ⟨DQ,e2,oQ⟩:=Kd.dN (Kd.aN lA.out HF.out.bel) ((i - 1:Nat):Int) (by omega) (by omega)
      injection e2 with e2
      subst e2
      rw [Int.toNat_natCast] at oQ
      generalize hpw:rd l1 ((i - 1:Nat):Int)=pv at oQ
      have HPW:=aa.mk hpw
      clear hpw
      have hrd:au.getD x.toNat jW=aC au x:=rfl
      rw [hrd] at n1 n2 n3 n4
      have HRD:=aa.mk hrd
      clear hmem hrd
      generalize aC au x=a at*
      generalize hA:a.f1.toNat=na at n2
      generalize hB:a.f2.toNat=nb at n4
      have hob:∀ k,some k=(Value.slice Av aD.length cv).ownBlock→w.heap.size≤k:=fun k hk=>Kd.iZ HF.out.row k hk.symm
      have HOB:=aa.mk hob
      clear hob
      have HOC:=aa.mk HF.out.mO
      have hme:∀ W,(W.cell? ⟨w.heap.size,2,none⟩=some (.slice (some ad) au.length aW)∧W.cell? (qg.add i)=some (.int .i64 x)∧W.cell? (qg.add (i - 1))=some (.int .i64 pv)∧W.cell? (ad.add (x.toNat*6))=some (.int .i64 a.f0)∧W.cell? ⟨(ad.add (x.toNat*6)).block,(ad.add (x.toNat*6)).off+1,none⟩=some (.int .i64 a.f1)∧W.cell? ⟨(ad.add (x.toNat*6)).block,(ad.add (x.toNat*6)).off+2,none⟩=some (.int .i64 a.f2)∧W.cell? ⟨(ad.add (x.toNat*6)).block,(ad.add (x.toNat*6)).off+3,none⟩=some (.int .i64 a.f3)∧W.cell? ⟨(ad.add (x.toNat*6)).block,(ad.add (x.toNat*6)).off+4,none⟩=some (.int .i64 a.f4)∧W.cell? ⟨(ad.add (x.toNat*6)).block,(ad.add (x.toNat*6)).off+5,none⟩=some (.int .i64 a.f5))→vr w #[.int .i64 aI,.slice bh aD.length bi,.slice (some ad) au.length aW] (.slice Av aD.length cv) w.heap.size aD.length W g→
        Calls Try.prog 86 #[.slice Av aD.length cv,.agg #[.int .i64 a.f0,.int .i64 a.f1,.int .i64 a.f2,.int .i64 a.f3,.int .i64 a.f4,.int .i64 a.f5]] W fun e W=>∃ g',e= .returned (.bool (!decide (g.getD na 0=g.getD nb 0)))∧(W.cell? ⟨w.heap.size,2,none⟩=some (.slice (some ad) au.length aW)∧W.cell? (qg.add i)=some (.int .i64 x)∧W.cell? (qg.add (i - 1))=some (.int .i64 pv)∧W.cell? (ad.add (x.toNat*6))=some (.int .i64 a.f0)∧W.cell? ⟨(ad.add (x.toNat*6)).block,(ad.add (x.toNat*6)).off+1,none⟩=some (.int .i64 a.f1)∧W.cell? ⟨(ad.add (x.toNat*6)).block,(ad.add (x.toNat*6)).off+2,none⟩=some (.int .i64 a.f2)∧W.cell? ⟨(ad.add (x.toNat*6)).block,(ad.add (x.toNat*6)).off+3,none⟩=some (.int .i64 a.f3)∧W.cell? ⟨(ad.add (x.toNat*6)).block,(ad.add (x.toNat*6)).off+4,none⟩=some (.int .i64 a.f4)∧W.cell? ⟨(ad.add (x.toNat*6)).block,(ad.add (x.toNat*6)).off+5,none⟩=some (.int .i64 a.f5))∧vr w #[.int .i64 aI,.slice bh aD.length bi,.slice (some ad) au.length aW] (.slice Av aD.length cv) w.heap.size aD.length W g'∧g'=if g.getD na 0=g.getD nb 0 then g else m8 g na nb:=
       fun W ⟨s0,s1,s2,s3,s4,s5,s6,s7,s8⟩ hf=>hf.merge a na nb (by omega) (by omega) n2 n4 hn _ (fun W' hk=>by
        have o1:∀ m,¬some (qg.add m).block=(Value.slice Av aD.length cv).ownBlock:=fun m h=>by have:=HOB.out _ h;rw [kB] at this;omega
        have o2:∀ m,¬some (ad.add m).block=(Value.slice Av aD.length cv).ownBlock:=fun m h=>by have:=HOB.out _ h;rw [kB] at this;omega
        exact ⟨gZ hk s0 HOC.out,gZ hk s1 (o1 _),gZ hk s2 (o1 _),gZ hk s3 (o2 _),gZ hk s4 (o2 _),gZ hk s5 (o2 _),gZ hk s6 (o2 _),gZ hk s7 (o2 _),gZ hk s8 (o2 _)⟩)
      generalize hbv:(!decide (g.getD na 0=g.getD nb 0))=bv at hme
      have HBV:=aa.mk hbv
      have HME:=aa.mk hme
      clear hme hbv HOB HOC
      have hgo:gP au (x :: l1.drop (i+1)) last L=if g.getD na 0=g.getD nb 0 then none else gP au (l1.drop (i+1)) x (JJ L na nb):=by
       simp only [gP]
       rw [if_neg (by omega)]
       have e1:(au.getD x.toNat jW).f1.toNat=na:=by rw [HRD.out];exact hA
       have e2:(au.getD x.toNat jW).f2.toNat=nb:=by rw [HRD.out];exact hB
       rw [e1,e2]
       by_cases c:g.getD na 0=g.getD nb 0
       ·rw [if_pos c,if_pos ((HS.out.2.2 na nb n2 n4).1 c)]
       rw [if_neg c,if_neg (fun h=>c ((HS.out.2.2 na nb n2 n4).2 h))]
      have HGO:=aa.mk hgo
      have hpi:i=0∨(0<i∧pv=last):=by
       rcases Nat.eq_zero_or_pos i with h|h
       ·exact .inl h
       refine .inr ⟨h, ?_⟩
       rw [← HPW.out,HPV.out h,show ((i - 1:Nat):Int)=(i:Int) - 1 by omega]
      clear hgo hA hB HPV KD HRD n1 n3 hadl NQ HPW
      have hx0:0≤x:=h1.1
      have hx9:x<(au.length:Int):=by omega
      clear h1
      have O8:IntKind.i64.wrap ((i:Int) - 1)=(i:Int) - 1:=IntWalk.i64_in _ (by omega)
      rcases hpi with ND|⟨ND,rfl⟩
      ·subst ND
       clear O8
       go_wp2_with fail
       refine ju (n:=39) (S:=fun w'=>w'.cell? ⟨w.heap.size,2,none⟩=some (.slice (some ad) au.length aW)∧w'.cell? qg=some (.int .i64 x)∧w'.cell? (ad.add (x.toNat*6))=some (.int .i64 a.f0)∧w'.cell? ⟨(ad.add (x.toNat*6)).block,(ad.add (x.toNat*6)).off+1,none⟩=some (.int .i64 a.f1)∧w'.cell? ⟨(ad.add (x.toNat*6)).block,(ad.add (x.toNat*6)).off+2,none⟩=some (.int .i64 a.f2)∧w'.cell? ⟨(ad.add (x.toNat*6)).block,(ad.add (x.toNat*6)).off+3,none⟩=some (.int .i64 a.f3)∧w'.cell? ⟨(ad.add (x.toNat*6)).block,(ad.add (x.toNat*6)).off+4,none⟩=some (.int .i64 a.f4)∧w'.cell? ⟨(ad.add (x.toNat*6)).block,(ad.add (x.toNat*6)).off+5,none⟩=some (.int .i64 a.f5)) (ds:=[36]) #[false,false,false,false,false,false,false,false,false,false,false,false,false,false,false,false,false,false,false,false,false,false,false,false,false,false,false,false,false,false,false,false,false,false,false,false,false,false,false] (by kernel_rfl) rfl rfl ⟨q2,hx1,g0,g1,g2,g3,g4,g5⟩ (fun hHeld=> ?_);refine fN q7.tab q7.bits (fun HT_ HW_=> ?_)
       refine bP (i:=0) (N:=some 32) (v:= ?_) (a':= ?_) #[true,false,false,false,false,false,false,false,false,false,false,false,false,false,false,false,false,false,false,false,false,false,false,false,false,false,false,false,false,false,false,false,false,false,false,false,false,false,false] rfl rfl (bz HT_.out (by kernel_rfl)) (fun _ _ _ h=>h) (Or.inl ⟨by rfl, ?_⟩) ?_ ?_;rotate_left;intro w';go_simp;with_reducible rfl;rotate_left;simp only [Act.put,dg,dh,di,aY,a9];rfl
       refine bP (i:=1) (N:=some 33) (v:= ?_) (a':= ?_) #[true,true,false,false,false,false,false,false,false,false,false,false,false,false,false,false,false,false,false,false,false,false,false,false,false,false,false,false,false,false,false,false,false,false,false,false,false,false,false] rfl rfl (bz HT_.out (by kernel_rfl)) (fun _ _ _ h=>h) (Or.inl ⟨by rfl, ?_⟩) ?_ ?_;rotate_left;intro w';go_simp;with_reducible rfl;rotate_left;simp only [Act.put,dg,dh,di,aY,a9];rfl
       refine bP (i:=2) (N:=some 34) (v:= ?_) (a':= ?_) #[true,true,true,false,false,false,false,false,false,false,false,false,false,false,false,false,false,false,false,false,false,false,false,false,false,false,false,false,false,false,false,false,false,false,false,false,false,false,false] rfl rfl (bz HT_.out (by kernel_rfl)) (fun _ _ _ h=>h) (Or.inl ⟨by rfl, ?_⟩) ?_ ?_;rotate_left;intro w';go_simp;with_reducible rfl;rotate_left;simp only [Act.put,dg,dh,di,aY,a9];rfl
       refine bP (i:=4) (N:=some 36) (v:= ?_) (a':= ?_) #[true,true,true,false,true,false,false,false,false,false,false,false,false,false,false,false,false,false,false,false,false,false,false,false,false,false,false,false,false,false,false,false,false,false,false,false,false,false,false] rfl rfl (bz HT_.out (by kernel_rfl)) (fun _ _ _ h=>h) (Or.inl ⟨by rfl, ?_⟩) ?_ ?_;rotate_left;intro w';go_simp;with_reducible rfl;rotate_left;simp only [Act.put,dg,dh,di,aY,a9];rfl
       refine eL (i:=3) (N:=some 35) (v:= ?_) (a':= ?_) #[true,true,true,true,true,false,false,false,false,false,false,false,false,false,false,false,false,false,false,false,false,false,false,false,false,false,false,false,false,false,false,false,false,false,false,false,false,false,false] rfl rfl (cO HT_.out HW_.out (by kernel_rfl)) (fun _ _ _ h=>h) (Or.inl ⟨by rfl, ?_⟩) hHeld ?_ ?_;rotate_left;rintro w' ⟨s0,s1,s2,s3,s4,s5,s6,s7⟩;go_simp;with_reducible rfl;rotate_left;simp only [Act.put,dg,dh,di,aY,a9];rfl
       refine eL (i:=5) (N:=some 37) (v:= ?_) (a':= ?_) #[true,true,true,true,true,true,false,false,false,false,false,false,false,false,false,false,false,false,false,false,false,false,false,false,false,false,false,false,false,false,false,false,false,false,false,false,false,false,false] rfl rfl (cO HT_.out HW_.out (by kernel_rfl)) (fun _ _ _ h=>h) (Or.inl ⟨by rfl, ?_⟩) hHeld ?_ ?_;rotate_left;rintro w' ⟨s0,s1,s2,s3,s4,s5,s6,s7⟩;go_simp;with_reducible rfl;rotate_left;simp only [Act.put,dg,dh,di,aY,a9];rfl
       refine bP (i:=6) (N:=some 38) (v:= ?_) (a':= ?_) #[true,true,true,true,true,true,true,false,false,false,false,false,false,false,false,false,false,false,false,false,false,false,false,false,false,false,false,false,false,false,false,false,false,false,false,false,false,false,false] rfl rfl (bz HT_.out (by kernel_rfl)) (fun _ _ _ h=>h) (Or.inl ⟨by rfl, ?_⟩) ?_ ?_;rotate_left;intro w';go_simp;with_reducible rfl;rotate_left;simp only [Act.put,dg,dh,di,aY,a9];rfl
       refine bP (i:=7) (N:=some 39) (v:= ?_) (a':= ?_) #[true,true,true,true,true,true,true,true,false,false,false,false,false,false,false,false,false,false,false,false,false,false,false,false,false,false,false,false,false,false,false,false,false,false,false,false,false,false,false] rfl rfl (bz HT_.out (by kernel_rfl)) (fun _ _ _ h=>h) (Or.inl ⟨by rfl, ?_⟩) ?_ ?_;rotate_left;intro w';go_simp;with_reducible rfl;rotate_left;simp only [Act.put,dg,dh,di,aY,a9];rfl
       refine iP (i:=8) (N:=some 40) #[true,true,true,true,true,true,true,true,true,false,false,false,false,false,false,false,false,false,false,false,false,false,false,false,false,false,false,false,false,false,false,false,false,false,false,false,false,false,false] rfl rfl (dZ HT_.out (by kernel_rfl)) (by decide) (fun K hK=> ?_)
       refine mA Try.func110 (by kernel_rfl) rfl #[.int .i64 x,.int .i64 0,.int .i64 ((au.length:Int) - 1)] (by rfl) rfl rfl (by (try simp only [List.map_toArray,List.map_cons,List.map_nil]);first|done|rfl) ?_
       refine (HIN.out _).mono ?_;rintro e w2 ⟨rfl,⟨nd,rfl⟩⟩
       refine ⟨_,rfl, ?_⟩
       refine hK.out _ _ ⟨q2,hx1,g0,g1,g2,g3,g4,g5⟩ (fun hHeld=> ?_)
       clear hK K
       refine eM (a':= ?_) ?_ ?_;rotate_left;show Act.put _ (some 40) _=_;simp only [Act.put,dg,dh,di,aY,a9];rfl
       refine bP (i:=9) (N:=some 41) (v:= ?_) (a':= ?_) #[true,true,true,true,true,true,true,true,true,true,false,false,false,false,false,false,false,false,false,false,false,false,false,false,false,false,false,false,false,false,false,false,false,false,false,false,false,false,false] rfl rfl (bz HT_.out (by kernel_rfl)) (fun _ _ _ h=>h) (Or.inl ⟨by rfl, ?_⟩) ?_ ?_;rotate_left;intro w';go_simp;with_reducible rfl;rotate_left;simp only [Act.put,dg,dh,di,aY,a9];rfl
       refine bP (i:=10) (N:=some 42) (v:= ?_) (a':= ?_) #[true,true,true,true,true,true,true,true,true,true,true,false,false,false,false,false,false,false,false,false,false,false,false,false,false,false,false,false,false,false,false,false,false,false,false,false,false,false,false] rfl rfl (bz HT_.out (by kernel_rfl)) (fun _ _ _ h=>h) (Or.inl ⟨by rfl, ?_⟩) ?_ ?_;rotate_left;intro w';go_simp;with_reducible rfl;rotate_left;simp only [Act.put,dg,dh,di,aY,a9];rfl
       refine bP (i:=11) (N:=some 43) (v:= ?_) (a':= ?_) #[true,true,true,true,true,true,true,true,true,true,true,true,false,false,false,false,false,false,false,false,false,false,false,false,false,false,false,false,false,false,false,false,false,false,false,false,false,false,false] rfl rfl (bz HT_.out (by kernel_rfl)) (fun _ _ _ h=>h) (Or.inl ⟨by rfl, ?_⟩) ?_ ?_;rotate_left;intro w';go_simp;with_reducible rfl;rotate_left;simp only [Act.put,dg,dh,di,aY,a9];rfl
       refine bP (i:=12) (N:=some 44) (v:= ?_) (a':= ?_) #[true,true,true,true,true,true,true,true,true,true,true,true,true,false,false,false,false,false,false,false,false,false,false,false,false,false,false,false,false,false,false,false,false,false,false,false,false,false,false] rfl rfl (bz HT_.out (by kernel_rfl)) (fun _ _ _ h=>h) (Or.inl ⟨by rfl, ?_⟩) ?_ ?_;rotate_left;intro w';go_simp;with_reducible rfl;rotate_left;simp only [Act.put,dg,dh,di,aY,a9];rfl
       refine bP (i:=13) (N:=some 45) (v:= ?_) (a':= ?_) #[true,true,true,true,true,true,true,true,true,true,true,true,true,true,false,false,false,false,false,false,false,false,false,false,false,false,false,false,false,false,false,false,false,false,false,false,false,false,false] rfl rfl (bz HT_.out (by kernel_rfl)) (fun _ _ _ h=>h) (Or.inl ⟨by rfl, ?_⟩) ?_ ?_;rotate_left;intro w';go_simp;with_reducible rfl;rotate_left;simp only [Act.put,dg,dh,di,aY,a9];rfl
       refine bP (i:=14) (N:=some 46) (v:=undef) (a':= ?_) #[true,true,true,true,true,true,true,true,true,true,true,true,true,true,true,false,false,false,false,false,false,false,false,false,false,false,false,false,false,false,false,false,false,false,false,false,false,false,false] rfl rfl (bz HT_.out (by kernel_rfl)) (fun _ _ _ h=>h) (Or.inr ⟨by rfl,rfl⟩) ?_ ?_;rotate_left;simp only [Act.put,dg,dh,di,aY,a9];rfl
       refine bP (i:=15) (N:=some 47) (v:=undef) (a':= ?_) #[true,true,true,true,true,true,true,true,true,true,true,true,true,true,true,true,false,false,false,false,false,false,false,false,false,false,false,false,false,false,false,false,false,false,false,false,false,false,false] rfl rfl (bz HT_.out (by kernel_rfl)) (fun _ _ _ h=>h) (Or.inr ⟨by rfl,rfl⟩) ?_ ?_;rotate_left;simp only [Act.put,dg,dh,di,aY,a9];rfl
       refine bP (i:=16) (N:=some 48) (v:=undef) (a':= ?_) #[true,true,true,true,true,true,true,true,true,true,true,true,true,true,true,true,true,false,false,false,false,false,false,false,false,false,false,false,false,false,false,false,false,false,false,false,false,false,false] rfl rfl (bz HT_.out (by kernel_rfl)) (fun _ _ _ h=>h) (Or.inr ⟨by rfl,rfl⟩) ?_ ?_;rotate_left;simp only [Act.put,dg,dh,di,aY,a9];rfl
       refine bP (i:=17) (N:=some 49) (v:=undef) (a':= ?_) #[true,true,true,true,true,true,true,true,true,true,true,true,true,true,true,true,true,true,false,false,false,false,false,false,false,false,false,false,false,false,false,false,false,false,false,false,false,false,false] rfl rfl (bz HT_.out (by kernel_rfl)) (fun _ _ _ h=>h) (Or.inr ⟨by rfl,rfl⟩) ?_ ?_;rotate_left;simp only [Act.put,dg,dh,di,aY,a9];rfl
       refine bP (i:=18) (N:=some 50) (v:=undef) (a':= ?_) #[true,true,true,true,true,true,true,true,true,true,true,true,true,true,true,true,true,true,true,false,false,false,false,false,false,false,false,false,false,false,false,false,false,false,false,false,false,false,false] rfl rfl (bz HT_.out (by kernel_rfl)) (fun _ _ _ h=>h) (Or.inr ⟨by rfl,rfl⟩) ?_ ?_;rotate_left;simp only [Act.put,dg,dh,di,aY,a9];rfl
       refine bP (i:=19) (N:=some 51) (v:=undef) (a':= ?_) #[true,true,true,true,true,true,true,true,true,true,true,true,true,true,true,true,true,true,true,true,false,false,false,false,false,false,false,false,false,false,false,false,false,false,false,false,false,false,false] rfl rfl (bz HT_.out (by kernel_rfl)) (fun _ _ _ h=>h) (Or.inr ⟨by rfl,rfl⟩) ?_ ?_;rotate_left;simp only [Act.put,dg,dh,di,aY,a9];rfl
       refine bP (i:=20) (N:=some 52) (v:=undef) (a':= ?_) #[true,true,true,true,true,true,true,true,true,true,true,true,true,true,true,true,true,true,true,true,true,false,false,false,false,false,false,false,false,false,false,false,false,false,false,false,false,false,false] rfl rfl (bz HT_.out (by kernel_rfl)) (fun _ _ _ h=>h) (Or.inr ⟨by rfl,rfl⟩) ?_ ?_;rotate_left;simp only [Act.put,dg,dh,di,aY,a9];rfl
       refine bP (i:=21) (N:=some 53) (v:=undef) (a':= ?_) #[true,true,true,true,true,true,true,true,true,true,true,true,true,true,true,true,true,true,true,true,true,true,false,false,false,false,false,false,false,false,false,false,false,false,false,false,false,false,false] rfl rfl (bz HT_.out (by kernel_rfl)) (fun _ _ _ h=>h) (Or.inr ⟨by rfl,rfl⟩) ?_ ?_;rotate_left;simp only [Act.put,dg,dh,di,aY,a9];rfl
       refine bP (i:=22) (N:=some 54) (v:=undef) (a':= ?_) #[true,true,true,true,true,true,true,true,true,true,true,true,true,true,true,true,true,true,true,true,true,true,true,false,false,false,false,false,false,false,false,false,false,false,false,false,false,false,false] rfl rfl (bz HT_.out (by kernel_rfl)) (fun _ _ _ h=>h) (Or.inr ⟨by rfl,rfl⟩) ?_ ?_;rotate_left;simp only [Act.put,dg,dh,di,aY,a9];rfl
       refine bP (i:=23) (N:=some 55) (v:=undef) (a':= ?_) #[true,true,true,true,true,true,true,true,true,true,true,true,true,true,true,true,true,true,true,true,true,true,true,true,false,false,false,false,false,false,false,false,false,false,false,false,false,false,false] rfl rfl (bz HT_.out (by kernel_rfl)) (fun _ _ _ h=>h) (Or.inr ⟨by rfl,rfl⟩) ?_ ?_;rotate_left;simp only [Act.put,dg,dh,di,aY,a9];rfl
       refine bP (i:=24) (N:=some 56) (v:= ?_) (a':= ?_) #[true,true,true,true,true,true,true,true,true,true,true,true,true,true,true,true,true,true,true,true,true,true,true,true,true,false,false,false,false,false,false,false,false,false,false,false,false,false,false] rfl rfl (bz HT_.out (by kernel_rfl)) (fun _ _ _ h=>h) (Or.inl ⟨by rfl, ?_⟩) ?_ ?_;rotate_left;intro w';go_simp;with_reducible rfl;rotate_left;simp only [Act.put,dg,dh,di,aY,a9];rfl
       refine bP (i:=25) (N:=some 57) (v:= ?_) (a':= ?_) #[true,true,true,true,true,true,true,true,true,true,true,true,true,true,true,true,true,true,true,true,true,true,true,true,true,true,false,false,false,false,false,false,false,false,false,false,false,false,false] rfl rfl (bz HT_.out (by kernel_rfl)) (fun _ _ _ h=>h) (Or.inl ⟨by rfl, ?_⟩) ?_ ?_;rotate_left;intro w';go_simp;with_reducible rfl;rotate_left;simp only [Act.put,dg,dh,di,aY,a9];rfl
       refine bP (i:=26) (N:=some 58) (v:= ?_) (a':= ?_) #[true,true,true,true,true,true,true,true,true,true,true,true,true,true,true,true,true,true,true,true,true,true,true,true,true,true,true,false,false,false,false,false,false,false,false,false,false,false,false] rfl rfl (bz HT_.out (by kernel_rfl)) (fun _ _ _ h=>h) (Or.inl ⟨by rfl, ?_⟩) ?_ ?_;rotate_left;intro w';go_simp;with_reducible rfl;rotate_left;simp only [Act.put,dg,dh,di,aY,a9];rfl
       refine bP (i:=27) (N:=some 59) (v:= ?_) (a':= ?_) #[true,true,true,true,true,true,true,true,true,true,true,true,true,true,true,true,true,true,true,true,true,true,true,true,true,true,true,true,false,false,false,false,false,false,false,false,false,false,false] rfl rfl (bz HT_.out (by kernel_rfl)) (fun _ _ _ h=>h) (Or.inl ⟨by rfl, ?_⟩) ?_ ?_;rotate_left;intro w';go_simp;with_reducible rfl;rotate_left;simp only [Act.put,dg,dh,di,aY,a9];rfl
       refine bP (i:=28) (N:=some 60) (v:= ?_) (a':= ?_) #[true,true,true,true,true,true,true,true,true,true,true,true,true,true,true,true,true,true,true,true,true,true,true,true,true,true,true,true,true,false,false,false,false,false,false,false,false,false,false] rfl rfl (bz HT_.out (by kernel_rfl)) (fun _ _ _ h=>h) (Or.inl ⟨by rfl, ?_⟩) ?_ ?_;rotate_left;intro w';go_simp;with_reducible rfl;rotate_left;simp only [Act.put,dg,dh,di,aY,a9];rfl
       refine bP (i:=30) (N:=some 62) (v:= ?_) (a':= ?_) #[true,true,true,true,true,true,true,true,true,true,true,true,true,true,true,true,true,true,true,true,true,true,true,true,true,true,true,true,true,false,true,false,false,false,false,false,false,false,false] rfl rfl (bz HT_.out (by kernel_rfl)) (fun _ _ _ h=>h) (Or.inl ⟨by rfl, ?_⟩) ?_ ?_;rotate_left;intro w';go_simp;with_reducible rfl;rotate_left;simp only [Act.put,dg,dh,di,aY,a9];rfl
       refine bP (i:=31) (N:=some 63) (v:= ?_) (a':= ?_) #[true,true,true,true,true,true,true,true,true,true,true,true,true,true,true,true,true,true,true,true,true,true,true,true,true,true,true,true,true,false,true,true,false,false,false,false,false,false,false] rfl rfl (bz HT_.out (by kernel_rfl)) (fun _ _ _ h=>h) (Or.inl ⟨by rfl, ?_⟩) ?_ ?_;rotate_left;intro w';go_simp;with_reducible rfl;rotate_left;simp only [Act.put,dg,dh,di,aY,a9];rfl
       refine bP (i:=32) (N:=some 64) (v:= ?_) (a':= ?_) #[true,true,true,true,true,true,true,true,true,true,true,true,true,true,true,true,true,true,true,true,true,true,true,true,true,true,true,true,true,false,true,true,true,false,false,false,false,false,false] rfl rfl (bz HT_.out (by kernel_rfl)) (fun _ _ _ h=>h) (Or.inl ⟨by rfl, ?_⟩) ?_ ?_;rotate_left;intro w';go_simp;with_reducible rfl;rotate_left;simp only [Act.put,dg,dh,di,aY,a9];rfl
       refine eL (i:=29) (N:=some 61) (v:= ?_) (a':= ?_) #[true,true,true,true,true,true,true,true,true,true,true,true,true,true,true,true,true,true,true,true,true,true,true,true,true,true,true,true,true,true,true,true,true,false,false,false,false,false,false] rfl rfl (cO HT_.out HW_.out (by kernel_rfl)) (fun _ _ _ h=>h) (Or.inl ⟨by rfl, ?_⟩) hHeld ?_ ?_;rotate_left;rintro w' ⟨s0,s1,s2,s3,s4,s5,s6,s7⟩;go_simp;with_reducible rfl;rotate_left;simp only [Act.put,dg,dh,di,aY,a9];rfl
       refine eL (i:=33) (N:=some 65) (v:= ?_) (a':= ?_) #[true,true,true,true,true,true,true,true,true,true,true,true,true,true,true,true,true,true,true,true,true,true,true,true,true,true,true,true,true,true,true,true,true,true,false,false,false,false,false] rfl rfl (cO HT_.out HW_.out (by kernel_rfl)) (fun _ _ _ h=>h) (Or.inl ⟨by rfl, ?_⟩) hHeld ?_ ?_;rotate_left;rintro w' ⟨s0,s1,s2,s3,s4,s5,s6,s7⟩;go_simp;with_reducible rfl;rotate_left;simp only [Act.put,dg,dh,di,aY,a9];rfl
       refine bP (i:=34) (N:=some 66) (v:= ?_) (a':= ?_) #[true,true,true,true,true,true,true,true,true,true,true,true,true,true,true,true,true,true,true,true,true,true,true,true,true,true,true,true,true,true,true,true,true,true,true,false,false,false,false] rfl rfl (bz HT_.out (by kernel_rfl)) (fun _ _ _ h=>h) (Or.inl ⟨by rfl, ?_⟩) ?_ ?_;rotate_left;intro w';go_simp;with_reducible rfl;rotate_left;simp only [Act.put,dg,dh,di,aY,a9];rfl
       refine eL (i:=35) (N:=some 67) (v:= ?_) (a':= ?_) #[true,true,true,true,true,true,true,true,true,true,true,true,true,true,true,true,true,true,true,true,true,true,true,true,true,true,true,true,true,true,true,true,true,true,true,true,false,false,false] rfl rfl (cO HT_.out HW_.out (by kernel_rfl)) (fun _ _ _ h=>h) (Or.inl ⟨by rfl, ?_⟩) hHeld ?_ ?_;rotate_left;rintro w' ⟨s0,s1,s2,s3,s4,s5,s6,s7⟩;go_simp;with_reducible rfl;rotate_left;simp only [Act.put,dg,dh,di,aY,a9];rfl
       refine qz (i:=36) (N:=some 68) #[true,true,true,true,true,true,true,true,true,true,true,true,true,true,true,true,true,true,true,true,true,true,true,true,true,true,true,true,true,true,true,true,true,true,true,true,true,false,false] rfl rfl (dZ HT_.out (by kernel_rfl)) (by decide) (fun K hK=> ?_)
       refine mA Try.func86 (by kernel_rfl) rfl #[.slice Av aD.length cv,.agg #[.int .i64 a.f0,.int .i64 a.f1,.int .i64 a.f2,.int .i64 a.f3,.int .i64 a.f4,.int .i64 a.f5]] (by rfl) rfl rfl (by (try simp only [List.map_toArray,List.map_cons,List.map_nil]);first|done|rfl) ?_
       (with_reducible refine (HME.out _ ?hs ?hf).mono ?_);(case hs=>exact ⟨q2,hx1,oQ,g0,g1,g2,g3,g4,g5⟩);(case hf=>first|exact HF.out.drew.drewN _|exact HF.out.drewN _);rintro e w1 ⟨g',rfl,k0,H1,HL⟩
       refine ⟨_,rfl, ?_⟩
       refine hK.out _ _ ?_
       clear hK K
       refine eM (a':= ?_) ?_ ?_;rotate_left;show Act.put _ (some 68) _=_;simp only [Act.put,dg,dh,di,aY,a9];rfl
       refine bP (i:=37) (N:=some 69) (v:= ?_) (a':= ?_) #[true,true,true,true,true,true,true,true,true,true,true,true,true,true,true,true,true,true,true,true,true,true,true,true,true,true,true,true,true,true,true,true,true,true,true,true,true,true,false] rfl rfl (bz HT_.out (by kernel_rfl)) (fun _ _ _ h=>h) (Or.inl ⟨by rfl, ?_⟩) ?_ ?_;rotate_left;intro w';go_simp;with_reducible rfl;rotate_left;simp only [Act.put,dg,dh,di,aY,a9];rfl
       refine bP (i:=38) (N:=some 70) (v:= ?_) (a':= ?_) #[true,true,true,true,true,true,true,true,true,true,true,true,true,true,true,true,true,true,true,true,true,true,true,true,true,true,true,true,true,true,true,true,true,true,true,true,true,true,true] rfl rfl (bz HT_.out (by kernel_rfl)) (fun _ _ _ h=>h) (Or.inl ⟨by rfl, ?_⟩) ?_ ?_;rotate_left;intro w';go_simp;with_reducible rfl;rotate_left;simp only [Act.put,dg,dh,di,aY,a9];rfl
       refine j1 (gD HT_.out (by kernel_rfl)) ?_
       clear HME
       cases bv with
       |false=>
        have hres:gn aI aD.length au l1=false:=by
         have he:g.getD na 0=g.getD nb 0:=by have:=HBV.out;simpa [-List.getD_eq_getElem?_getD] using this
         unfold gn
         rw [HE.out,HD.out,HGO.out,if_pos he]
         simp
        have HRES:=aa.mk hres
        clear hres
        go_wp2
        go_ret
        rw [HRES.out]
        exact ⟨rfl,H1.bel⟩
       |true=>
        have he:¬g.getD na 0=g.getD nb 0:=by have:=HBV.out;simpa [-List.getD_eq_getElem?_getD] using this
        have HNE:=aa.mk he
        rw [if_neg he] at HL
        subst HL
        clear he
        go_wp2
        go_roundw
        case rel=>exact ⟨0+1,x,_,_,by omega,by go_num,by omega,fun _=>by rw [show (((0+1:Nat):Int) - 1)=((0:Nat):Int) by omega,HX.out],fun h=>absurd h (by omega),⟨H1⟩,⟨HS.out.merge n2 n4⟩,⟨by rw [HE.out,HD.out,HGO.out,if_neg HNE.out]⟩⟩
        case measure=>simp [intOf];omega
      have hd1:decide ((0:Int)<(i:Int))=true:=decide_eq_true (by omega)
      have hd2:decide (x≤pv)=false:=decide_eq_false h2
      have hd3:(1:Int)≤(i:Int):=by omega
      have Zj:(i:Int) - 1<(l1.length:Int):=by omega
      have hd5:((i:Int) - 1).toNat=i - 1:=by omega
      go_wp2_with fail
      go_region_held3 (fun W=>W.cell? ⟨w.heap.size,2,none⟩=some (.slice (some ad) au.length aW)∧W.cell? (qg.add i)=some (.int .i64 x)∧W.cell? (qg.add (i - 1))=some (.int .i64 pv)∧W.cell? (ad.add (x.toNat*6))=some (.int .i64 a.f0)∧W.cell? ⟨(ad.add (x.toNat*6)).block,(ad.add (x.toNat*6)).off+1,none⟩=some (.int .i64 a.f1)∧W.cell? ⟨(ad.add (x.toNat*6)).block,(ad.add (x.toNat*6)).off+2,none⟩=some (.int .i64 a.f2)∧W.cell? ⟨(ad.add (x.toNat*6)).block,(ad.add (x.toNat*6)).off+3,none⟩=some (.int .i64 a.f3)∧W.cell? ⟨(ad.add (x.toNat*6)).block,(ad.add (x.toNat*6)).off+4,none⟩=some (.int .i64 a.f4)∧W.cell? ⟨(ad.add (x.toNat*6)).block,(ad.add (x.toNat*6)).off+5,none⟩=some (.int .i64 a.f5))
       (first|exact ⟨q2,hx1,oQ,g0,g1,g2,g3,g4,g5⟩|exact k0|go_keep)
       ((first|(go_at_call 110;refine (HIN.out _).mono ?_;rintro e w' ⟨rfl,⟨nd,rfl⟩⟩)|(go_at_call 86;(with_reducible refine (HME.out _ ?hs ?hf).mono ?_);(case hs=>exact ⟨q2,hx1,oQ,g0,g1,g2,g3,g4,g5⟩);(case hf=>first|exact HF.out.drew.drewN _|exact HF.out.drewN _);rintro e w1 ⟨g',rfl,k0,H1,HL⟩)))
      clear HME
      cases bv with
      |false=>
       have hres:gn aI aD.length au l1=false:=by
        have he:g.getD na 0=g.getD nb 0:=by have:=HBV.out;simpa [-List.getD_eq_getElem?_getD] using this
        unfold gn
        rw [HE.out,HD.out,HGO.out,if_pos he]
        simp
       have HRES:=aa.mk hres
       clear hres
       go_wp2
       go_ret
       rw [HRES.out]
       exact ⟨rfl,H1.bel⟩
      |true=>
       have he:¬g.getD na 0=g.getD nb 0:=by have:=HBV.out;simpa [-List.getD_eq_getElem?_getD] using this
       have HNE:=aa.mk he
       rw [if_neg he] at HL
       subst HL
       clear he
       go_wp2
       go_roundw
       case rel=>exact ⟨i+1,x,_,_,by omega,by go_num,by omega,fun _=>by rw [show (((i+1:Nat):Int) - 1)=(i:Int) by omega,HX.out],fun h=>absurd h (by omega),⟨H1⟩,⟨HS.out.merge n2 n4⟩,⟨by rw [HE.out,HD.out,HGO.out,if_neg HNE.out]⟩⟩
       case measure=>simp [intOf];omega
     have hb:(decide (0≤x)&&decide (x≤(au.length:Int) - 1))=false:=by simp;omega
     have hres:gn aI aD.length au l1=false:=by
      unfold gn
      rw [HE.out,HD.out]
      simp only [gP]
      rw [if_pos (by omega)]
      simp
     have HRES:=aa.mk hres
     have HIN:aa (∀ W,Calls Try.prog 110 #[.int .i64 x,.int .i64 0,.int .i64 ((au.length:Int) - 1)] W fun e w'=>e= .returned (.bool false)∧∃ m,w'=W.drewN m):=⟨fun W=>hb ▸ NP _ _ _ W⟩
     clear hres h1 hb
     go_wp2_with fail
     go_quiet ((go_at_call 110;exact Calls.quiet_of (HIN.out _)))
     go_wp2
     go_ret
     rw [HRES.out]
     exact ⟨rfl,ab HF.out.bel _⟩
    have hend:l1.drop i=[]:=List.drop_eq_nil_of_le (by omega)
    have hall:∀ a ∈ au,(L.getD a.f1.toNat 0==L.getD a.f2.toNat 0)=decide (g.getD a.f1.toNat 0=g.getD a.f2.toNat 0):=by
     intro a ha
     obtain ⟨⟨_,n2⟩,_,n4⟩:=l8 HOK.out ha
     have:=HS.out.2.2 _ _ n2 n4
     rw [Bool.eq_iff_iff,beq_iff_eq,decide_eq_true_eq]
     exact this.symm
    have hres:gn aI aD.length au l1=au.all fun a=>decide (g.getD a.f1.toNat 0=g.getD a.f2.toNat 0):=by
     unfold gn
     rw [HE.out,hend,HOK.out]
     simp only [gP,Bool.true_and]
     rw [Bool.eq_iff_iff,List.all_eq_true,List.all_eq_true]
     exact ⟨fun h a ha=>by rw [← hall a ha];exact h a ha,fun h a ha=>by rw [hall a ha];exact h a ha⟩
    have HRES:=aa.mk hres
    clear hres hall hend HE HS HPV KD q2 hlast
    obtain rfl:i=l1.length:=by omega
    clear hlt hi
    obtain ⟨wo,ewo⟩:∃ wo:World,wo=wr:=⟨_,rfl⟩
    subst ewo
    go_wp2
    go_loopw [8] (fun v8 W=>∃ i:Nat,i≤au.length∧v8= .int .i64 i∧aa (vr w #[.int .i64 aI,.slice bh aD.length bi,.slice bu au.length aW] (.slice Av aD.length cv) w.heap.size aD.length W g)∧aa (∀ j,j<i→g.getD (au.getD j jW).f1.toNat 0=g.getD (au.getD j jW).f2.toNat 0)) (fun v8 _=>au.length - (intOf v8).toNat)
    case atStart=>exact ⟨0,Nat.zero_le _,rfl,HF,⟨fun j hj=>absurd hj (Nat.not_lt_zero _)⟩⟩
    case round=>
     clear HF
     obtain ⟨i,hi,rfl,HF,HA⟩:=hrel
     have q2:wr.cell? ⟨w.heap.size,2,none⟩=some (.slice bu au.length aW):=(ag HF.out.nb 2).trans rfl
     by_cases hlt:i<au.length
     ·have hmem:au.getD i jW ∈ au:=oG hlt
      obtain ⟨⟨n1,n2⟩,n3,n4⟩:=l8 HOK.out hmem
      obtain ⟨ad,e,g0,g1,g2,g3,g4,g5⟩:=i9 (Kd.aN nw.out HF.out.bel) (i:Int) (by omega) (by omega)
      cases e
      have hrd:aC au (i:Int)=au.getD i jW:=by unfold aC;rw [Int.toNat_natCast]
      rw [hrd,show (au.getD i jW).f1=(((au.getD i jW).f1.toNat:Nat):Int) by omega] at g1
      rw [hrd,show (au.getD i jW).f2=(((au.getD i jW).f2.toNat:Nat):Int) by omega] at g2
      rw [Int.toNat_natCast] at g1 g2
      clear g0 g3 g4 g5 hrd n1 n3
      obtain ⟨gv,cap,ev⟩:=HF.out.form (by omega)
      injection ev with e1 _ e3
      subst e1 e3
      generalize hna:(au.getD i jW).f1.toNat=na at g1 n2
      generalize hnb:(au.getD i jW).f2.toNat=nb at g2 n4
      obtain ⟨qa,_⟩:=HF.out.cell n2
      obtain ⟨qb,_⟩:=HF.out.cell n4
      have HMEM:=aa.mk hmem
      have HNA:=aa.mk hna
      have HNB:=aa.mk hnb
      clear hmem hna hnb
      generalize hga:g.getD na 0=ga at qa
      generalize hgb:g.getD nb 0=gb at qb
      have HGA:=aa.mk hga
      have HGB:=aa.mk hgb
      clear hga hgb
      by_cases hd:ga=gb
      ·subst hd
       go_wp2_with fail
       go_quiet (fail)
       go_wp2
       go_roundw
       case rel=>exact ⟨i+1,by omega,by go_num,⟨HF.out.drewN _⟩,⟨fun j hj=>by
        rcases Nat.lt_succ_iff_lt_or_eq.1 hj with h|rfl
        ·exact HA.out j h
        rw [HNA.out,HNB.out,HGA.out,HGB.out]⟩⟩
       case measure=>simp [intOf];omega
      have hd1:(ga==gb)=false:=beq_eq_false_iff_ne.2 hd
      have hd2:(ga !=gb)=true:=bne_iff_ne.2 hd
      have hres:gn aI aD.length au l1=false:=by
       rw [HRES.out,List.all_eq_false]
       refine ⟨_,HMEM.out, ?_⟩
       rw [HNA.out,HNB.out,HGA.out,HGB.out]
       simpa using hd
      have H7:=aa.mk hres
      clear hres hd
      go_wp2_with fail
      go_quiet (fail)
      go_wp2
      go_ret
      rw [H7.out]
      exact ⟨rfl,ab HF.out.bel _⟩
     have hres:gn aI aD.length au l1=true:=by
      rw [HRES.out,List.all_eq_true]
      intro a ha
      obtain ⟨j,hj,rfl⟩:=List.getElem_of_mem ha
      have:=HA.out j (by omega)
      simpa [List.getD_eq_getElem?_getD,hj] using this
     have H7:=aa.mk hres
     clear hres
     go_wp2
     go_ret
     rw [H7.out]
     exact ⟨rfl,HF.out.bel⟩
end Go.Proofs.Ytbkjplomoegbdaa.PB
