/- Parts of the proof of CyclesSums, gathered by a program of this claim out of texts that it or the kit's print wrote: lemmas alone, no condition of their own. -/
import Derived.Test.YtbkjplomoegbdaaCcs9
import Derived.Test.YtbkjplomoegbdaaCcs14
namespace Go.Proofs.Ytbkjplomoegbdaa.PB
open Go.RowKit Go.Proofs.Ytbkjplomoegbdaa.kH Go.Proofs.YtbkjplomoegbdaaW.bO Go.Proofs.YtbkjplomoegbdaaW.dA Go.Proofs.YtbkjplomoegbdaaW.dG
set_option linter.unusedVariables false
set_option linter.unusedSimpArgs false
structure AP (w0:World) (cs cs':Array Value) (bn bc ga:Nat) (cells:Array Value) (W:World) (va vb:Value) (st en:List Int) (lits:List (Nat × Int)):Prop where
 cc:CC w0 cs cs' bn bc W va vb st en
 ha:W.heap[ga]? =some (.cells cells 36 (0,0))
 na:some ga≠va.ownBlock∧some ga≠vb.ownBlock
 hl:∀ x ∈ lits,W.heap[x.1]? =some (.cells #[.int .i64 x.2] 3 (0,0))∧some x.1≠va.ownBlock∧some x.1≠vb.ownBlock
namespace AP
variable {w0:World} {cs cs':Array Value} {bn bc ga:Nat} {cells:Array Value} {W W' w1:World} {va vb v1:Value} {st en:List Int} {lits:List (Nat × Int)}
theorem below (h:AP w0 cs cs' bn bc ga cells W va vb st en lits) (hb:Below W.heap.size W W'):AP w0 cs cs' bn bc ga cells W' va vb st en lits:=⟨h.cc.below hb,aH h.ha hb,h.na,fun x hx=>⟨aH (h.hl x hx).1 hb,(h.hl x hx).2⟩⟩
theorem drew (h:AP w0 cs cs' bn bc ga cells W va vb st en lits):AP w0 cs cs' bn bc ga cells W.drew va vb st en lits:=h.below (ab (Below.refl _ _) 1)
theorem lit (h:AP w0 cs cs' bn bc ga cells W va vb st en lits) (p:Int):AP w0 cs cs' bn bc ga cells (W.alloc (.cells #[.int .i64 p] 3)) va vb st en ((W.heap.size,p) :: lits):=by
 have h2:=h.below (ae (Below.refl W.heap.size W) (.cells #[.int .i64 p] 3))
 refine ⟨h2.cc,h2.ha,h2.na,fun x hx=> ?_⟩
 rcases List.mem_cons.1 hx with rfl|hx
 ·exact ⟨gC W _,fun e=>absurd (Kd.gq h.cc.ra _ e.symm) (Nat.lt_irrefl _),fun e=>absurd (Kd.gq h.cc.rb _ e.symm) (Nat.lt_irrefl _)⟩
 exact h2.hl x hx
theorem vu (h:AP w0 cs cs' bn bc ga cells W va vb st en lits) {g:Nat} {p:Int} (hm:(g,p) ∈ lits):iw (fun (x:Int) cs=>cs=[Value.int .i64 x]) 1 W (some ⟨g,0,none⟩) 1 [p]:=by
 refine ⟨rfl,by omega,fun _=>⟨⟨g,0,none⟩,rfl,fun j q hj=> ?_⟩⟩
 have hb:=(h.hl _ hm).1
 cases j with
 |zero=>
  simp only [List.getElem?_cons_zero,Option.some.injEq] at hj
  subst hj
  refine ⟨[.int .i64 p],rfl,rfl,fun i u hu=> ?_⟩
  cases i with
  |zero=>
   simp only [List.getElem?_cons_zero,Option.some.injEq] at hu
   subst hu
   exact (ag hb 0).trans rfl
  |succ i=>simp at hu
 |succ j=>simp at hj
theorem zS {v v1:Value} {W:World} {g:Nat} (hat:v1.ownBlock=v.ownBlock∨∃ b,v1.ownBlock=some b∧W.heap.size≤b) (hg:g<W.heap.size) (hne:some g≠v.ownBlock):some g≠v1.ownBlock:=by
 rcases hat with e|⟨b,e,hb⟩
 ·rw [e];exact hne
 rw [e];intro h;injection h with h;omega
theorem sD (h:AP w0 cs cs' bn bc ga cells W va vb st en lits) {xs:List Int} (ho:Kd.R (Kd.int .i64) 3 w1 w0.heap.size (fun k=>(k≠bn∧k≠bc)∧some k≠vb.ownBlock) v1 xs) (hb:Below w0.heap.size w0 w1) (hg:W.grownBy w1 va.ownBlock) (hat:v1.ownBlock=va.ownBlock∨∃ b,v1.ownBlock=some b∧W.heap.size≤b):AP w0 cs cs' bn bc ga cells w1 v1 vb xs en lits:=
 ⟨h.cc.sD ho hb hg hat,dq h.ha hg h.na.1,⟨zS hat (cn h.ha) h.na.1,h.na.2⟩,fun x hx=>⟨dq (h.hl x hx).1 hg (h.hl x hx).2.1,zS hat (cn (h.hl x hx).1) (h.hl x hx).2.1,(h.hl x hx).2.2⟩⟩
theorem sE (h:AP w0 cs cs' bn bc ga cells W va vb st en lits) {xs:List Int} (ho:Kd.R (Kd.int .i64) 3 w1 w0.heap.size (fun k=>(k≠bn∧k≠bc)∧some k≠va.ownBlock) v1 xs) (hb:Below w0.heap.size w0 w1) (hg:W.grownBy w1 vb.ownBlock) (hat:v1.ownBlock=vb.ownBlock∨∃ b,v1.ownBlock=some b∧W.heap.size≤b):AP w0 cs cs' bn bc ga cells w1 va v1 st xs lits:=
 ⟨h.cc.sE ho hb hg hat,dq h.ha hg h.na.2,⟨h.na.1,zS hat (cn h.ha) h.na.2⟩,fun x hx=>⟨dq (h.hl x hx).1 hg (h.hl x hx).2.2,(h.hl x hx).2.1,zS hat (cn (h.hl x hx).1) (h.hl x hx).2.2⟩⟩
end AP
def xT.T:Bool × List (List Nat × List Nat):=(true,[([],[]),([0],[0]),([],[]),([2],[2]),([],[]),([3,4],[3,4]),([5],[5]),([1,6],[1,6]),([7],[7]),([],[]),([9,8,0,1,2,3,4,5,6,7,8,9],[8,9])])
def xT.B:List Nat:=[0,1,0,4,0,28,60,127,255,0,1023]
theorem xT.tab:jX .any (opsOf Try.f80 9)=xT.T:=by kernel_rfl
theorem xT.bits:gU xT.T.2 xT.B=true:=by kernel_rfl
def uV.T:Bool × List (List Nat × List Nat):=(true,[([],[]),([],[]),([1],[1]),([2],[2]),([0,3],[0,3]),([],[]),([],[]),([6],[6]),([7],[7]),([5,8,4],[5,8]),([4,9,0,1,2,3,4],[0,4]),([9,10,0,1,2,3,4,5,6,7,8,9,10],[5,9])])
def uV.B:List Nat:=[0,0,2,6,15,0,0,64,192,511,1023,2047]
theorem uV.tab:jX .any (opsOf Try.f80 11)=uV.T:=by kernel_rfl
theorem uV.bits:gU uV.T.2 uV.B=true:=by kernel_rfl
def uW.T:Bool × List (List Nat × List Nat):=(true,[([],[]),([],[]),([1],[1]),([2],[2]),([0,3],[0,3]),([],[]),([],[]),([6],[6]),([7],[7]),([5,8,4],[5,8]),([4,9,0,1,2,3,4],[0,4]),([9,10,0,1,2,3,4,5,6,7,8,9,10],[5,9])])
def uW.B:List Nat:=[0,0,2,6,15,0,0,64,192,511,1023,2047]
theorem uW.tab:jX .any (opsOf Try.f80 12)=uW.T:=by kernel_rfl
theorem uW.bits:gU uW.T.2 uW.B=true:=by kernel_rfl
def cM.f (aI:Int) (aD:List (hO)) (au:List (eu)) (bq bI:List Int):Option (Bool):=some (jY aI aD.length au bq bI)
set_option maxHeartbeats 4000000 in
set_option maxRecDepth 100000 in
theorem cM.calls (aI:Int) (bh:Option Addr) (bi:Nat) (aD:List (hO)) (bu:Option Addr) (aW:Nat) (au:List (eu)) (ee:Option Addr) (dR:Nat) (bq:List Int) (ed:Option Addr) (dW:Nat) (bI:List Int) (r:Bool) (w:World) (eI:Kd.C oS w bh aD.length aD) (eS:aD.length≤bi) (eC:Kd.C nD w bu au.length au) (eT:au.length≤aW) (nJ:Kd.C (Kd.int .i64) w ee bq.length bq) (qB:bq.length≤dR) (nK:Kd.C (Kd.int .i64) w ed bI.length bI) (o3:bI.length≤dW) (h:cM.f aI aD au bq bI=some r):
  Calls Try.prog 80 #[.agg #[.int .i64 aI,.slice bh aD.length bi,.slice bu au.length aW],.agg #[.slice ee bq.length dR,.slice ed bI.length dW]] w fun e w'=>e= .returned (.bool r)∧Below w.heap.size w w':=by
 obtain rfl:=Option.some.inj h
 clear h
 have nu:=Try.underlying26
 have Bu:=Try.underlying41
 have sj:=Try.underlying36
 have sK:=aa.mk eI
 have nw:=aa.mk eC
 have Hx:=aa.mk nJ
 have Hy:=aa.mk nK
 have sL:=aa.mk eS
 have sM:=aa.mk eT
 have Ze:=aa.mk o3
 have m1:=Kd.jZ eI
 have m2:=Kd.jZ eC
 have m3:=Kd.jZ nJ
 have m4:=Kd.jZ nK
 clear eI eC eS eT nJ nK o3
 have uz:=aa.mk (show Below w.heap.size w ((w.alloc (.cells #[.int .i64 aI,.slice bh aD.length bi,.slice bu au.length aW] 26)).alloc (.cells #[.slice ee bq.length dR,.slice ed bI.length dW] 41)) from ae (ae (Below.refl _ _) _) _)
 have FM:=aa.mk (aj (gC w (.cells #[.int .i64 aI,.slice bh aD.length bi,.slice bu au.length aW] 26)) (.cells #[.slice ee bq.length dR,.slice ed bI.length dW] 41))
 have tC:aa (((w.alloc (.cells #[.int .i64 aI,.slice bh aD.length bi,.slice bu au.length aW] 26)).alloc (.cells #[.slice ee bq.length dR,.slice ed bI.length dW] 41)).heap[w.heap.size+1]? =some (.cells #[.slice ee bq.length dR,.slice ed bI.length dW] 41 (0,0))):=⟨by have h:=gC (w.alloc (.cells #[.int .i64 aI,.slice bh aD.length bi,.slice bu au.length aW] 26)) (.cells #[.slice ee bq.length dR,.slice ed bI.length dW] 41);rwa [show (w.alloc (.cells #[.int .i64 aI,.slice bh aD.length bi,.slice bu au.length aW] 26)).heap.size=w.heap.size+1 by simp] at h⟩
 obtain ⟨kc,hkc⟩:=(tG aI aD au).rounds
 have HKC:=aa.mk hkc
 clear hkc
 cases hok:fD aI aD.length au with
 |false=>
  rw [hok] at HKC
  have hres:jY aI aD.length au bq bI=false:=by simp [jY,hok]
  have HRES:=aa.mk hres
  have HOK:=aa.mk hok
  clear hres hok
  go_enter Try.func80,Try.ntmps80
  go_wp2_with (go_at_call 85;refine (aQ.calls kc aI bh bi aD bu aW au false _ ?h1 sL.out ?h2 sM.out HKC.out).mono ?_;(case h1=>exact Kd.aN sK.out uz.out);(case h2=>exact Kd.aN nw.out uz.out);rintro e w' ⟨rfl,hb⟩)
  go_ret
  rw [HRES.out]
  exact ⟨rfl,aE uz.out hb⟩
 |true=>
  rw [hok] at HKC
  have HOK:=aa.mk hok
  clear hok
  by_cases hlen:2≤bq.length∧bq.length=bI.length
  case neg=>
   have hres:jY aI aD.length au bq bI=false:=by
    unfold jY
    have:(decide (2≤bq.length)&&decide (bq.length=bI.length))=false:=by
     rw [Bool.and_eq_false_iff,decide_eq_false_iff_not,decide_eq_false_iff_not];omega
    rw [HOK.out,Bool.true_and,this]
    simp
   have HRES:=aa.mk hres
   clear hres
   by_cases h2:bq.length=bI.length
   ·have h2a:((bq.length:Int) !=(bI.length:Int))=false:=by rw [bne_eq_false_iff_eq];omega
    have h2b:(bq.length !=bI.length)=false:=by rw [bne_eq_false_iff_eq];omega
    have h2c:bq.length<2:=by omega
    clear hlen h2
    go_enter Try.func80,Try.ntmps80
    go_wp2_with (go_at_call 85;refine (aQ.calls kc aI bh bi aD bu aW au true _ ?h1 sL.out ?h2 sM.out HKC.out).mono ?_;(case h1=>exact Kd.aN sK.out uz.out);(case h2=>exact Kd.aN nw.out uz.out);rintro e w1 ⟨rfl,hb⟩;have q0:=(ag (aH tC.out hb) 0).trans rfl;have q1:=(ag (aH tC.out hb) 1).trans rfl;have ux:=aa.mk (aE uz.out hb);have yX:=aa.mk (aH FM.out hb);have pK:=aa.mk (aH tC.out hb);clear hb)
    go_ret
    rw [HRES.out]
    exact ⟨rfl,ux.out⟩
   have h3:¬bq.length=bI.length:=h2
   have h3a:((bq.length:Int) !=(bI.length:Int))=true:=by rw [bne_iff_ne];omega
   have h3b:(bq.length !=bI.length)=true:=by rw [bne_iff_ne];omega
   clear hlen h3 h2
   go_enter Try.func80,Try.ntmps80
   go_wp2_with (go_at_call 85;refine (aQ.calls kc aI bh bi aD bu aW au true _ ?h1 sL.out ?h2 sM.out HKC.out).mono ?_;(case h1=>exact Kd.aN sK.out uz.out);(case h2=>exact Kd.aN nw.out uz.out);rintro e w1 ⟨rfl,hb⟩;have q0:=(ag (aH tC.out hb) 0).trans rfl;have q1:=(ag (aH tC.out hb) 1).trans rfl;have ux:=aa.mk (aE uz.out hb);have yX:=aa.mk (aH FM.out hb);have pK:=aa.mk (aH tC.out hb);clear hb)
   go_ret
   rw [HRES.out]
   exact ⟨rfl,ux.out⟩
  obtain ⟨I0,hle⟩:=hlen
  have hl3:¬bq.length<2:=by omega
  have HLE:=aa.mk hle
  have h3a:((bq.length:Int) !=(bI.length:Int))=false:=by rw [bne_eq_false_iff_eq];omega
  have h3b:(bq.length !=bI.length)=false:=by rw [bne_eq_false_iff_eq];omega
  clear hle
  go_enter Try.func80,Try.ntmps80
  go_wp2_with (go_at_call 85;refine (aQ.calls kc aI bh bi aD bu aW au true _ ?h1 sL.out ?h2 sM.out HKC.out).mono ?_;(case h1=>exact Kd.aN sK.out uz.out);(case h2=>exact Kd.aN nw.out uz.out);rintro e w1 ⟨rfl,hb⟩;have q0:=(ag (aH tC.out hb) 0).trans rfl;have q1:=(ag (aH tC.out hb) 1).trans rfl;have ux:=aa.mk (aE uz.out hb);have yX:=aa.mk (aH FM.out hb);have pK:=aa.mk (aH tC.out hb);clear hb)
  have hCC:CC w #[.int .i64 aI,.slice bh aD.length bi,.slice bu au.length aW] #[.slice ee bq.length dR,.slice ed bI.length dW] w.heap.size (w.heap.size+1) w1 (.slice none 0 0) (.slice none 0 0) (oT au bq bI 0) (pQ au bq bI 0):=⟨yX.out,pK.out,Kd.jE _ _ _ _ _,Kd.jE _ _ _ _ _,ux.out⟩
  have HCC:=aa.mk hCC
  clear hCC yX pK ux FM tC uz q0 q1
  go_loopw [5,6,7] (fun v5 v6 NC W=>∃ (i:Nat) (Aa:Option Addr) (ca:Nat) (Ab:Option Addr) (cb:Nat),i≤bq.length∧v5= .slice Aa i ca∧v6= .slice Ab i cb∧NC= .int .i64 i∧aa (CC w #[.int .i64 aI,.slice bh aD.length bi,.slice bu au.length aW] #[.slice ee bq.length dR,.slice ed bI.length dW] w.heap.size (w.heap.size+1) W (.slice Aa i ca) (.slice Ab i cb) (oT au bq bI i) (pQ au bq bI i))∧aa (∀ j,j<i→jc au bq bI j=true)) (fun _ _ NC _=>bq.length - (intOf NC).toNat)
  case atStart=>exact ⟨0,none,0,none,0,Nat.zero_le _,rfl,rfl,rfl,HCC,⟨fun j hj=>absurd hj (Nat.not_lt_zero _)⟩⟩
  case round=>
   clear HCC
   obtain ⟨i,Aa,ca,Ab,cb,hi,rfl,rfl,rfl,HCC,HA⟩:=hrel
   have q2:wr.cell? ⟨w.heap.size,2,none⟩=some (.slice bu au.length aW):=(ag HCC.out.nb 2).trans rfl
   have q3:wr.cell? ⟨w.heap.size+1,0,none⟩=some (.slice ee bq.length dR):=(ag HCC.out.cb 0).trans rfl
   have q4:wr.cell? ⟨w.heap.size+1,1,none⟩=some (.slice ed bI.length dW):=(ag HCC.out.cb 1).trans rfl
   by_cases hlt:i<bq.length
   ·have Zf:i<bI.length:=by rw [← HLE.out];exact hlt
    obtain ⟨qg,e1,hx1⟩:=Kd.dN (Kd.aN Hx.out HCC.out.bel) (i:Int) (by omega) (by omega)
    cases e1
    obtain ⟨DQ,e2,oQ⟩:=Kd.dN (Kd.aN Hy.out HCC.out.bel) (i:Int) (by omega) (by omega)
    cases e2
    rw [Int.toNat_natCast] at hx1 oQ
    have hxe:rd bq (i:Int)=bq.getD i 0:=by unfold rd;rw [Int.toNat_natCast]
    have hse:rd bI (i:Int)=bI.getD i 0:=by unfold rd;rw [Int.toNat_natCast]
    rw [hxe] at hx1
    rw [hse] at oQ
    generalize hx:bq.getD i 0=x at hx1
    generalize hs:bI.getD i 0=s at oQ
    have HX:=aa.mk hx
    have HS:=aa.mk hs
    clear hx hs hxe hse
    have HTK:aa (∀ n,Calls Try.prog 96 #[.slice (some qg) i dR,.int .i64 x] (wr.drewN n) fun e w'=>e= .returned (.bool ((bq.take i).contains x))∧∃ m,w'=(wr.drewN n).drewN m):=⟨fun n=>Hs (some qg) dR bq x i _ (by omega) (Kd.aU (Kd.aN Hx.out HCC.out.bel) n) qB⟩
    have HIN:aa (∀ W,Calls Try.prog 110 #[.int .i64 x,.int .i64 0,.int .i64 ((au.length:Int) - 1)] W fun e w'=>e= .returned (.bool (decide (0≤x)&&decide (x≤(au.length:Int) - 1)))∧∃ m,w'=W.drewN m):=⟨fun W=>NP _ _ _ W⟩
    have acb:au.length≤512:=by have:=HOK.out;simp [fD] at this;omega
    have ZA:IntKind.i64.wrap ((au.length:Int) - 1)=(au.length:Int) - 1:=IntWalk.i64_in _ (by omega)
    have hic:i≤dR:=by omega
    generalize hib:(decide (0≤x)&&decide (x≤(au.length:Int) - 1))=ib at HIN
    have HIB:=aa.mk hib
    clear hib
    generalize hct:(bq.take i).contains x=ct at HTK
    have HCT:=aa.mk hct
    clear hct
    cases ib with
    |false=>
     have hres:jY aI aD.length au bq bI=false:=oK hlt (by
      have h1:=HIB.out
      rw [Bool.and_eq_false_iff,decide_eq_false_iff_not,decide_eq_false_iff_not] at h1
      unfold jc
      rw [HX.out]
      rcases h1 with h1|h1
      ·rw [decide_eq_false h1];simp
      rw [decide_eq_false (show ¬x<(au.length:Int) by omega)];simp)
     have HRES:=aa.mk hres
     clear hres
     go_wp2_with fail
     go_quiet ((first|(go_at_call 110;exact Calls.quiet_of (HIN.out _))|(go_at_call 96;exact Calls.quiet_of (HTK.out _))))
     go_wp2
     go_ret
     rw [HRES.out]
     exact ⟨rfl,ab HCC.out.bel _⟩
    |true=>
    have Z0:0≤x∧x<(au.length:Int):=by
     have h1:=HIB.out
     rw [Bool.and_eq_true,decide_eq_true_eq,decide_eq_true_eq] at h1
     omega
    obtain ⟨hx0,uQ⟩:=Z0
    cases ct with
    |true=>
     have hres:jY aI aD.length au bq bI=false:=oK hlt (by unfold jc;rw [HX.out,HCT.out];simp)
     have HRES:=aa.mk hres
     clear hres
     go_wp2_with fail
     go_quiet ((first|(go_at_call 110;exact Calls.quiet_of (HIN.out _))|(go_at_call 96;exact Calls.quiet_of (HTK.out _))))
     go_wp2
     go_ret
     rw [HRES.out]
     exact ⟨rfl,ab HCC.out.bel _⟩
    |false=>
     by_cases hs1:s=1∨s= -1
     case neg=>
      have hres:jY aI aD.length au bq bI=false:=oK hlt (by
       unfold jc
       rw [HS.out]
       have:(s==1||s== -1)=false:=by rw [Bool.or_eq_false_iff,beq_eq_false_iff_ne,beq_eq_false_iff_ne];omega
       rw [this];simp)
      have HRES:=aa.mk hres
      have hn1:(s==1)=false:=beq_eq_false_iff_ne.2 (by omega)
      have hn2:(s !=1)=true:=bne_iff_ne.2 (by omega)
      have hn3:(s== -1)=false:=beq_eq_false_iff_ne.2 (by omega)
      have hn4:(s != -1)=true:=bne_iff_ne.2 (by omega)
      clear hres hs1
      go_wp2_with fail
      go_quiet ((first|(go_at_call 110;exact Calls.quiet_of (HIN.out _))|(go_at_call 96;exact Calls.quiet_of (HTK.out _))))
      go_wp2
      go_ret
      rw [HRES.out]
      exact ⟨rfl,ab HCC.out.bel _⟩
     have hok:jc au bq bI i=true:=by
      unfold jc
      rw [HX.out,HS.out,HCT.out,decide_eq_true hx0,decide_eq_true uQ]
      rcases hs1 with rfl|rfl<;>simp
     have HOKI:=aa.mk hok
     clear hok
     have Hz:i≤512:=by
      have h1:=rS hi HA.out
      omega
     obtain ⟨ad,e3,g0,g1,g2,g3,g4,g5⟩:=i9 (Kd.aN nw.out HCC.out.bel) x hx0 uQ
     cases e3
     have hrd:au.getD x.toNat jW=aC au x:=rfl
     generalize aC au x=a at*
     have HRD:=aa.mk hrd
     clear hrd
     rcases hs1 with rfl|rfl
     ·go_wp2_with fail
      go_quiet ((first|(go_at_call 110;exact Calls.quiet_of (HIN.out _))|(go_at_call 96;exact Calls.quiet_of (HTK.out _))))
      go_wp2_with fail
      have lm:=aa.mk (HCC.out.drewN nq)
      generalize hnd:wr.drewN nq=W2 at lm ⊢
      replace q2:=(show (wr.drewN nq).cell? _=_ from q2);rw [hnd] at q2
      replace q3:=(show (wr.drewN nq).cell? _=_ from q3);rw [hnd] at q3
      replace q4:=(show (wr.drewN nq).cell? _=_ from q4);rw [hnd] at q4
      replace hx1:=(show (wr.drewN nq).cell? _=_ from hx1);rw [hnd] at hx1
      replace oQ:=(show (wr.drewN nq).cell? _=_ from oQ);rw [hnd] at oQ
      replace g0:=(show (wr.drewN nq).cell? _=_ from g0);rw [hnd] at g0
      replace g1:=(show (wr.drewN nq).cell? _=_ from g1);rw [hnd] at g1
      replace g2:=(show (wr.drewN nq).cell? _=_ from g2);rw [hnd] at g2
      replace g3:=(show (wr.drewN nq).cell? _=_ from g3);rw [hnd] at g3
      replace g4:=(show (wr.drewN nq).cell? _=_ from g4);rw [hnd] at g4
      replace g5:=(show (wr.drewN nq).cell? _=_ from g5);rw [hnd] at g5
      clear hnd
      replace lm:=aa.mk (lm.out.drewN 1)
      change aa (CC _ _ _ _ _ W2.drew _ _ _ _) at lm
      refine ju (n:=11) (S:=fun w'=>w'.cell? ⟨w.heap.size,2,none⟩=some (.slice (some ad) au.length aW)∧w'.cell? ⟨w.heap.size+1,0,none⟩=some (.slice (some qg) bq.length dR)∧w'.cell? (qg.add i)=some (.int .i64 x)∧w'.cell? (ad.add (x.toNat*6))=some (.int .i64 a.f0)∧w'.cell? ⟨(ad.add (x.toNat*6)).block,(ad.add (x.toNat*6)).off+1,none⟩=some (.int .i64 a.f1)∧w'.cell? ⟨(ad.add (x.toNat*6)).block,(ad.add (x.toNat*6)).off+2,none⟩=some (.int .i64 a.f2)∧w'.cell? ⟨(ad.add (x.toNat*6)).block,(ad.add (x.toNat*6)).off+3,none⟩=some (.int .i64 a.f3)∧w'.cell? ⟨(ad.add (x.toNat*6)).block,(ad.add (x.toNat*6)).off+4,none⟩=some (.int .i64 a.f4)∧w'.cell? ⟨(ad.add (x.toNat*6)).block,(ad.add (x.toNat*6)).off+5,none⟩=some (.int .i64 a.f5)) (ds:=[10]) #[false,false,false,false,false,false,false,false,false,false,false] (by kernel_rfl) rfl rfl ⟨q2,q3,hx1,g0,g1,g2,g3,g4,g5⟩ (fun hHeld=> ?_);refine fN xT.tab xT.bits (fun HT_ HW_=> ?_)
      generalize W2.drew=wd at lm hHeld ⊢
      refine bP (i:=0) (N:=some 74) (v:= ?_) (a':= ?_) #[true,false,false,false,false,false,false,false,false,false,false] rfl rfl (bz HT_.out (by kernel_rfl)) (fun _ _ _ h=>h) (Or.inl ⟨by rfl, ?_⟩) ?_ ?_;rotate_left;intro w';go_simp;with_reducible rfl;rotate_left;simp only [Act.put,dg,dh,di,aY,a9];rfl
      refine bP (i:=2) (N:=some 76) (v:= ?_) (a':= ?_) #[true,false,true,false,false,false,false,false,false,false,false] rfl rfl (bz HT_.out (by kernel_rfl)) (fun _ _ _ h=>h) (Or.inl ⟨by rfl, ?_⟩) ?_ ?_;rotate_left;intro w';go_simp;with_reducible rfl;rotate_left;simp only [Act.put,dg,dh,di,aY,a9];rfl
      refine bP (i:=4) (N:=some 78) (v:= ?_) (a':= ?_) #[true,false,true,false,true,false,false,false,false,false,false] rfl rfl (bz HT_.out (by kernel_rfl)) (fun _ _ _ h=>h) (Or.inl ⟨by rfl, ?_⟩) ?_ ?_;rotate_left;intro w';go_simp;with_reducible rfl;rotate_left;simp only [Act.put,dg,dh,di,aY,a9];rfl
      refine eL (i:=1) (N:=some 75) (v:= ?_) (a':= ?_) #[true,true,true,false,true,false,false,false,false,false,false] rfl rfl (cO HT_.out HW_.out (by kernel_rfl)) (fun _ _ _ h=>h) (Or.inl ⟨by rfl, ?_⟩) hHeld ?_ ?_;rotate_left;rintro w' ⟨s0,s1,s2,s3,s4,s5,s6,s7,s8⟩;go_simp;with_reducible rfl;rotate_left;simp only [Act.put,dg,dh,di,aY,a9];rfl
      refine eL (i:=3) (N:=some 77) (v:= ?_) (a':= ?_) #[true,true,true,true,true,false,false,false,false,false,false] rfl rfl (cO HT_.out HW_.out (by kernel_rfl)) (fun _ _ _ h=>h) (Or.inl ⟨by rfl, ?_⟩) hHeld ?_ ?_;rotate_left;rintro w' ⟨s0,s1,s2,s3,s4,s5,s6,s7,s8⟩;go_simp;with_reducible rfl;rotate_left;simp only [Act.put,dg,dh,di,aY,a9];rfl
      refine bP (i:=5) (N:=some 79) (v:= ?_) (a':= ?_) #[true,true,true,true,true,true,false,false,false,false,false] rfl rfl (bz HT_.out (by kernel_rfl)) (fun _ _ _ h=>h) (Or.inl ⟨by rfl, ?_⟩) ?_ ?_;rotate_left;intro w';go_simp;with_reducible rfl;rotate_left;simp only [Act.put,dg,dh,di,aY,a9];rfl
      refine eL (i:=6) (N:=some 80) (v:= ?_) (a':= ?_) #[true,true,true,true,true,true,true,false,false,false,false] rfl rfl (cO HT_.out HW_.out (by kernel_rfl)) (fun _ _ _ h=>h) (Or.inl ⟨by rfl, ?_⟩) hHeld ?_ ?_;rotate_left;rintro w' ⟨s0,s1,s2,s3,s4,s5,s6,s7,s8⟩;go_simp;with_reducible rfl;rotate_left;simp only [Act.put,dg,dh,di,aY,a9];rfl
      refine bP (i:=7) (N:=some 81) (v:= ?_) (a':= ?_) #[true,true,true,true,true,true,true,true,false,false,false] rfl rfl (bz HT_.out (by kernel_rfl)) (fun _ _ _ h=>h) (Or.inl ⟨by rfl, ?_⟩) ?_ ?_;rotate_left;intro w';go_simp;with_reducible rfl;rotate_left;simp only [Act.put,dg,dh,di,aY,a9];rfl
      refine eL (i:=8) (N:=some 82) (v:= ?_) (a':= ?_) #[true,true,true,true,true,true,true,true,true,false,false] rfl rfl (cO HT_.out HW_.out (by kernel_rfl)) (fun _ _ _ h=>h) (Or.inl ⟨by rfl, ?_⟩) hHeld ?_ ?_;rotate_left;rintro w' ⟨s0,s1,s2,s3,s4,s5,s6,s7,s8⟩;go_simp;with_reducible rfl;rotate_left;simp only [Act.put,dg,dh,di,aY,a9];rfl
      refine iP (i:=9) (N:=some 8) #[true,true,true,true,true,true,true,true,true,true,false] rfl rfl (dZ HT_.out (by kernel_rfl)) (by decide) (fun K hK=> ?_)
      refine kL (w1:= ?_) (v:= ?_) (by rfl) rfl ?_ ?_;rotate_left 2;go_simp;constructor;rfl;rfl
      refine hK.out _ _ ⟨rF hHeld.1,rF hHeld.2.1,rF hHeld.2.2.1,rF hHeld.2.2.2.1,rF hHeld.2.2.2.2.1,rF hHeld.2.2.2.2.2.1,rF hHeld.2.2.2.2.2.2.1,rF hHeld.2.2.2.2.2.2.2.1,rF hHeld.2.2.2.2.2.2.2.2⟩ (fun hHeld=> ?_)
      clear hK K
      refine eM (a':= ?_) ?_ ?_;rotate_left;show Act.put _ (some 8) _=_;simp only [Act.put,dg,dh,di,aY,a9];rfl
      refine qz (i:=10) (N:=none) #[true,true,true,true,true,true,true,true,true,true,true] rfl rfl (dZ HT_.out (by kernel_rfl)) (by decide) (fun K hK=> ?_)
      refine oz (w1:= ?_) (by rfl) rfl ?_ ?_;rotate_left;go_simp;rfl
      refine hK.out _ _ ?_
      clear hK K
      refine j1 (gD HT_.out (by kernel_rfl)) ?_
      have HAP:=aa.mk (show AP w #[.int .i64 aI,.slice bh aD.length bi,.slice (some ad) au.length aW] #[.slice (some qg) bq.length dR,.slice (some DQ) bI.length dW] w.heap.size (w.heap.size+1) wd.heap.size #[.int .i64 a.f0,.int .i64 a.f1,.int .i64 a.f2,.int .i64 a.f3,.int .i64 a.f4,.int .i64 a.f5] (wd.alloc (.cells #[.int .i64 a.f0,.int .i64 a.f1,.int .i64 a.f2,.int .i64 a.f3,.int .i64 a.f4,.int .i64 a.f5] 36)) (.slice Aa i ca) (.slice Ab i cb) (oT au bq bI i) (pQ au bq bI i) [] from ⟨lm.out.alloc _,gC wd _,⟨fun e=>absurd (Kd.gq lm.out.ra _ e.symm) (Nat.lt_irrefl _),fun e=>absurd (Kd.gq lm.out.rb _ e.symm) (Nat.lt_irrefl _)⟩,fun x hx=>by simp at hx⟩)
      clear hHeld q2 q3 hx1 g0 g1 g2 g3 g4 g5
      generalize wd.alloc (.cells #[.int .i64 a.f0,.int .i64 a.f1,.int .i64 a.f2,.int .i64 a.f3,.int .i64 a.f4,.int .i64 a.f5] 36)=W4 at HAP ⊢
      generalize wd.heap.size=ga at HAP ⊢
      have d1:W4.cell? ⟨ga,1,none⟩=some (.int .i64 a.f1):=(ag HAP.out.ha 1).trans rfl
      have d2:W4.cell? ⟨ga,2,none⟩=some (.int .i64 a.f2):=(ag HAP.out.ha 2).trans rfl
      have q4b:W4.cell? ⟨w.heap.size+1,1,none⟩=some (.slice (some DQ) bI.length dW):=(ag HAP.out.cc.cb 1).trans rfl
      obtain ⟨ad2',e2',hx2'⟩:=Kd.dN (Kd.aN Hy.out HAP.out.cc.bel) (i:Int) (by omega) (by omega)
      injection e2' with e2'
      subst e2'
      rw [Int.toNat_natCast,show rd bI (i:Int)=bI.getD i 0 by unfold rd;rw [Int.toNat_natCast],HS.out] at hx2'
      clear lm q4 oQ
      go_wp2_with fail
      clear q4b hx2'
      refine ju (n:=12) (S:=fun w'=>w'.cell? ⟨ga,1,none⟩=some (.int .i64 a.f1)∧w'.cell? ⟨ga,2,none⟩=some (.int .i64 a.f2)) (ds:=[]) #[false,false,false,false,false,false,false,false,false,false,false,false] (by kernel_rfl) rfl rfl ⟨d1,d2⟩ (fun hHeld=> ?_);refine fN uV.tab uV.bits (fun HT_ HW_=> ?_)
      replace HAP:=aa.mk (HAP.out.drew);clear d1 d2;generalize W4.drew=oC at HAP hHeld ⊢
      refine bP (i:=0) (N:=some 89) (v:= ?_) (a':= ?_) #[true,false,false,false,false,false,false,false,false,false,false,false] rfl rfl (bz HT_.out (by kernel_rfl)) (fun _ _ _ h=>h) (Or.inl ⟨by rfl, ?_⟩) ?_ ?_;rotate_left;intro w';go_simp;with_reducible rfl;rotate_left;simp only [Act.put,dg,dh,di,aY,a9];rfl
      refine bP (i:=1) (N:=some 90) (v:= ?_) (a':= ?_) #[true,true,false,false,false,false,false,false,false,false,false,false] rfl rfl (bz HT_.out (by kernel_rfl)) (fun _ _ _ h=>h) (Or.inl ⟨by rfl, ?_⟩) ?_ ?_;rotate_left;intro w';go_simp;with_reducible rfl;rotate_left;simp only [Act.put,dg,dh,di,aY,a9];rfl
      refine bP (i:=5) (N:=some 94) (v:= ?_) (a':= ?_) #[true,true,false,false,false,true,false,false,false,false,false,false] rfl rfl (bz HT_.out (by kernel_rfl)) (fun _ _ _ h=>h) (Or.inl ⟨by rfl, ?_⟩) ?_ ?_;rotate_left;intro w';go_simp;with_reducible rfl;rotate_left;simp only [Act.put,dg,dh,di,aY,a9];rfl
      refine bP (i:=6) (N:=some 95) (v:= ?_) (a':= ?_) #[true,true,false,false,false,true,true,false,false,false,false,false] rfl rfl (bz HT_.out (by kernel_rfl)) (fun _ _ _ h=>h) (Or.inl ⟨by rfl, ?_⟩) ?_ ?_;rotate_left;intro w';go_simp;with_reducible rfl;rotate_left;simp only [Act.put,dg,dh,di,aY,a9];rfl
      refine eL (i:=2) (N:=some 91) (v:= ?_) (a':= ?_) #[true,true,true,false,false,true,true,false,false,false,false,false] rfl rfl (cO HT_.out HW_.out (by kernel_rfl)) (fun _ _ _ h=>h) (Or.inl ⟨by rfl, ?_⟩) hHeld ?_ ?_;rotate_left;rintro w' ⟨s0,s1⟩;go_simp;with_reducible rfl;rotate_left;simp only [Act.put,dg,dh,di,aY,a9];rfl
      refine eL (i:=7) (N:=some 96) (v:= ?_) (a':= ?_) #[true,true,true,false,false,true,true,true,false,false,false,false] rfl rfl (cO HT_.out HW_.out (by kernel_rfl)) (fun _ _ _ h=>h) (Or.inl ⟨by rfl, ?_⟩) hHeld ?_ ?_;rotate_left;rintro w' ⟨s0,s1⟩;go_simp;with_reducible rfl;rotate_left;simp only [Act.put,dg,dh,di,aY,a9];rfl
      refine Fm (i:=3) (j:=8) (Ni:=some 92) (Nj:=some 97) #[true,true,true,true,false,true,true,true,false,false,false,false] #[true,true,true,false,false,true,true,true,true,false,false,false] rfl rfl rfl rfl (ul HT_.out (by kernel_rfl)) (by decide) (by decide) (fun K hK=> ?_) (fun K hK=> ?_)
      ·skip
       refine kL (w1:= ?_) (v:= ?_) (by rfl) rfl ?_ ?_;rotate_left 2;go_simp;constructor;rfl;rfl
       replace HAP:=aa.mk (HAP.out.lit a.f1)
       generalize oC.alloc (.cells #[.int .i64 a.f1] 3)=qW at HAP ⊢
       refine hK.out _ _ ⟨(ag HAP.out.ha 1).trans rfl,(ag HAP.out.ha 2).trans rfl⟩ (fun hHeld=> ?_);clear hK K
       refine eM (a':= ?_) ?_ ?_;rotate_left;show Act.put _ (some 92) _=_;simp only [Act.put,dg,dh,di,aY,a9];rfl
       refine Fm (i:=4) (j:=8) (Ni:=some 93) (Nj:=some 97) #[true,true,true,true,true,true,true,true,false,false,false,false] #[true,true,true,true,false,true,true,true,true,false,false,false] rfl rfl rfl rfl (ul HT_.out (by kernel_rfl)) (by decide) (by decide) (fun K hK=> ?_) (fun K hK=> ?_)
       ·skip
        refine Kd.dE (Kd.int .i64) (Rr:=fun x cs=>cs=[.int .i64 x]) (w0:=w) w.heap.size (by rfl) (.tmp 89) (.tmp 92) 22 3 (.int .i64 0) 8 rfl Try.underlying22 info3 rfl (by decide) (by omega) (.slice Aa i ca) (oT au bq bI i) [a.f1] (some ⟨oC.heap.size,0,none⟩) 1 1 (fun k=>(k≠w.heap.size∧k≠w.heap.size+1)∧some k≠(Value.slice Ab i cb).ownBlock) (fun _=>False) rfl rfl HAP.out.cc.ra (HAP.out.vu (by simp)) ?aK (fun _ h=>h.elim) HAP.out.cc.qX HAP.out.cc.bel HAP.out.cc.bel.size ?aL ?_
        (case aK=>intro x cs h;subst h;rfl);(case aL=>rw [fj];omega)
        intro v_ yd jr kw nE nL;obtain ⟨Ac,cc,ev_⟩:=Kd.cA jr;rw [show (oT au bq bI i++[a.f1]).length=i+1 by simp [fj]] at ev_;subst ev_;replace HAP:=aa.mk (HAP.out.sD jr kw nE nL);clear jr kw nE nL
        refine hK.out _ _ ⟨(ag HAP.out.ha 1).trans rfl,(ag HAP.out.ha 2).trans rfl⟩ (fun hHeld=> ?_);clear hK K
        refine eM (a':= ?_) ?_ ?_;rotate_left;show Act.put _ (some 93) _=_;simp only [Act.put,dg,dh,di,aY,a9];rfl
        refine iP (i:=8) (N:=some 97) #[true,true,true,true,true,true,true,true,true,false,false,false] rfl rfl (dZ HT_.out (by kernel_rfl)) (by decide) (fun K hK=> ?_)
        refine kL (w1:= ?_) (v:= ?_) (by rfl) rfl ?_ ?_;rotate_left 2;go_simp;constructor;rfl;rfl
        replace HAP:=aa.mk (HAP.out.lit a.f2)
        generalize yd.alloc (.cells #[.int .i64 a.f2] 3)=rK at HAP ⊢
        refine hK.out _ _ ⟨(ag HAP.out.ha 1).trans rfl,(ag HAP.out.ha 2).trans rfl⟩ (fun hHeld=> ?_);clear hK K
        refine eM (a':= ?_) ?_ ?_;rotate_left;show Act.put _ (some 97) _=_;simp only [Act.put,dg,dh,di,aY,a9];rfl
        refine iP (i:=9) (N:=some 98) #[true,true,true,true,true,true,true,true,true,true,false,false] rfl rfl (dZ HT_.out (by kernel_rfl)) (by decide) (fun K hK=> ?_)
        refine Kd.dE (Kd.int .i64) (Rr:=fun x cs=>cs=[.int .i64 x]) (w0:=w) w.heap.size (by rfl) (.tmp 94) (.tmp 97) 22 3 (.int .i64 0) 8 rfl Try.underlying22 info3 rfl (by decide) (by omega) (.slice Ab i cb) (pQ au bq bI i) [a.f2] (some ⟨yd.heap.size,0,none⟩) 1 1 (fun k=>(k≠w.heap.size∧k≠w.heap.size+1)∧some k≠(Value.slice Ac (i+1) cc).ownBlock) (fun _=>False) rfl rfl HAP.out.cc.rb (HAP.out.vu (by simp)) ?aK (fun _ h=>h.elim) HAP.out.cc.lu HAP.out.cc.bel HAP.out.cc.bel.size ?aL ?_
        (case aK=>intro x cs h;subst h;rfl);(case aL=>rw [fW];omega)
        intro v_ Nx jr kw nE nL;obtain ⟨Ad,cd,ev_⟩:=Kd.cA jr;rw [show (pQ au bq bI i++[a.f2]).length=i+1 by simp [fW]] at ev_;subst ev_;replace HAP:=aa.mk (HAP.out.sE jr kw nE nL);clear jr kw nE nL
        refine hK.out _ _ ⟨(ag HAP.out.ha 1).trans rfl,(ag HAP.out.ha 2).trans rfl⟩ (fun hHeld=> ?_);clear hK K
        refine eM (a':= ?_) ?_ ?_;rotate_left;show Act.put _ (some 98) _=_;simp only [Act.put,dg,dh,di,aY,a9];rfl
        refine bP (i:=10) (N:=some 5) (v:= ?_) (a':= ?_) #[true,true,true,true,true,true,true,true,true,true,true,false] rfl rfl (bz HT_.out (by kernel_rfl)) (fun _ _ _ h=>h) (Or.inl ⟨by rfl, ?_⟩) ?_ ?_;rotate_left;intro w';go_simp;with_reducible rfl;rotate_left;simp only [Act.put,dg,dh,di,aY,a9];rfl
        refine bP (i:=11) (N:=some 6) (v:= ?_) (a':= ?_) #[true,true,true,true,true,true,true,true,true,true,true,true] rfl rfl (bz HT_.out (by kernel_rfl)) (fun _ _ _ h=>h) (Or.inl ⟨by rfl, ?_⟩) ?_ ?_;rotate_left;intro w';go_simp;with_reducible rfl;rotate_left;simp only [Act.put,dg,dh,di,aY,a9];rfl
        refine j1 (gD HT_.out (by kernel_rfl)) ?_
        go_wp2
        go_roundw
        case rel=>exact ⟨i+1,Ac,cc,Ad,cd,by omega,rfl,rfl,by go_num,⟨by rw [ny,nz,HX.out,HS.out,show oI au x 1=a.f1 by unfold oI;rw [HRD.out];rfl,show oJ au x 1=a.f2 by unfold oJ;rw [HRD.out];rfl];exact HAP.out.cc⟩,⟨fun j hj=>by
         rcases Nat.lt_succ_iff_lt_or_eq.1 hj with h|rfl
         ·exact HA.out j h
         exact HOKI.out⟩⟩
        case measure=>simp [intOf];omega
       skip
       refine kL (w1:= ?_) (v:= ?_) (by rfl) rfl ?_ ?_;rotate_left 2;go_simp;constructor;rfl;rfl
       replace HAP:=aa.mk (HAP.out.lit a.f2)
       generalize qW.alloc (.cells #[.int .i64 a.f2] 3)=yd at HAP ⊢
       refine hK.out _ _ ⟨(ag HAP.out.ha 1).trans rfl,(ag HAP.out.ha 2).trans rfl⟩ (fun hHeld=> ?_);clear hK K
       refine eM (a':= ?_) ?_ ?_;rotate_left;show Act.put _ (some 97) _=_;simp only [Act.put,dg,dh,di,aY,a9];rfl
       refine iP (i:=4) (N:=some 93) #[true,true,true,true,true,true,true,true,true,false,false,false] rfl rfl (dZ HT_.out (by kernel_rfl)) (by decide) (fun K hK=> ?_)
       refine Kd.dE (Kd.int .i64) (Rr:=fun x cs=>cs=[.int .i64 x]) (w0:=w) w.heap.size (by rfl) (.tmp 89) (.tmp 92) 22 3 (.int .i64 0) 8 rfl Try.underlying22 info3 rfl (by decide) (by omega) (.slice Aa i ca) (oT au bq bI i) [a.f1] (some ⟨oC.heap.size,0,none⟩) 1 1 (fun k=>(k≠w.heap.size∧k≠w.heap.size+1)∧some k≠(Value.slice Ab i cb).ownBlock) (fun _=>False) rfl rfl HAP.out.cc.ra (HAP.out.vu (by simp)) ?aK (fun _ h=>h.elim) HAP.out.cc.qX HAP.out.cc.bel HAP.out.cc.bel.size ?aL ?_
       (case aK=>intro x cs h;subst h;rfl);(case aL=>rw [fj];omega)
       intro v_ rK jr kw nE nL;obtain ⟨Ac,cc,ev_⟩:=Kd.cA jr;rw [show (oT au bq bI i++[a.f1]).length=i+1 by simp [fj]] at ev_;subst ev_;replace HAP:=aa.mk (HAP.out.sD jr kw nE nL);clear jr kw nE nL
       refine hK.out _ _ ⟨(ag HAP.out.ha 1).trans rfl,(ag HAP.out.ha 2).trans rfl⟩ (fun hHeld=> ?_);clear hK K
       refine eM (a':= ?_) ?_ ?_;rotate_left;show Act.put _ (some 93) _=_;simp only [Act.put,dg,dh,di,aY,a9];rfl
       refine iP (i:=9) (N:=some 98) #[true,true,true,true,true,true,true,true,true,true,false,false] rfl rfl (dZ HT_.out (by kernel_rfl)) (by decide) (fun K hK=> ?_)
       refine Kd.dE (Kd.int .i64) (Rr:=fun x cs=>cs=[.int .i64 x]) (w0:=w) w.heap.size (by rfl) (.tmp 94) (.tmp 97) 22 3 (.int .i64 0) 8 rfl Try.underlying22 info3 rfl (by decide) (by omega) (.slice Ab i cb) (pQ au bq bI i) [a.f2] (some ⟨qW.heap.size,0,none⟩) 1 1 (fun k=>(k≠w.heap.size∧k≠w.heap.size+1)∧some k≠(Value.slice Ac (i+1) cc).ownBlock) (fun _=>False) rfl rfl HAP.out.cc.rb (HAP.out.vu (by simp)) ?aK (fun _ h=>h.elim) HAP.out.cc.lu HAP.out.cc.bel HAP.out.cc.bel.size ?aL ?_
       (case aK=>intro x cs h;subst h;rfl);(case aL=>rw [fW];omega)
       intro v_ Nx jr kw nE nL;obtain ⟨Ad,cd,ev_⟩:=Kd.cA jr;rw [show (pQ au bq bI i++[a.f2]).length=i+1 by simp [fW]] at ev_;subst ev_;replace HAP:=aa.mk (HAP.out.sE jr kw nE nL);clear jr kw nE nL
       refine hK.out _ _ ⟨(ag HAP.out.ha 1).trans rfl,(ag HAP.out.ha 2).trans rfl⟩ (fun hHeld=> ?_);clear hK K
       refine eM (a':= ?_) ?_ ?_;rotate_left;show Act.put _ (some 98) _=_;simp only [Act.put,dg,dh,di,aY,a9];rfl
       refine bP (i:=10) (N:=some 5) (v:= ?_) (a':= ?_) #[true,true,true,true,true,true,true,true,true,true,true,false] rfl rfl (bz HT_.out (by kernel_rfl)) (fun _ _ _ h=>h) (Or.inl ⟨by rfl, ?_⟩) ?_ ?_;rotate_left;intro w';go_simp;with_reducible rfl;rotate_left;simp only [Act.put,dg,dh,di,aY,a9];rfl
       refine bP (i:=11) (N:=some 6) (v:= ?_) (a':= ?_) #[true,true,true,true,true,true,true,true,true,true,true,true] rfl rfl (bz HT_.out (by kernel_rfl)) (fun _ _ _ h=>h) (Or.inl ⟨by rfl, ?_⟩) ?_ ?_;rotate_left;intro w';go_simp;with_reducible rfl;rotate_left;simp only [Act.put,dg,dh,di,aY,a9];rfl
       refine j1 (gD HT_.out (by kernel_rfl)) ?_
       go_wp2
       go_roundw
       case rel=>exact ⟨i+1,Ac,cc,Ad,cd,by omega,rfl,rfl,by go_num,⟨by rw [ny,nz,HX.out,HS.out,show oI au x 1=a.f1 by unfold oI;rw [HRD.out];rfl,show oJ au x 1=a.f2 by unfold oJ;rw [HRD.out];rfl];exact HAP.out.cc⟩,⟨fun j hj=>by
        rcases Nat.lt_succ_iff_lt_or_eq.1 hj with h|rfl
        ·exact HA.out j h
        exact HOKI.out⟩⟩
       case measure=>simp [intOf];omega
      skip
      refine kL (w1:= ?_) (v:= ?_) (by rfl) rfl ?_ ?_;rotate_left 2;go_simp;constructor;rfl;rfl
      replace HAP:=aa.mk (HAP.out.lit a.f2)
      generalize oC.alloc (.cells #[.int .i64 a.f2] 3)=qW at HAP ⊢
      refine hK.out _ _ ⟨(ag HAP.out.ha 1).trans rfl,(ag HAP.out.ha 2).trans rfl⟩ (fun hHeld=> ?_);clear hK K
      refine eM (a':= ?_) ?_ ?_;rotate_left;show Act.put _ (some 97) _=_;simp only [Act.put,dg,dh,di,aY,a9];rfl
      refine iP (i:=3) (N:=some 92) #[true,true,true,true,false,true,true,true,true,false,false,false] rfl rfl (dZ HT_.out (by kernel_rfl)) (by decide) (fun K hK=> ?_)
      refine kL (w1:= ?_) (v:= ?_) (by rfl) rfl ?_ ?_;rotate_left 2;go_simp;constructor;rfl;rfl
      replace HAP:=aa.mk (HAP.out.lit a.f1)
      generalize qW.alloc (.cells #[.int .i64 a.f1] 3)=yd at HAP ⊢
      refine hK.out _ _ ⟨(ag HAP.out.ha 1).trans rfl,(ag HAP.out.ha 2).trans rfl⟩ (fun hHeld=> ?_);clear hK K
      refine eM (a':= ?_) ?_ ?_;rotate_left;show Act.put _ (some 92) _=_;simp only [Act.put,dg,dh,di,aY,a9];rfl
      refine iP (i:=4) (N:=some 93) #[true,true,true,true,true,true,true,true,true,false,false,false] rfl rfl (dZ HT_.out (by kernel_rfl)) (by decide) (fun K hK=> ?_)
      refine Kd.dE (Kd.int .i64) (Rr:=fun x cs=>cs=[.int .i64 x]) (w0:=w) w.heap.size (by rfl) (.tmp 89) (.tmp 92) 22 3 (.int .i64 0) 8 rfl Try.underlying22 info3 rfl (by decide) (by omega) (.slice Aa i ca) (oT au bq bI i) [a.f1] (some ⟨qW.heap.size,0,none⟩) 1 1 (fun k=>(k≠w.heap.size∧k≠w.heap.size+1)∧some k≠(Value.slice Ab i cb).ownBlock) (fun _=>False) rfl rfl HAP.out.cc.ra (HAP.out.vu (by simp)) ?aK (fun _ h=>h.elim) HAP.out.cc.qX HAP.out.cc.bel HAP.out.cc.bel.size ?aL ?_
      (case aK=>intro x cs h;subst h;rfl);(case aL=>rw [fj];omega)
      intro v_ rK jr kw nE nL;obtain ⟨Ac,cc,ev_⟩:=Kd.cA jr;rw [show (oT au bq bI i++[a.f1]).length=i+1 by simp [fj]] at ev_;subst ev_;replace HAP:=aa.mk (HAP.out.sD jr kw nE nL);clear jr kw nE nL
      refine hK.out _ _ ⟨(ag HAP.out.ha 1).trans rfl,(ag HAP.out.ha 2).trans rfl⟩ (fun hHeld=> ?_);clear hK K
      refine eM (a':= ?_) ?_ ?_;rotate_left;show Act.put _ (some 93) _=_;simp only [Act.put,dg,dh,di,aY,a9];rfl
      refine iP (i:=9) (N:=some 98) #[true,true,true,true,true,true,true,true,true,true,false,false] rfl rfl (dZ HT_.out (by kernel_rfl)) (by decide) (fun K hK=> ?_)
      refine Kd.dE (Kd.int .i64) (Rr:=fun x cs=>cs=[.int .i64 x]) (w0:=w) w.heap.size (by rfl) (.tmp 94) (.tmp 97) 22 3 (.int .i64 0) 8 rfl Try.underlying22 info3 rfl (by decide) (by omega) (.slice Ab i cb) (pQ au bq bI i) [a.f2] (some ⟨oC.heap.size,0,none⟩) 1 1 (fun k=>(k≠w.heap.size∧k≠w.heap.size+1)∧some k≠(Value.slice Ac (i+1) cc).ownBlock) (fun _=>False) rfl rfl HAP.out.cc.rb (HAP.out.vu (by simp)) ?aK (fun _ h=>h.elim) HAP.out.cc.lu HAP.out.cc.bel HAP.out.cc.bel.size ?aL ?_
      (case aK=>intro x cs h;subst h;rfl);(case aL=>rw [fW];omega)
      intro v_ Nx jr kw nE nL;obtain ⟨Ad,cd,ev_⟩:=Kd.cA jr;rw [show (pQ au bq bI i++[a.f2]).length=i+1 by simp [fW]] at ev_;subst ev_;replace HAP:=aa.mk (HAP.out.sE jr kw nE nL);clear jr kw nE nL
      refine hK.out _ _ ⟨(ag HAP.out.ha 1).trans rfl,(ag HAP.out.ha 2).trans rfl⟩ (fun hHeld=> ?_);clear hK K
      refine eM (a':= ?_) ?_ ?_;rotate_left;show Act.put _ (some 98) _=_;simp only [Act.put,dg,dh,di,aY,a9];rfl
      refine bP (i:=10) (N:=some 5) (v:= ?_) (a':= ?_) #[true,true,true,true,true,true,true,true,true,true,true,false] rfl rfl (bz HT_.out (by kernel_rfl)) (fun _ _ _ h=>h) (Or.inl ⟨by rfl, ?_⟩) ?_ ?_;rotate_left;intro w';go_simp;with_reducible rfl;rotate_left;simp only [Act.put,dg,dh,di,aY,a9];rfl
      refine bP (i:=11) (N:=some 6) (v:= ?_) (a':= ?_) #[true,true,true,true,true,true,true,true,true,true,true,true] rfl rfl (bz HT_.out (by kernel_rfl)) (fun _ _ _ h=>h) (Or.inl ⟨by rfl, ?_⟩) ?_ ?_;rotate_left;intro w';go_simp;with_reducible rfl;rotate_left;simp only [Act.put,dg,dh,di,aY,a9];rfl
      refine j1 (gD HT_.out (by kernel_rfl)) ?_
      go_wp2
      go_roundw
      case rel=>exact ⟨i+1,Ac,cc,Ad,cd,by omega,rfl,rfl,by go_num,⟨by rw [ny,nz,HX.out,HS.out,show oI au x 1=a.f1 by unfold oI;rw [HRD.out];rfl,show oJ au x 1=a.f2 by unfold oJ;rw [HRD.out];rfl];exact HAP.out.cc⟩,⟨fun j hj=>by
       rcases Nat.lt_succ_iff_lt_or_eq.1 hj with h|rfl
       ·exact HA.out j h
       exact HOKI.out⟩⟩
      case measure=>simp [intOf];omega
     go_wp2_with fail
     go_quiet ((first|(go_at_call 110;exact Calls.quiet_of (HIN.out _))|(go_at_call 96;exact Calls.quiet_of (HTK.out _))))
     go_wp2_with fail
     have lm:=aa.mk (HCC.out.drewN nq)
     generalize hnd:wr.drewN nq=W2 at lm ⊢
     replace q2:=(show (wr.drewN nq).cell? _=_ from q2);rw [hnd] at q2
     replace q3:=(show (wr.drewN nq).cell? _=_ from q3);rw [hnd] at q3
     replace q4:=(show (wr.drewN nq).cell? _=_ from q4);rw [hnd] at q4
     replace hx1:=(show (wr.drewN nq).cell? _=_ from hx1);rw [hnd] at hx1
     replace oQ:=(show (wr.drewN nq).cell? _=_ from oQ);rw [hnd] at oQ
     replace g0:=(show (wr.drewN nq).cell? _=_ from g0);rw [hnd] at g0
     replace g1:=(show (wr.drewN nq).cell? _=_ from g1);rw [hnd] at g1
     replace g2:=(show (wr.drewN nq).cell? _=_ from g2);rw [hnd] at g2
     replace g3:=(show (wr.drewN nq).cell? _=_ from g3);rw [hnd] at g3
     replace g4:=(show (wr.drewN nq).cell? _=_ from g4);rw [hnd] at g4
     replace g5:=(show (wr.drewN nq).cell? _=_ from g5);rw [hnd] at g5
     clear hnd
     replace lm:=aa.mk (lm.out.drewN 1)
     change aa (CC _ _ _ _ _ W2.drew _ _ _ _) at lm
     refine ju (n:=11) (S:=fun w'=>w'.cell? ⟨w.heap.size,2,none⟩=some (.slice (some ad) au.length aW)∧w'.cell? ⟨w.heap.size+1,0,none⟩=some (.slice (some qg) bq.length dR)∧w'.cell? (qg.add i)=some (.int .i64 x)∧w'.cell? (ad.add (x.toNat*6))=some (.int .i64 a.f0)∧w'.cell? ⟨(ad.add (x.toNat*6)).block,(ad.add (x.toNat*6)).off+1,none⟩=some (.int .i64 a.f1)∧w'.cell? ⟨(ad.add (x.toNat*6)).block,(ad.add (x.toNat*6)).off+2,none⟩=some (.int .i64 a.f2)∧w'.cell? ⟨(ad.add (x.toNat*6)).block,(ad.add (x.toNat*6)).off+3,none⟩=some (.int .i64 a.f3)∧w'.cell? ⟨(ad.add (x.toNat*6)).block,(ad.add (x.toNat*6)).off+4,none⟩=some (.int .i64 a.f4)∧w'.cell? ⟨(ad.add (x.toNat*6)).block,(ad.add (x.toNat*6)).off+5,none⟩=some (.int .i64 a.f5)) (ds:=[10]) #[false,false,false,false,false,false,false,false,false,false,false] (by kernel_rfl) rfl rfl ⟨q2,q3,hx1,g0,g1,g2,g3,g4,g5⟩ (fun hHeld=> ?_);refine fN xT.tab xT.bits (fun HT_ HW_=> ?_)
     generalize W2.drew=wd at lm hHeld ⊢
     refine bP (i:=0) (N:=some 74) (v:= ?_) (a':= ?_) #[true,false,false,false,false,false,false,false,false,false,false] rfl rfl (bz HT_.out (by kernel_rfl)) (fun _ _ _ h=>h) (Or.inl ⟨by rfl, ?_⟩) ?_ ?_;rotate_left;intro w';go_simp;with_reducible rfl;rotate_left;simp only [Act.put,dg,dh,di,aY,a9];rfl
     refine bP (i:=2) (N:=some 76) (v:= ?_) (a':= ?_) #[true,false,true,false,false,false,false,false,false,false,false] rfl rfl (bz HT_.out (by kernel_rfl)) (fun _ _ _ h=>h) (Or.inl ⟨by rfl, ?_⟩) ?_ ?_;rotate_left;intro w';go_simp;with_reducible rfl;rotate_left;simp only [Act.put,dg,dh,di,aY,a9];rfl
     refine bP (i:=4) (N:=some 78) (v:= ?_) (a':= ?_) #[true,false,true,false,true,false,false,false,false,false,false] rfl rfl (bz HT_.out (by kernel_rfl)) (fun _ _ _ h=>h) (Or.inl ⟨by rfl, ?_⟩) ?_ ?_;rotate_left;intro w';go_simp;with_reducible rfl;rotate_left;simp only [Act.put,dg,dh,di,aY,a9];rfl
     refine eL (i:=1) (N:=some 75) (v:= ?_) (a':= ?_) #[true,true,true,false,true,false,false,false,false,false,false] rfl rfl (cO HT_.out HW_.out (by kernel_rfl)) (fun _ _ _ h=>h) (Or.inl ⟨by rfl, ?_⟩) hHeld ?_ ?_;rotate_left;rintro w' ⟨s0,s1,s2,s3,s4,s5,s6,s7,s8⟩;go_simp;with_reducible rfl;rotate_left;simp only [Act.put,dg,dh,di,aY,a9];rfl
     refine eL (i:=3) (N:=some 77) (v:= ?_) (a':= ?_) #[true,true,true,true,true,false,false,false,false,false,false] rfl rfl (cO HT_.out HW_.out (by kernel_rfl)) (fun _ _ _ h=>h) (Or.inl ⟨by rfl, ?_⟩) hHeld ?_ ?_;rotate_left;rintro w' ⟨s0,s1,s2,s3,s4,s5,s6,s7,s8⟩;go_simp;with_reducible rfl;rotate_left;simp only [Act.put,dg,dh,di,aY,a9];rfl
     refine bP (i:=5) (N:=some 79) (v:= ?_) (a':= ?_) #[true,true,true,true,true,true,false,false,false,false,false] rfl rfl (bz HT_.out (by kernel_rfl)) (fun _ _ _ h=>h) (Or.inl ⟨by rfl, ?_⟩) ?_ ?_;rotate_left;intro w';go_simp;with_reducible rfl;rotate_left;simp only [Act.put,dg,dh,di,aY,a9];rfl
     refine eL (i:=6) (N:=some 80) (v:= ?_) (a':= ?_) #[true,true,true,true,true,true,true,false,false,false,false] rfl rfl (cO HT_.out HW_.out (by kernel_rfl)) (fun _ _ _ h=>h) (Or.inl ⟨by rfl, ?_⟩) hHeld ?_ ?_;rotate_left;rintro w' ⟨s0,s1,s2,s3,s4,s5,s6,s7,s8⟩;go_simp;with_reducible rfl;rotate_left;simp only [Act.put,dg,dh,di,aY,a9];rfl
     refine bP (i:=7) (N:=some 81) (v:= ?_) (a':= ?_) #[true,true,true,true,true,true,true,true,false,false,false] rfl rfl (bz HT_.out (by kernel_rfl)) (fun _ _ _ h=>h) (Or.inl ⟨by rfl, ?_⟩) ?_ ?_;rotate_left;intro w';go_simp;with_reducible rfl;rotate_left;simp only [Act.put,dg,dh,di,aY,a9];rfl
     refine eL (i:=8) (N:=some 82) (v:= ?_) (a':= ?_) #[true,true,true,true,true,true,true,true,true,false,false] rfl rfl (cO HT_.out HW_.out (by kernel_rfl)) (fun _ _ _ h=>h) (Or.inl ⟨by rfl, ?_⟩) hHeld ?_ ?_;rotate_left;rintro w' ⟨s0,s1,s2,s3,s4,s5,s6,s7,s8⟩;go_simp;with_reducible rfl;rotate_left;simp only [Act.put,dg,dh,di,aY,a9];rfl
     refine iP (i:=9) (N:=some 8) #[true,true,true,true,true,true,true,true,true,true,false] rfl rfl (dZ HT_.out (by kernel_rfl)) (by decide) (fun K hK=> ?_)
     refine kL (w1:= ?_) (v:= ?_) (by rfl) rfl ?_ ?_;rotate_left 2;go_simp;constructor;rfl;rfl
     refine hK.out _ _ ⟨rF hHeld.1,rF hHeld.2.1,rF hHeld.2.2.1,rF hHeld.2.2.2.1,rF hHeld.2.2.2.2.1,rF hHeld.2.2.2.2.2.1,rF hHeld.2.2.2.2.2.2.1,rF hHeld.2.2.2.2.2.2.2.1,rF hHeld.2.2.2.2.2.2.2.2⟩ (fun hHeld=> ?_)
     clear hK K
     refine eM (a':= ?_) ?_ ?_;rotate_left;show Act.put _ (some 8) _=_;simp only [Act.put,dg,dh,di,aY,a9];rfl
     refine qz (i:=10) (N:=none) #[true,true,true,true,true,true,true,true,true,true,true] rfl rfl (dZ HT_.out (by kernel_rfl)) (by decide) (fun K hK=> ?_)
     refine oz (w1:= ?_) (by rfl) rfl ?_ ?_;rotate_left;go_simp;rfl
     refine hK.out _ _ ?_
     clear hK K
     refine j1 (gD HT_.out (by kernel_rfl)) ?_
     have HAP:=aa.mk (show AP w #[.int .i64 aI,.slice bh aD.length bi,.slice (some ad) au.length aW] #[.slice (some qg) bq.length dR,.slice (some DQ) bI.length dW] w.heap.size (w.heap.size+1) wd.heap.size #[.int .i64 a.f0,.int .i64 a.f1,.int .i64 a.f2,.int .i64 a.f3,.int .i64 a.f4,.int .i64 a.f5] (wd.alloc (.cells #[.int .i64 a.f0,.int .i64 a.f1,.int .i64 a.f2,.int .i64 a.f3,.int .i64 a.f4,.int .i64 a.f5] 36)) (.slice Aa i ca) (.slice Ab i cb) (oT au bq bI i) (pQ au bq bI i) [] from ⟨lm.out.alloc _,gC wd _,⟨fun e=>absurd (Kd.gq lm.out.ra _ e.symm) (Nat.lt_irrefl _),fun e=>absurd (Kd.gq lm.out.rb _ e.symm) (Nat.lt_irrefl _)⟩,fun x hx=>by simp at hx⟩)
     clear hHeld q2 q3 hx1 g0 g1 g2 g3 g4 g5
     generalize wd.alloc (.cells #[.int .i64 a.f0,.int .i64 a.f1,.int .i64 a.f2,.int .i64 a.f3,.int .i64 a.f4,.int .i64 a.f5] 36)=W4 at HAP ⊢
     generalize wd.heap.size=ga at HAP ⊢
     have d1:W4.cell? ⟨ga,1,none⟩=some (.int .i64 a.f1):=(ag HAP.out.ha 1).trans rfl
     have d2:W4.cell? ⟨ga,2,none⟩=some (.int .i64 a.f2):=(ag HAP.out.ha 2).trans rfl
     have q4b:W4.cell? ⟨w.heap.size+1,1,none⟩=some (.slice (some DQ) bI.length dW):=(ag HAP.out.cc.cb 1).trans rfl
     obtain ⟨ad2',e2',hx2'⟩:=Kd.dN (Kd.aN Hy.out HAP.out.cc.bel) (i:Int) (by omega) (by omega)
     injection e2' with e2'
     subst e2'
     rw [Int.toNat_natCast,show rd bI (i:Int)=bI.getD i 0 by unfold rd;rw [Int.toNat_natCast],HS.out] at hx2'
     clear lm q4 oQ
     go_wp2_with fail
     clear q4b hx2'
     refine ju (n:=12) (S:=fun w'=>w'.cell? ⟨ga,1,none⟩=some (.int .i64 a.f1)∧w'.cell? ⟨ga,2,none⟩=some (.int .i64 a.f2)) (ds:=[]) #[false,false,false,false,false,false,false,false,false,false,false,false] (by kernel_rfl) rfl rfl ⟨d1,d2⟩ (fun hHeld=> ?_);refine fN uW.tab uW.bits (fun HT_ HW_=> ?_)
     replace HAP:=aa.mk (HAP.out.drew);clear d1 d2;generalize W4.drew=oC at HAP hHeld ⊢
     refine bP (i:=0) (N:=some 99) (v:= ?_) (a':= ?_) #[true,false,false,false,false,false,false,false,false,false,false,false] rfl rfl (bz HT_.out (by kernel_rfl)) (fun _ _ _ h=>h) (Or.inl ⟨by rfl, ?_⟩) ?_ ?_;rotate_left;intro w';go_simp;with_reducible rfl;rotate_left;simp only [Act.put,dg,dh,di,aY,a9];rfl
     refine bP (i:=1) (N:=some 100) (v:= ?_) (a':= ?_) #[true,true,false,false,false,false,false,false,false,false,false,false] rfl rfl (bz HT_.out (by kernel_rfl)) (fun _ _ _ h=>h) (Or.inl ⟨by rfl, ?_⟩) ?_ ?_;rotate_left;intro w';go_simp;with_reducible rfl;rotate_left;simp only [Act.put,dg,dh,di,aY,a9];rfl
     refine bP (i:=5) (N:=some 104) (v:= ?_) (a':= ?_) #[true,true,false,false,false,true,false,false,false,false,false,false] rfl rfl (bz HT_.out (by kernel_rfl)) (fun _ _ _ h=>h) (Or.inl ⟨by rfl, ?_⟩) ?_ ?_;rotate_left;intro w';go_simp;with_reducible rfl;rotate_left;simp only [Act.put,dg,dh,di,aY,a9];rfl
     refine bP (i:=6) (N:=some 105) (v:= ?_) (a':= ?_) #[true,true,false,false,false,true,true,false,false,false,false,false] rfl rfl (bz HT_.out (by kernel_rfl)) (fun _ _ _ h=>h) (Or.inl ⟨by rfl, ?_⟩) ?_ ?_;rotate_left;intro w';go_simp;with_reducible rfl;rotate_left;simp only [Act.put,dg,dh,di,aY,a9];rfl
     refine eL (i:=2) (N:=some 101) (v:= ?_) (a':= ?_) #[true,true,true,false,false,true,true,false,false,false,false,false] rfl rfl (cO HT_.out HW_.out (by kernel_rfl)) (fun _ _ _ h=>h) (Or.inl ⟨by rfl, ?_⟩) hHeld ?_ ?_;rotate_left;rintro w' ⟨s0,s1⟩;go_simp;with_reducible rfl;rotate_left;simp only [Act.put,dg,dh,di,aY,a9];rfl
     refine eL (i:=7) (N:=some 106) (v:= ?_) (a':= ?_) #[true,true,true,false,false,true,true,true,false,false,false,false] rfl rfl (cO HT_.out HW_.out (by kernel_rfl)) (fun _ _ _ h=>h) (Or.inl ⟨by rfl, ?_⟩) hHeld ?_ ?_;rotate_left;rintro w' ⟨s0,s1⟩;go_simp;with_reducible rfl;rotate_left;simp only [Act.put,dg,dh,di,aY,a9];rfl
     refine Fm (i:=3) (j:=8) (Ni:=some 102) (Nj:=some 107) #[true,true,true,true,false,true,true,true,false,false,false,false] #[true,true,true,false,false,true,true,true,true,false,false,false] rfl rfl rfl rfl (ul HT_.out (by kernel_rfl)) (by decide) (by decide) (fun K hK=> ?_) (fun K hK=> ?_)
     ·skip
      refine kL (w1:= ?_) (v:= ?_) (by rfl) rfl ?_ ?_;rotate_left 2;go_simp;constructor;rfl;rfl
      replace HAP:=aa.mk (HAP.out.lit a.f2)
      generalize oC.alloc (.cells #[.int .i64 a.f2] 3)=qW at HAP ⊢
      refine hK.out _ _ ⟨(ag HAP.out.ha 1).trans rfl,(ag HAP.out.ha 2).trans rfl⟩ (fun hHeld=> ?_);clear hK K
      refine eM (a':= ?_) ?_ ?_;rotate_left;show Act.put _ (some 102) _=_;simp only [Act.put,dg,dh,di,aY,a9];rfl
      refine Fm (i:=4) (j:=8) (Ni:=some 103) (Nj:=some 107) #[true,true,true,true,true,true,true,true,false,false,false,false] #[true,true,true,true,false,true,true,true,true,false,false,false] rfl rfl rfl rfl (ul HT_.out (by kernel_rfl)) (by decide) (by decide) (fun K hK=> ?_) (fun K hK=> ?_)
      ·skip
       refine Kd.dE (Kd.int .i64) (Rr:=fun x cs=>cs=[.int .i64 x]) (w0:=w) w.heap.size (by rfl) (.tmp 99) (.tmp 102) 22 3 (.int .i64 0) 8 rfl Try.underlying22 info3 rfl (by decide) (by omega) (.slice Aa i ca) (oT au bq bI i) [a.f2] (some ⟨oC.heap.size,0,none⟩) 1 1 (fun k=>(k≠w.heap.size∧k≠w.heap.size+1)∧some k≠(Value.slice Ab i cb).ownBlock) (fun _=>False) rfl rfl HAP.out.cc.ra (HAP.out.vu (by simp)) ?aK (fun _ h=>h.elim) HAP.out.cc.qX HAP.out.cc.bel HAP.out.cc.bel.size ?aL ?_
       (case aK=>intro x cs h;subst h;rfl);(case aL=>rw [fj];omega)
       intro v_ yd jr kw nE nL;obtain ⟨Ac,cc,ev_⟩:=Kd.cA jr;rw [show (oT au bq bI i++[a.f2]).length=i+1 by simp [fj]] at ev_;subst ev_;replace HAP:=aa.mk (HAP.out.sD jr kw nE nL);clear jr kw nE nL
       refine hK.out _ _ ⟨(ag HAP.out.ha 1).trans rfl,(ag HAP.out.ha 2).trans rfl⟩ (fun hHeld=> ?_);clear hK K
       refine eM (a':= ?_) ?_ ?_;rotate_left;show Act.put _ (some 103) _=_;simp only [Act.put,dg,dh,di,aY,a9];rfl
       refine iP (i:=8) (N:=some 107) #[true,true,true,true,true,true,true,true,true,false,false,false] rfl rfl (dZ HT_.out (by kernel_rfl)) (by decide) (fun K hK=> ?_)
       refine kL (w1:= ?_) (v:= ?_) (by rfl) rfl ?_ ?_;rotate_left 2;go_simp;constructor;rfl;rfl
       replace HAP:=aa.mk (HAP.out.lit a.f1)
       generalize yd.alloc (.cells #[.int .i64 a.f1] 3)=rK at HAP ⊢
       refine hK.out _ _ ⟨(ag HAP.out.ha 1).trans rfl,(ag HAP.out.ha 2).trans rfl⟩ (fun hHeld=> ?_);clear hK K
       refine eM (a':= ?_) ?_ ?_;rotate_left;show Act.put _ (some 107) _=_;simp only [Act.put,dg,dh,di,aY,a9];rfl
       refine iP (i:=9) (N:=some 108) #[true,true,true,true,true,true,true,true,true,true,false,false] rfl rfl (dZ HT_.out (by kernel_rfl)) (by decide) (fun K hK=> ?_)
       refine Kd.dE (Kd.int .i64) (Rr:=fun x cs=>cs=[.int .i64 x]) (w0:=w) w.heap.size (by rfl) (.tmp 104) (.tmp 107) 22 3 (.int .i64 0) 8 rfl Try.underlying22 info3 rfl (by decide) (by omega) (.slice Ab i cb) (pQ au bq bI i) [a.f1] (some ⟨yd.heap.size,0,none⟩) 1 1 (fun k=>(k≠w.heap.size∧k≠w.heap.size+1)∧some k≠(Value.slice Ac (i+1) cc).ownBlock) (fun _=>False) rfl rfl HAP.out.cc.rb (HAP.out.vu (by simp)) ?aK (fun _ h=>h.elim) HAP.out.cc.lu HAP.out.cc.bel HAP.out.cc.bel.size ?aL ?_
       (case aK=>intro x cs h;subst h;rfl);(case aL=>rw [fW];omega)
       intro v_ Nx jr kw nE nL;obtain ⟨Ad,cd,ev_⟩:=Kd.cA jr;rw [show (pQ au bq bI i++[a.f1]).length=i+1 by simp [fW]] at ev_;subst ev_;replace HAP:=aa.mk (HAP.out.sE jr kw nE nL);clear jr kw nE nL
       refine hK.out _ _ ⟨(ag HAP.out.ha 1).trans rfl,(ag HAP.out.ha 2).trans rfl⟩ (fun hHeld=> ?_);clear hK K
       refine eM (a':= ?_) ?_ ?_;rotate_left;show Act.put _ (some 108) _=_;simp only [Act.put,dg,dh,di,aY,a9];rfl
       refine bP (i:=10) (N:=some 5) (v:= ?_) (a':= ?_) #[true,true,true,true,true,true,true,true,true,true,true,false] rfl rfl (bz HT_.out (by kernel_rfl)) (fun _ _ _ h=>h) (Or.inl ⟨by rfl, ?_⟩) ?_ ?_;rotate_left;intro w';go_simp;with_reducible rfl;rotate_left;simp only [Act.put,dg,dh,di,aY,a9];rfl
       refine bP (i:=11) (N:=some 6) (v:= ?_) (a':= ?_) #[true,true,true,true,true,true,true,true,true,true,true,true] rfl rfl (bz HT_.out (by kernel_rfl)) (fun _ _ _ h=>h) (Or.inl ⟨by rfl, ?_⟩) ?_ ?_;rotate_left;intro w';go_simp;with_reducible rfl;rotate_left;simp only [Act.put,dg,dh,di,aY,a9];rfl
       refine j1 (gD HT_.out (by kernel_rfl)) ?_
       go_wp2
       go_roundw
       case rel=>exact ⟨i+1,Ac,cc,Ad,cd,by omega,rfl,rfl,by go_num,⟨by rw [ny,nz,HX.out,HS.out,show oI au x (-1)=a.f2 by unfold oI;rw [HRD.out];rfl,show oJ au x (-1)=a.f1 by unfold oJ;rw [HRD.out];rfl];exact HAP.out.cc⟩,⟨fun j hj=>by
        rcases Nat.lt_succ_iff_lt_or_eq.1 hj with h|rfl
        ·exact HA.out j h
        exact HOKI.out⟩⟩
       case measure=>simp [intOf];omega
      skip
      refine kL (w1:= ?_) (v:= ?_) (by rfl) rfl ?_ ?_;rotate_left 2;go_simp;constructor;rfl;rfl
      replace HAP:=aa.mk (HAP.out.lit a.f1)
      generalize qW.alloc (.cells #[.int .i64 a.f1] 3)=yd at HAP ⊢
      refine hK.out _ _ ⟨(ag HAP.out.ha 1).trans rfl,(ag HAP.out.ha 2).trans rfl⟩ (fun hHeld=> ?_);clear hK K
      refine eM (a':= ?_) ?_ ?_;rotate_left;show Act.put _ (some 107) _=_;simp only [Act.put,dg,dh,di,aY,a9];rfl
      refine iP (i:=4) (N:=some 103) #[true,true,true,true,true,true,true,true,true,false,false,false] rfl rfl (dZ HT_.out (by kernel_rfl)) (by decide) (fun K hK=> ?_)
      refine Kd.dE (Kd.int .i64) (Rr:=fun x cs=>cs=[.int .i64 x]) (w0:=w) w.heap.size (by rfl) (.tmp 99) (.tmp 102) 22 3 (.int .i64 0) 8 rfl Try.underlying22 info3 rfl (by decide) (by omega) (.slice Aa i ca) (oT au bq bI i) [a.f2] (some ⟨oC.heap.size,0,none⟩) 1 1 (fun k=>(k≠w.heap.size∧k≠w.heap.size+1)∧some k≠(Value.slice Ab i cb).ownBlock) (fun _=>False) rfl rfl HAP.out.cc.ra (HAP.out.vu (by simp)) ?aK (fun _ h=>h.elim) HAP.out.cc.qX HAP.out.cc.bel HAP.out.cc.bel.size ?aL ?_
      (case aK=>intro x cs h;subst h;rfl);(case aL=>rw [fj];omega)
      intro v_ rK jr kw nE nL;obtain ⟨Ac,cc,ev_⟩:=Kd.cA jr;rw [show (oT au bq bI i++[a.f2]).length=i+1 by simp [fj]] at ev_;subst ev_;replace HAP:=aa.mk (HAP.out.sD jr kw nE nL);clear jr kw nE nL
      refine hK.out _ _ ⟨(ag HAP.out.ha 1).trans rfl,(ag HAP.out.ha 2).trans rfl⟩ (fun hHeld=> ?_);clear hK K
      refine eM (a':= ?_) ?_ ?_;rotate_left;show Act.put _ (some 103) _=_;simp only [Act.put,dg,dh,di,aY,a9];rfl
      refine iP (i:=9) (N:=some 108) #[true,true,true,true,true,true,true,true,true,true,false,false] rfl rfl (dZ HT_.out (by kernel_rfl)) (by decide) (fun K hK=> ?_)
      refine Kd.dE (Kd.int .i64) (Rr:=fun x cs=>cs=[.int .i64 x]) (w0:=w) w.heap.size (by rfl) (.tmp 104) (.tmp 107) 22 3 (.int .i64 0) 8 rfl Try.underlying22 info3 rfl (by decide) (by omega) (.slice Ab i cb) (pQ au bq bI i) [a.f1] (some ⟨qW.heap.size,0,none⟩) 1 1 (fun k=>(k≠w.heap.size∧k≠w.heap.size+1)∧some k≠(Value.slice Ac (i+1) cc).ownBlock) (fun _=>False) rfl rfl HAP.out.cc.rb (HAP.out.vu (by simp)) ?aK (fun _ h=>h.elim) HAP.out.cc.lu HAP.out.cc.bel HAP.out.cc.bel.size ?aL ?_
      (case aK=>intro x cs h;subst h;rfl);(case aL=>rw [fW];omega)
      intro v_ Nx jr kw nE nL;obtain ⟨Ad,cd,ev_⟩:=Kd.cA jr;rw [show (pQ au bq bI i++[a.f1]).length=i+1 by simp [fW]] at ev_;subst ev_;replace HAP:=aa.mk (HAP.out.sE jr kw nE nL);clear jr kw nE nL
      refine hK.out _ _ ⟨(ag HAP.out.ha 1).trans rfl,(ag HAP.out.ha 2).trans rfl⟩ (fun hHeld=> ?_);clear hK K
      refine eM (a':= ?_) ?_ ?_;rotate_left;show Act.put _ (some 108) _=_;simp only [Act.put,dg,dh,di,aY,a9];rfl
      refine bP (i:=10) (N:=some 5) (v:= ?_) (a':= ?_) #[true,true,true,true,true,true,true,true,true,true,true,false] rfl rfl (bz HT_.out (by kernel_rfl)) (fun _ _ _ h=>h) (Or.inl ⟨by rfl, ?_⟩) ?_ ?_;rotate_left;intro w';go_simp;with_reducible rfl;rotate_left;simp only [Act.put,dg,dh,di,aY,a9];rfl
      refine bP (i:=11) (N:=some 6) (v:= ?_) (a':= ?_) #[true,true,true,true,true,true,true,true,true,true,true,true] rfl rfl (bz HT_.out (by kernel_rfl)) (fun _ _ _ h=>h) (Or.inl ⟨by rfl, ?_⟩) ?_ ?_;rotate_left;intro w';go_simp;with_reducible rfl;rotate_left;simp only [Act.put,dg,dh,di,aY,a9];rfl
      refine j1 (gD HT_.out (by kernel_rfl)) ?_
      go_wp2
      go_roundw
      case rel=>exact ⟨i+1,Ac,cc,Ad,cd,by omega,rfl,rfl,by go_num,⟨by rw [ny,nz,HX.out,HS.out,show oI au x (-1)=a.f2 by unfold oI;rw [HRD.out];rfl,show oJ au x (-1)=a.f1 by unfold oJ;rw [HRD.out];rfl];exact HAP.out.cc⟩,⟨fun j hj=>by
       rcases Nat.lt_succ_iff_lt_or_eq.1 hj with h|rfl
       ·exact HA.out j h
       exact HOKI.out⟩⟩
      case measure=>simp [intOf];omega
     skip
     refine kL (w1:= ?_) (v:= ?_) (by rfl) rfl ?_ ?_;rotate_left 2;go_simp;constructor;rfl;rfl
     replace HAP:=aa.mk (HAP.out.lit a.f1)
     generalize oC.alloc (.cells #[.int .i64 a.f1] 3)=qW at HAP ⊢
     refine hK.out _ _ ⟨(ag HAP.out.ha 1).trans rfl,(ag HAP.out.ha 2).trans rfl⟩ (fun hHeld=> ?_);clear hK K
     refine eM (a':= ?_) ?_ ?_;rotate_left;show Act.put _ (some 107) _=_;simp only [Act.put,dg,dh,di,aY,a9];rfl
     refine iP (i:=3) (N:=some 102) #[true,true,true,true,false,true,true,true,true,false,false,false] rfl rfl (dZ HT_.out (by kernel_rfl)) (by decide) (fun K hK=> ?_)
     refine kL (w1:= ?_) (v:= ?_) (by rfl) rfl ?_ ?_;rotate_left 2;go_simp;constructor;rfl;rfl
     replace HAP:=aa.mk (HAP.out.lit a.f2)
     generalize qW.alloc (.cells #[.int .i64 a.f2] 3)=yd at HAP ⊢
     refine hK.out _ _ ⟨(ag HAP.out.ha 1).trans rfl,(ag HAP.out.ha 2).trans rfl⟩ (fun hHeld=> ?_);clear hK K
     refine eM (a':= ?_) ?_ ?_;rotate_left;show Act.put _ (some 102) _=_;simp only [Act.put,dg,dh,di,aY,a9];rfl
     refine iP (i:=4) (N:=some 103) #[true,true,true,true,true,true,true,true,true,false,false,false] rfl rfl (dZ HT_.out (by kernel_rfl)) (by decide) (fun K hK=> ?_)
     refine Kd.dE (Kd.int .i64) (Rr:=fun x cs=>cs=[.int .i64 x]) (w0:=w) w.heap.size (by rfl) (.tmp 99) (.tmp 102) 22 3 (.int .i64 0) 8 rfl Try.underlying22 info3 rfl (by decide) (by omega) (.slice Aa i ca) (oT au bq bI i) [a.f2] (some ⟨qW.heap.size,0,none⟩) 1 1 (fun k=>(k≠w.heap.size∧k≠w.heap.size+1)∧some k≠(Value.slice Ab i cb).ownBlock) (fun _=>False) rfl rfl HAP.out.cc.ra (HAP.out.vu (by simp)) ?aK (fun _ h=>h.elim) HAP.out.cc.qX HAP.out.cc.bel HAP.out.cc.bel.size ?aL ?_
     (case aK=>intro x cs h;subst h;rfl);(case aL=>rw [fj];omega)
     intro v_ rK jr kw nE nL;obtain ⟨Ac,cc,ev_⟩:=Kd.cA jr;rw [show (oT au bq bI i++[a.f2]).length=i+1 by simp [fj]] at ev_;subst ev_;replace HAP:=aa.mk (HAP.out.sD jr kw nE nL);clear jr kw nE nL
     refine hK.out _ _ ⟨(ag HAP.out.ha 1).trans rfl,(ag HAP.out.ha 2).trans rfl⟩ (fun hHeld=> ?_);clear hK K
     refine eM (a':= ?_) ?_ ?_;rotate_left;show Act.put _ (some 103) _=_;simp only [Act.put,dg,dh,di,aY,a9];rfl
     refine iP (i:=9) (N:=some 108) #[true,true,true,true,true,true,true,true,true,true,false,false] rfl rfl (dZ HT_.out (by kernel_rfl)) (by decide) (fun K hK=> ?_)
     refine Kd.dE (Kd.int .i64) (Rr:=fun x cs=>cs=[.int .i64 x]) (w0:=w) w.heap.size (by rfl) (.tmp 104) (.tmp 107) 22 3 (.int .i64 0) 8 rfl Try.underlying22 info3 rfl (by decide) (by omega) (.slice Ab i cb) (pQ au bq bI i) [a.f1] (some ⟨oC.heap.size,0,none⟩) 1 1 (fun k=>(k≠w.heap.size∧k≠w.heap.size+1)∧some k≠(Value.slice Ac (i+1) cc).ownBlock) (fun _=>False) rfl rfl HAP.out.cc.rb (HAP.out.vu (by simp)) ?aK (fun _ h=>h.elim) HAP.out.cc.lu HAP.out.cc.bel HAP.out.cc.bel.size ?aL ?_
     (case aK=>intro x cs h;subst h;rfl);(case aL=>rw [fW];omega)
     intro v_ Nx jr kw nE nL;obtain ⟨Ad,cd,ev_⟩:=Kd.cA jr;rw [show (pQ au bq bI i++[a.f1]).length=i+1 by simp [fW]] at ev_;subst ev_;replace HAP:=aa.mk (HAP.out.sE jr kw nE nL);clear jr kw nE nL
     refine hK.out _ _ ⟨(ag HAP.out.ha 1).trans rfl,(ag HAP.out.ha 2).trans rfl⟩ (fun hHeld=> ?_);clear hK K
     refine eM (a':= ?_) ?_ ?_;rotate_left;show Act.put _ (some 108) _=_;simp only [Act.put,dg,dh,di,aY,a9];rfl
     refine bP (i:=10) (N:=some 5) (v:= ?_) (a':= ?_) #[true,true,true,true,true,true,true,true,true,true,true,false] rfl rfl (bz HT_.out (by kernel_rfl)) (fun _ _ _ h=>h) (Or.inl ⟨by rfl, ?_⟩) ?_ ?_;rotate_left;intro w';go_simp;with_reducible rfl;rotate_left;simp only [Act.put,dg,dh,di,aY,a9];rfl
     refine bP (i:=11) (N:=some 6) (v:= ?_) (a':= ?_) #[true,true,true,true,true,true,true,true,true,true,true,true] rfl rfl (bz HT_.out (by kernel_rfl)) (fun _ _ _ h=>h) (Or.inl ⟨by rfl, ?_⟩) ?_ ?_;rotate_left;intro w';go_simp;with_reducible rfl;rotate_left;simp only [Act.put,dg,dh,di,aY,a9];rfl
     refine j1 (gD HT_.out (by kernel_rfl)) ?_
     go_wp2
     go_roundw
     case rel=>exact ⟨i+1,Ac,cc,Ad,cd,by omega,rfl,rfl,by go_num,⟨by rw [ny,nz,HX.out,HS.out,show oI au x (-1)=a.f2 by unfold oI;rw [HRD.out];rfl,show oJ au x (-1)=a.f1 by unfold oJ;rw [HRD.out];rfl];exact HAP.out.cc⟩,⟨fun j hj=>by
      rcases Nat.lt_succ_iff_lt_or_eq.1 hj with h|rfl
      ·exact HA.out j h
      exact HOKI.out⟩⟩
     case measure=>simp [intOf];omega
   obtain rfl:i=bq.length:=by omega
   have Hz:bq.length≤512:=by
    have h1:=rS hi HA.out
    have h2:au.length≤512:=by have:=HOK.out;simp [fD] at this;omega
    omega
   have hlst:=fj au bq bI bq.length
   have hlen:=fW au bq bI bq.length
   have hrot:∀ j,j<bq.length→qI (oT au bq bI bq.length) (pQ au bq bI bq.length) j=false→jY aI aD.length au bq bI=false:=fun j hj h=>Bt hj h
   have hall:(∀ j,j<bq.length→qI (oT au bq bI bq.length) (pQ au bq bI bq.length) j=true)→jY aI aD.length au bq bI=true:=fun h=>uy HOK.out I0 HLE.out HA.out h
   generalize oT au bq bI bq.length=st at*
   generalize pQ au bq bI bq.length=en at*
   have HROT:=aa.mk hrot
   have HALL:=aa.mk hall
   have HST:=aa.mk hlst
   have HEN:=aa.mk hlen
   clear hrot hall hlst hlen HA hi hlt q2 q4
   obtain ⟨wo,ewo⟩:∃ wo:World,wo=wr:=⟨_,rfl⟩
   subst ewo
   go_wp2
   clear q3
   go_loopw [9] (fun C0 W=>∃ i:Nat,i≤bq.length∧C0= .int .i64 i∧aa (CC w #[.int .i64 aI,.slice bh aD.length bi,.slice bu au.length aW] #[.slice ee bq.length dR,.slice ed bI.length dW] w.heap.size (w.heap.size+1) W (.slice Aa bq.length ca) (.slice Ab bq.length cb) st en)∧aa (∀ j,j<i→qI st en j=true)) (fun C0 _=>bq.length - (intOf C0).toNat)
   case atStart=>exact ⟨0,Nat.zero_le _,rfl,HCC,⟨fun j hj=>absurd hj (Nat.not_lt_zero _)⟩⟩
   case round=>
    clear HCC
    obtain ⟨i,hi,rfl,HCC,HA⟩:=hrel
    obtain ⟨Zh,hca,hCa⟩:=Kd.bf HCC.out.ra
    obtain ⟨Zi,hcb,hCb⟩:=Kd.bf HCC.out.rb
    clear Zh Zi
    rw [HST.out] at hCa
    rw [HEN.out] at hCb
    have HRA:=aa.mk hCa
    have HRB:=aa.mk hCb
    clear hCa hCb
    by_cases hlt:i<bq.length
    ·have hm0:(i+1) % bq.length<bq.length:=Nat.mod_lt _ (by omega)
     obtain ⟨qg,e1,hx1⟩:=Kd.dN HRA.out (i:Int) (by omega) (by omega)
     cases e1
     obtain ⟨ad3,e3,Zy⟩:=Kd.dN HRA.out (((i+1) % bq.length:Nat):Int) (by omega) (by omega)
     injection e3 with e3
     subst e3
     obtain ⟨DQ,e2,oQ⟩:=Kd.dN HRB.out (i:Int) (by omega) (by omega)
     cases e2
     rw [Int.toNat_natCast,show ∀ (l:List Int) (k:Nat),rd l (k:Int)=l.getD k 0 from fun l k=>by unfold rd;rw [Int.toNat_natCast]] at hx1 oQ Zy
     have hmod:Int.tmod ((i:Int)+1) (bq.length:Int)=(((i+1) % bq.length:Nat):Int):=by
      rw [show ((i:Int)+1)=((i+1:Nat):Int) by omega]
      rfl
     have HM:=aa.mk hm0
     have HMD:=aa.mk hmod
     generalize hmm:(i+1) % bq.length=m at*
     have HMM:=aa.mk hmm
     clear hmm
     generalize hx:st.getD i 0=x at hx1
     have HX:=aa.mk hx
     clear hx
     generalize hz:st.getD m 0=z at Zy
     have HZ:=aa.mk hz
     clear hz
     generalize hy:en.getD i 0=y at oQ
     have HY:=aa.mk hy
     clear hy
     have HTK:aa (∀ n,Calls Try.prog 96 #[.slice (some qg) i ca,.int .i64 x] (wr.drewN n) fun e w'=>e= .returned (.bool ((st.take i).contains x))∧∃ m,w'=(wr.drewN n).drewN m):=⟨fun n=>Hs (some qg) ca st x i _ (by rw [HST.out];omega) (by rw [HST.out];exact Kd.aU HRA.out n) (by rw [HST.out];exact hca)⟩
     have hicb:i≤ca:=by omega
     have O8:IntKind.i64.wrap ((i:Int)+1)=(i:Int)+1:=IntWalk.i64_in _ (by omega)
     have hw3:IntKind.i64.wrap (m:Int)=(m:Int):=IntWalk.i64_in _ (by omega)
     have hz0:¬(bq.length:Int)=0:=by omega
     generalize hct:(st.take i).contains x=ct at HTK
     have HCT:=aa.mk hct
     clear hct
     have hrb:qI st en i=(!ct&&(z==y)):=by unfold qI;rw [HST.out,HMM.out,HX.out,HZ.out,HY.out,HCT.out]
     have Ov:=aa.mk hrb
     clear hrb
     by_cases hzy:z=y
     ·have FN:(z==y)=true:=beq_iff_eq.2 hzy
      have NE:(z !=y)=false:=by rw [bne_eq_false_iff_eq];exact hzy
      clear hzy
      cases ct with
      |true=>
       have hres:=HROT.out i hlt (by rw [Ov.out];rfl)
       have HRES:=aa.mk hres
       clear hres
       go_wp2_with fail
       go_quiet ((go_at_call 96;exact Calls.quiet_of (HTK.out _)))
       go_wp2
       go_ret
       rw [HRES.out]
       exact ⟨rfl,ab HCC.out.bel _⟩
      |false=>
       have Z1:=aa.mk (show qI st en i=true by rw [Ov.out,FN];rfl)
       go_wp2_with fail
       go_quiet ((go_at_call 96;exact Calls.quiet_of (HTK.out _)))
       go_wp2
       go_roundw
       case rel=>exact ⟨i+1,by omega,by go_num,⟨HCC.out.drewN _⟩,⟨fun j hj=>by
        rcases Nat.lt_succ_iff_lt_or_eq.1 hj with h|rfl
        ·exact HA.out j h
        exact Z1.out⟩⟩
       case measure=>simp [intOf];omega
     have FN:(z==y)=false:=beq_eq_false_iff_ne.2 hzy
     have NE:(z !=y)=true:=bne_iff_ne.2 hzy
     have hres:=HROT.out i hlt (by rw [Ov.out,FN,Bool.and_false])
     have HRES:=aa.mk hres
     clear hres hzy
     go_wp2_with fail
     go_quiet ((go_at_call 96;exact Calls.quiet_of (HTK.out _)))
     go_wp2
     go_ret
     rw [HRES.out]
     exact ⟨rfl,ab HCC.out.bel _⟩
    obtain rfl:i=bq.length:=by omega
    have hres:=HALL.out HA.out
    have HRES:=aa.mk hres
    clear hres
    go_wp2
    go_ret
    rw [HRES.out]
    exact ⟨rfl,HCC.out.bel⟩
end Go.Proofs.Ytbkjplomoegbdaa.PB
