/- Parts of the proof of CyclesSums, gathered by a program of this claim out of texts that it or the kit's print wrote: lemmas alone, no condition of their own. -/
import Derived.Test.YtbkjplomoegbdaaCcs8
import Derived.Test.YtbkjplomoegbdaaCcs6
import Derived.Test.YtbkjplomoegbdaaCcs4
section
namespace Go.Proofs.Ytbkjplomoegbdaa.PB
open Go.RowKit Go.Proofs.YtbkjplomoegbdaaW.bO Go.Proofs.YtbkjplomoegbdaaW.dA Go.Proofs.YtbkjplomoegbdaaW.dG
set_option linter.unusedVariables false
set_option linter.unusedSimpArgs false
def oI (acts:List eu) (k s:Int):Int:=if s<0 then (acts.getD k.toNat jW).f2 else (acts.getD k.toNat jW).f1
def oJ (acts:List eu) (k s:Int):Int:=if s<0 then (acts.getD k.toNat jW).f1 else (acts.getD k.toNat jW).f2
def jc (acts:List eu) (arcs signs:List Int) (i:Nat):Bool:=decide (0≤arcs.getD i 0)&&decide (arcs.getD i 0<acts.length)&& !(arcs.take i).contains (arcs.getD i 0)&&(signs.getD i 0==1||signs.getD i 0== -1)
def oT (acts:List eu) (arcs signs:List Int) (n:Nat):List Int:=(List.range n).map fun j=>oI acts (arcs.getD j 0) (signs.getD j 0)
def pQ (acts:List eu) (arcs signs:List Int) (n:Nat):List Int:=(List.range n).map fun j=>oJ acts (arcs.getD j 0) (signs.getD j 0)
def qI (st en:List Int) (i:Nat):Bool:= !(st.take i).contains (st.getD i 0)&&(st.getD ((i+1) % st.length) 0==en.getD i 0)
def jY (per:Int) (n:Nat) (acts:List eu) (arcs signs:List Int):Bool:=
 fD per n acts&&decide (2≤arcs.length)&&decide (arcs.length=signs.length)&&(List.range arcs.length).all (jc acts arcs signs)&&(List.range arcs.length).all (qI (oT acts arcs signs arcs.length) (pQ acts arcs signs arcs.length))
theorem fj (acts:List eu) (arcs signs:List Int) (n:Nat):(oT acts arcs signs n).length=n:=by simp [oT]
theorem fW (acts:List eu) (arcs signs:List Int) (n:Nat):(pQ acts arcs signs n).length=n:=by simp [pQ]
theorem ny (acts:List eu) (arcs signs:List Int) (n:Nat):oT acts arcs signs (n+1)=oT acts arcs signs n++[oI acts (arcs.getD n 0) (signs.getD n 0)]:=by simp [oT,List.range_succ]
theorem nz (acts:List eu) (arcs signs:List Int) (n:Nat):pQ acts arcs signs (n+1)=pQ acts arcs signs n++[oJ acts (arcs.getD n 0) (signs.getD n 0)]:=by simp [pQ,List.range_succ]
theorem oK {per:Int} {n:Nat} {acts:List eu} {arcs signs:List Int} {i:Nat} (hi:i<arcs.length) (h:jc acts arcs signs i=false):jY per n acts arcs signs=false:=by
 have:(List.range arcs.length).all (jc acts arcs signs)=false:=by
  rw [List.all_eq_false]
  exact ⟨i,List.mem_range.2 hi,by rw [h];simp⟩
 unfold jY
 rw [this]
 simp
theorem Bt {per:Int} {n:Nat} {acts:List eu} {arcs signs:List Int} {i:Nat} (hi:i<arcs.length) (h:qI (oT acts arcs signs arcs.length) (pQ acts arcs signs arcs.length) i=false):jY per n acts arcs signs=false:=by
 have:(List.range arcs.length).all (qI (oT acts arcs signs arcs.length) (pQ acts arcs signs arcs.length))=false:=by
  rw [List.all_eq_false]
  exact ⟨i,List.mem_range.2 hi,by rw [h];simp⟩
 unfold jY
 rw [this]
 simp
theorem uy {per:Int} {n:Nat} {acts:List eu} {arcs signs:List Int} (h0:fD per n acts=true) (h1:2≤arcs.length) (h2:arcs.length=signs.length) (h3:∀ i,i<arcs.length→jc acts arcs signs i=true)
  (h4:∀ i,i<arcs.length→qI (oT acts arcs signs arcs.length) (pQ acts arcs signs arcs.length) i=true):jY per n acts arcs signs=true:=by
 have e3:(List.range arcs.length).all (jc acts arcs signs)=true:=by
  rw [List.all_eq_true];exact fun i hi=>h3 i (List.mem_range.1 hi)
 have e4:(List.range arcs.length).all (qI (oT acts arcs signs arcs.length) (pQ acts arcs signs arcs.length))=true:=by
  rw [List.all_eq_true];exact fun i hi=>h4 i (List.mem_range.1 hi)
 unfold jY
 rw [h0,e3,e4,decide_eq_true h1,decide_eq_true h2]
 rfl
theorem wW:∀ (m:Nat) (l:List Nat),l.Nodup→(∀ x ∈ l,x<m)→l.length≤m
 |0,l,_,h=>by
  cases l with
  |nil=>simp
  |cons x l=>exact absurd (h x (by simp)) (Nat.not_lt_zero _)
 |m+1,l,hn,h=>by
  have ih:=wW m (l.erase m) (hn.erase m) (fun x hx=>by
   have h1:=(hn.mem_erase_iff).1 hx
   have:=h x h1.2
   omega)
  by_cases hm:m ∈ l
  ·rw [List.length_erase_of_mem hm] at ih;omega
  rw [List.erase_of_not_mem hm] at ih;omega
theorem rS {acts:List eu} {arcs signs:List Int}:∀ {i:Nat},i≤arcs.length→(∀ j,j<i→jc acts arcs signs j=true)→i≤acts.length:=by
 intro i hi h
 have key:∀ i,i≤arcs.length→(∀ j,j<i→jc acts arcs signs j=true)→((arcs.take i).map Int.toNat).Nodup∧∀ x ∈ arcs.take i,0≤x∧x<acts.length:=by
  intro i
  induction i with
  |zero=>intro _ _;simp
  |succ i ih=>
   intro hi h
   obtain ⟨h1,h2⟩:=ih (by omega) (fun j hj=>h j (by omega))
   have h3:=h i (by omega)
   simp only [jc,Bool.and_eq_true,decide_eq_true_eq,Bool.not_eq_true',List.contains_eq_mem,decide_eq_false_iff_not] at h3
   obtain ⟨⟨⟨a1,a2⟩,a3⟩,_⟩:=h3
   have e:arcs.take (i+1)=arcs.take i++[arcs.getD i 0]:=by
    rw [List.take_succ_eq_append_getElem (by omega)]
    simp [List.getD_eq_getElem?_getD,show i<arcs.length by omega]
   rw [e,List.map_append]
   refine ⟨?_, ?_⟩
   ·rw [List.nodup_append]
    refine ⟨h1,by simp, ?_⟩
    intro y hy z hz
    obtain ⟨u,hu,rfl⟩:=List.mem_map.1 hy
    simp only [List.map_cons,List.map_nil,List.mem_singleton] at hz
    subst hz
    intro eq
    have:=h2 u hu
    have:u=arcs.getD i 0:=by omega
    exact a3 (this ▸ hu)
   intro y hy
   rcases List.mem_append.1 hy with h|h
   ·exact h2 y h
   rw [List.mem_singleton.1 h];exact ⟨a1,a2⟩
 obtain ⟨h1,h2⟩:=key i hi h
 have:=wW acts.length _ h1 (fun x hx=>by
  obtain ⟨u,hu,rfl⟩:=List.mem_map.1 hx
  have:=h2 u hu
  omega)
 rw [List.length_map,List.length_take] at this
 omega
structure CC (w0:World) (cs cs':Array Value) (bn bc:Nat) (W:World) (va vb:Value) (st en:List Int):Prop where
 nb:W.heap[bn]? =some (.cells cs 26 (0,0))
 cb:W.heap[bc]? =some (.cells cs' 41 (0,0))
 ra:Kd.R (Kd.int .i64) 3 W w0.heap.size (fun k=>(k≠bn∧k≠bc)∧some k≠vb.ownBlock) va st
 rb:Kd.R (Kd.int .i64) 3 W w0.heap.size (fun k=>(k≠bn∧k≠bc)∧some k≠va.ownBlock) vb en
 bel:Below w0.heap.size w0 W
namespace CC
variable {w0:World} {cs cs':Array Value} {bn bc:Nat} {W W' w1:World} {va vb v1:Value} {st en:List Int}
theorem below (h:CC w0 cs cs' bn bc W va vb st en) (hb:Below W.heap.size W W'):CC w0 cs cs' bn bc W' va vb st en:=⟨aH h.nb hb,aH h.cb hb,Kd.aZ h.ra hb,Kd.aZ h.rb hb,aE h.bel hb⟩
theorem drewN (h:CC w0 cs cs' bn bc W va vb st en) (m:Nat):CC w0 cs cs' bn bc (W.drewN m) va vb st en:=h.below (ab (Below.refl _ _) m)
theorem alloc (h:CC w0 cs cs' bn bc W va vb st en) (o:Obj):CC w0 cs cs' bn bc (W.alloc o) va vb st en:=h.below (ae (Below.refl _ _) o)
theorem qX (h:CC w0 cs cs' bn bc W va vb st en):∀ k,W.heap.size≤k→(k≠bn∧k≠bc)∧some k≠vb.ownBlock:=fun k hk=>⟨⟨by have:=cn h.nb;omega,by have:=cn h.cb;omega⟩,fun e=>by have:=Kd.gq h.rb k e.symm;omega⟩
theorem lu (h:CC w0 cs cs' bn bc W va vb st en):∀ k,W.heap.size≤k→(k≠bn∧k≠bc)∧some k≠va.ownBlock:=fun k hk=>⟨⟨by have:=cn h.nb;omega,by have:=cn h.cb;omega⟩,fun e=>by have:=Kd.gq h.ra k e.symm;omega⟩
theorem sD (h:CC w0 cs cs' bn bc W va vb st en) {xs:List Int} (ho:Kd.R (Kd.int .i64) 3 w1 w0.heap.size (fun k=>(k≠bn∧k≠bc)∧some k≠vb.ownBlock) v1 xs) (hb:Below w0.heap.size w0 w1) (hg:W.grownBy w1 va.ownBlock) (hat:v1.ownBlock=va.ownBlock∨∃ b,v1.ownBlock=some b∧W.heap.size≤b):CC w0 cs cs' bn bc w1 v1 vb xs en:=
 ⟨dq h.nb hg (fun e=>(h.ra.1 bn e.symm).1.1 rfl),dq h.cb hg (fun e=>(h.ra.1 bc e.symm).1.2 rfl),ho,Kd.il h.rb hg hat,hb⟩
theorem sE (h:CC w0 cs cs' bn bc W va vb st en) {xs:List Int} (ho:Kd.R (Kd.int .i64) 3 w1 w0.heap.size (fun k=>(k≠bn∧k≠bc)∧some k≠va.ownBlock) v1 xs) (hb:Below w0.heap.size w0 w1) (hg:W.grownBy w1 vb.ownBlock) (hat:v1.ownBlock=vb.ownBlock∨∃ b,v1.ownBlock=some b∧W.heap.size≤b):CC w0 cs cs' bn bc w1 va v1 st xs:=
 ⟨dq h.nb hg (fun e=>(h.rb.1 bn e.symm).1.1 rfl),dq h.cb hg (fun e=>(h.rb.1 bc e.symm).1.2 rfl),Kd.il h.ra hg hat,ho,hb⟩
end CC
def ei.f (aI:Int) (aD:List (hO)) (au:List (eu)) (bq bI:List Int):Option (Bool):=some (jY aI aD.length au bq bI)
set_option maxHeartbeats 4000000 in
set_option maxRecDepth 100000 in
theorem ei.calls (aI:Int) (bh:Option Addr) (bi:Nat) (aD:List (hO)) (bu:Option Addr) (aW:Nat) (au:List (eu)) (ee:Option Addr) (dR:Nat) (bq:List Int) (ed:Option Addr) (dW:Nat) (bI:List Int) (r:Bool) (w:World) (eI:Kd.C oS w bh aD.length aD) (eS:aD.length≤bi) (eC:Kd.C nD w bu au.length au) (eT:au.length≤aW) (nJ:Kd.C (Kd.int .i64) w ee bq.length bq) (qB:bq.length≤dR) (nK:Kd.C (Kd.int .i64) w ed bI.length bI) (o3:bI.length≤dW) (h:ei.f aI aD au bq bI=some r):
  Calls Try.prog 41 #[.agg #[.int .i64 aI,.slice bh aD.length bi,.slice bu au.length aW],.agg #[.slice ee bq.length dR,.slice ed bI.length dW]] w fun e w'=>e= .returned (.bool r)∧Below w.heap.size w w':=by
 obtain rfl:=Option.some.inj h
 clear h
 have nu:=Try.underlying26
 have Bu:=Try.underlying41
 have sj:=Try.underlying36
 have sK:=aa.mk eI
 have nw:=aa.mk eC
 have Hx:=aa.mk nJ
 have Hy:=aa.mk nK
 have sL:=aa.mk eS
 have sM:=aa.mk eT
 have Ze:=aa.mk o3
 have m1:=Kd.jZ eI
 have m2:=Kd.jZ eC
 have m3:=Kd.jZ nJ
 have m4:=Kd.jZ nK
 clear eI eC eS eT nJ nK o3
 have uz:=aa.mk (show Below w.heap.size w ((w.alloc (.cells #[.int .i64 aI,.slice bh aD.length bi,.slice bu au.length aW] 26)).alloc (.cells #[.slice ee bq.length dR,.slice ed bI.length dW] 41)) from ae (ae (Below.refl _ _) _) _)
 have FM:=aa.mk (aj (gC w (.cells #[.int .i64 aI,.slice bh aD.length bi,.slice bu au.length aW] 26)) (.cells #[.slice ee bq.length dR,.slice ed bI.length dW] 41))
 have tC:aa (((w.alloc (.cells #[.int .i64 aI,.slice bh aD.length bi,.slice bu au.length aW] 26)).alloc (.cells #[.slice ee bq.length dR,.slice ed bI.length dW] 41)).heap[w.heap.size+1]? =some (.cells #[.slice ee bq.length dR,.slice ed bI.length dW] 41 (0,0))):=⟨by have h:=gC (w.alloc (.cells #[.int .i64 aI,.slice bh aD.length bi,.slice bu au.length aW] 26)) (.cells #[.slice ee bq.length dR,.slice ed bI.length dW] 41);rwa [show (w.alloc (.cells #[.int .i64 aI,.slice bh aD.length bi,.slice bu au.length aW] 26)).heap.size=w.heap.size+1 by simp] at h⟩
 cases hok:fD aI aD.length au with
 |false=>
  have hres:jY aI aD.length au bq bI=false:=by simp [jY,hok]
  have HRES:=aa.mk hres
  have HOK:=aa.mk hok
  clear hres hok
  go_enter Try.func41,Try.ntmps41
  go_wp2_with (go_at_call 92;refine (fg.calls aI bh bi aD bu aW au false _ ?h1 sL.out ?h2 sM.out (by simp [fg.f,HOK.out])).mono ?_;(case h1=>exact Kd.aN sK.out uz.out);(case h2=>exact Kd.aN nw.out uz.out);rintro e w' ⟨rfl,hb⟩)
  go_ret
  rw [HRES.out]
  exact ⟨rfl,aE uz.out hb⟩
 |true=>
  have HOK:=aa.mk hok
  clear hok
  by_cases hlen:2≤bq.length∧bq.length=bI.length
  case neg=>
   have hres:jY aI aD.length au bq bI=false:=by
    unfold jY
    have:(decide (2≤bq.length)&&decide (bq.length=bI.length))=false:=by
     rw [Bool.and_eq_false_iff,decide_eq_false_iff_not,decide_eq_false_iff_not];omega
    rw [HOK.out,Bool.true_and,this]
    simp
   have HRES:=aa.mk hres
   clear hres
   by_cases h2:bq.length<2
   ·clear hlen
    go_enter Try.func41,Try.ntmps41
    go_wp2_with (go_at_call 92;refine (fg.calls aI bh bi aD bu aW au true _ ?h1 sL.out ?h2 sM.out (by simp [fg.f,HOK.out])).mono ?_;(case h1=>exact Kd.aN sK.out uz.out);(case h2=>exact Kd.aN nw.out uz.out);rintro e w1 ⟨rfl,hb⟩;have q0:=(ag (aH tC.out hb) 0).trans rfl;have q1:=(ag (aH tC.out hb) 1).trans rfl;have ux:=aa.mk (aE uz.out hb);have yX:=aa.mk (aH FM.out hb);have pK:=aa.mk (aH tC.out hb);clear hb)
    go_ret
    rw [HRES.out]
    exact ⟨rfl,ux.out⟩
   have h3:¬bq.length=bI.length:=fun e=>hlen ⟨by omega,e⟩
   have h3a:((bq.length:Int) !=(bI.length:Int))=true:=by rw [bne_iff_ne];omega
   have h3b:(bq.length !=bI.length)=true:=by rw [bne_iff_ne];omega
   clear hlen h3
   go_enter Try.func41,Try.ntmps41
   go_wp2_with (go_at_call 92;refine (fg.calls aI bh bi aD bu aW au true _ ?h1 sL.out ?h2 sM.out (by simp [fg.f,HOK.out])).mono ?_;(case h1=>exact Kd.aN sK.out uz.out);(case h2=>exact Kd.aN nw.out uz.out);rintro e w1 ⟨rfl,hb⟩;have q0:=(ag (aH tC.out hb) 0).trans rfl;have q1:=(ag (aH tC.out hb) 1).trans rfl;have ux:=aa.mk (aE uz.out hb);have yX:=aa.mk (aH FM.out hb);have pK:=aa.mk (aH tC.out hb);clear hb)
   go_ret
   rw [HRES.out]
   exact ⟨rfl,ux.out⟩
  obtain ⟨I0,hle⟩:=hlen
  have hl3:¬bq.length<2:=by omega
  have HLE:=aa.mk hle
  have h3a:((bq.length:Int) !=(bI.length:Int))=false:=by rw [bne_eq_false_iff_eq];omega
  have h3b:(bq.length !=bI.length)=false:=by rw [bne_eq_false_iff_eq];omega
  clear hle
  go_enter Try.func41,Try.ntmps41
  go_wp2_with (go_at_call 92;refine (fg.calls aI bh bi aD bu aW au true _ ?h1 sL.out ?h2 sM.out (by simp [fg.f,HOK.out])).mono ?_;(case h1=>exact Kd.aN sK.out uz.out);(case h2=>exact Kd.aN nw.out uz.out);rintro e w1 ⟨rfl,hb⟩;have q0:=(ag (aH tC.out hb) 0).trans rfl;have q1:=(ag (aH tC.out hb) 1).trans rfl;have ux:=aa.mk (aE uz.out hb);have yX:=aa.mk (aH FM.out hb);have pK:=aa.mk (aH tC.out hb);clear hb)
  have hCC:CC w #[.int .i64 aI,.slice bh aD.length bi,.slice bu au.length aW] #[.slice ee bq.length dR,.slice ed bI.length dW] w.heap.size (w.heap.size+1) w1 (.slice none 0 0) (.slice none 0 0) (oT au bq bI 0) (pQ au bq bI 0):=⟨yX.out,pK.out,Kd.jE _ _ _ _ _,Kd.jE _ _ _ _ _,ux.out⟩
  have HCC:=aa.mk hCC
  clear hCC yX pK ux FM tC uz q0 q1
  go_loopw [5,6,33] (fun v5 v6 NC W=>∃ (i:Nat) (Aa:Option Addr) (ca:Nat) (Ab:Option Addr) (cb:Nat),i≤bq.length∧v5= .slice Aa i ca∧v6= .slice Ab i cb∧NC= .int .i64 i∧aa (CC w #[.int .i64 aI,.slice bh aD.length bi,.slice bu au.length aW] #[.slice ee bq.length dR,.slice ed bI.length dW] w.heap.size (w.heap.size+1) W (.slice Aa i ca) (.slice Ab i cb) (oT au bq bI i) (pQ au bq bI i))∧aa (∀ j,j<i→jc au bq bI j=true)) (fun _ _ NC _=>bq.length - (intOf NC).toNat)
  case atStart=>exact ⟨0,none,0,none,0,Nat.zero_le _,rfl,rfl,rfl,HCC,⟨fun j hj=>absurd hj (Nat.not_lt_zero _)⟩⟩
  case round=>
   clear HCC
   obtain ⟨i,Aa,ca,Ab,cb,hi,rfl,rfl,rfl,HCC,HA⟩:=hrel
   have q2:wr.cell? ⟨w.heap.size,2,none⟩=some (.slice bu au.length aW):=(ag HCC.out.nb 2).trans rfl
   have q3:wr.cell? ⟨w.heap.size+1,0,none⟩=some (.slice ee bq.length dR):=(ag HCC.out.cb 0).trans rfl
   have q4:wr.cell? ⟨w.heap.size+1,1,none⟩=some (.slice ed bI.length dW):=(ag HCC.out.cb 1).trans rfl
   by_cases hlt:i<bq.length
   ·have Zf:i<bI.length:=by rw [← HLE.out];exact hlt
    obtain ⟨qg,e1,hx1⟩:=Kd.dN (Kd.aN Hx.out HCC.out.bel) (i:Int) (by omega) (by omega)
    cases e1
    obtain ⟨DQ,e2,oQ⟩:=Kd.dN (Kd.aN Hy.out HCC.out.bel) (i:Int) (by omega) (by omega)
    cases e2
    rw [Int.toNat_natCast] at hx1 oQ
    have hxe:rd bq (i:Int)=bq.getD i 0:=by unfold rd;rw [Int.toNat_natCast]
    have hse:rd bI (i:Int)=bI.getD i 0:=by unfold rd;rw [Int.toNat_natCast]
    rw [hxe] at hx1
    rw [hse] at oQ
    generalize hx:bq.getD i 0=x at hx1
    generalize hs:bI.getD i 0=s at oQ
    have HX:=aa.mk hx
    have HS:=aa.mk hs
    clear hx hs hxe hse
    have HTK:aa (∀ W,Below w.heap.size w W→Calls Try.prog 89 #[.slice (some qg) i dR,.int .i64 x] W fun e w'=>e= .returned (.bool ((bq.take i).contains x))∧∃ m,w'=W.drewN m):=⟨fun W hb=>Hr (some qg) dR bq x i W (by omega) (Kd.aN Hx.out hb) qB⟩
    by_cases oA:x<0
    ·have hres:jY aI aD.length au bq bI=false:=oK hlt (by unfold jc;rw [HX.out,decide_eq_false (show ¬0≤x by omega)];simp)
     have HRES:=aa.mk hres
     clear hres
     go_wp2
     go_ret
     rw [HRES.out]
     exact ⟨rfl,HCC.out.bel⟩
    by_cases uQ:x<(au.length:Int)
    case neg=>
     have hres:jY aI aD.length au bq bI=false:=oK hlt (by unfold jc;rw [HX.out,decide_eq_false uQ];simp)
     have HRES:=aa.mk hres
     clear hres
     go_wp2
     go_ret
     rw [HRES.out]
     exact ⟨rfl,HCC.out.bel⟩
    generalize hct:(bq.take i).contains x=ct at HTK
    have HCT:=aa.mk hct
    clear hct
    cases ct with
    |true=>
     have hres:jY aI aD.length au bq bI=false:=oK hlt (by unfold jc;rw [HX.out,HCT.out];simp)
     have HRES:=aa.mk hres
     clear hres
     go_wp2_with (go_at_call 89;(with_reducible refine (HTK.out _ ?hb).mono ?_);(case hb=>exact HCC.out.bel);rintro e w2 ⟨rfl,⟨nd,rfl⟩⟩)
     go_ret
     rw [HRES.out]
     exact ⟨rfl,ab HCC.out.bel _⟩
    |false=>
     by_cases hs1:s=1∨s= -1
     case neg=>
      have hres:jY aI aD.length au bq bI=false:=oK hlt (by
       unfold jc
       rw [HS.out]
       have:(s==1||s== -1)=false:=by rw [Bool.or_eq_false_iff,beq_eq_false_iff_ne,beq_eq_false_iff_ne];omega
       rw [this];simp)
      have HRES:=aa.mk hres
      have hn1:(s==1)=false:=beq_eq_false_iff_ne.2 (by omega)
      have hn2:(s !=1)=true:=bne_iff_ne.2 (by omega)
      have hn3:(s== -1)=false:=beq_eq_false_iff_ne.2 (by omega)
      have hn4:(s != -1)=true:=bne_iff_ne.2 (by omega)
      clear hres hs1
      go_wp2_with (go_at_call 89;(with_reducible refine (HTK.out _ ?hb).mono ?_);(case hb=>exact HCC.out.bel);rintro e w2 ⟨rfl,⟨nd,rfl⟩⟩)
      go_ret
      rw [HRES.out]
      exact ⟨rfl,ab HCC.out.bel _⟩
     have hok:jc au bq bI i=true:=by
      unfold jc
      rw [HX.out,HS.out,HCT.out,decide_eq_true (show 0≤x by omega),decide_eq_true uQ]
      rcases hs1 with rfl|rfl<;>simp
     have HOKI:=aa.mk hok
     clear hok
     have Hz:i≤512:=by
      have h1:=rS hi HA.out
      have h2:au.length≤512:=by have:=HOK.out;simp [fD] at this;omega
      omega
     have hx0:0≤x:=by omega
     obtain ⟨ad,e3,g0,g1,g2,g3,g4,g5⟩:=i9 (Kd.aN nw.out HCC.out.bel) x hx0 uQ
     cases e3
     have hrd:au.getD x.toNat jW=aC au x:=rfl
     generalize aC au x=a at*
     have HRD:=aa.mk hrd
     clear hrd
     rcases hs1 with rfl|rfl
     ·skip
      go_wp2_with (first|(go_at_call 89;(with_reducible refine (HTK.out _ ?hb).mono ?_);(case hb=>exact HCC.out.bel);rintro e w2 ⟨rfl,nd,hnd⟩;have lm:=aa.mk (HCC.out.drewN nd);rw [← hnd] at lm;replace q2:=(show (wr.drewN nd).cell? ⟨w.heap.size,2,none⟩=_ from q2);rw [← hnd] at q2;replace q3:=(show (wr.drewN nd).cell? ⟨w.heap.size+1,0,none⟩=_ from q3);rw [← hnd] at q3;replace q4:=(show (wr.drewN nd).cell? ⟨w.heap.size+1,1,none⟩=_ from q4);rw [← hnd] at q4;replace hx1:=(show (wr.drewN nd).cell? (qg.add i)=_ from hx1);rw [← hnd] at hx1;replace oQ:=(show (wr.drewN nd).cell? (DQ.add i)=_ from oQ);rw [← hnd] at oQ;replace g0:=(show (wr.drewN nd).cell? (ad.add (x.toNat*6))=_ from g0);rw [← hnd] at g0;replace g1:=(show (wr.drewN nd).cell? ⟨(ad.add (x.toNat*6)).block,(ad.add (x.toNat*6)).off+1,none⟩=_ from g1);rw [← hnd] at g1;replace g2:=(show (wr.drewN nd).cell? ⟨(ad.add (x.toNat*6)).block,(ad.add (x.toNat*6)).off+2,none⟩=_ from g2);rw [← hnd] at g2;replace g3:=(show (wr.drewN nd).cell? ⟨(ad.add (x.toNat*6)).block,(ad.add (x.toNat*6)).off+3,none⟩=_ from g3);rw [← hnd] at g3;replace g4:=(show (wr.drewN nd).cell? ⟨(ad.add (x.toNat*6)).block,(ad.add (x.toNat*6)).off+4,none⟩=_ from g4);rw [← hnd] at g4;replace g5:=(show (wr.drewN nd).cell? ⟨(ad.add (x.toNat*6)).block,(ad.add (x.toNat*6)).off+5,none⟩=_ from g5);rw [← hnd] at g5;have q4a:∀ o,(w2.alloc o).cell? ⟨w.heap.size+1,1,none⟩=some (.slice (some DQ) bI.length dW):=(fun o=>(ag (aj lm.out.cb o) 1).trans rfl);have hx2a:=(fun o=>(World.cell?_alloc_lt _ o _ (World.block_lt_of_cell? _ _ oQ)).trans oQ);clear hnd)|((with_reducible refine gr (b:= .append) (xs:=#[.tmp 88,.tmp 91]) rfl ?_);at_builtin;refine Kd.ox (Kd.int .i64) (w0:=w) w.heap.size rfl (.tmp 88) (.tmp 91) 22 3 (.int .i64 0) 8 rfl Try.underlying22 info3 rfl (by decide) (by omega) (.slice Aa i ca) (oT au bq bI i) a.f1 [.int .i64 a.f1] (fun k=>(k≠w.heap.size∧k≠w.heap.size+1)∧some k≠(Value.slice Ab i cb).ownBlock) (fun _=>False) rfl ?aX rfl (fun _ h=>h.elim) ?aF ?aO ?aB ?aS ?aL ?_;(case aX=>first|rfl|(go_simp;done));(case aF=>exact (lm.out.alloc (.cells #[.int .i64 a.f0,.int .i64 a.f1,.int .i64 a.f2,.int .i64 a.f3,.int .i64 a.f4,.int .i64 a.f5] 36)).qX);(case aO=>exact (lm.out.alloc (.cells #[.int .i64 a.f0,.int .i64 a.f1,.int .i64 a.f2,.int .i64 a.f3,.int .i64 a.f4,.int .i64 a.f5] 36)).ra);(case aB=>exact (lm.out.alloc (.cells #[.int .i64 a.f0,.int .i64 a.f1,.int .i64 a.f2,.int .i64 a.f3,.int .i64 a.f4,.int .i64 a.f5] 36)).bel);(case aS=>exact (lm.out.alloc (.cells #[.int .i64 a.f0,.int .i64 a.f1,.int .i64 a.f2,.int .i64 a.f3,.int .i64 a.f4,.int .i64 a.f5] 36)).bel.size);(case aL=>rw [fj];omega);intro v_ w3 jr kw nE nL;obtain ⟨Ac,cc,ev_⟩:=Kd.cA jr;rw [show (oT au bq bI i++[a.f1]).length=i+1 by simp [fj]] at ev_;subst ev_;have CZ:=aa.mk ((lm.out.alloc (.cells #[.int .i64 a.f0,.int .i64 a.f1,.int .i64 a.f2,.int .i64 a.f3,.int .i64 a.f4,.int .i64 a.f5] 36)).sD jr kw nE nL);have hga:=dq (gC w2 (.cells #[.int .i64 a.f0,.int .i64 a.f1,.int .i64 a.f2,.int .i64 a.f3,.int .i64 a.f4,.int .i64 a.f5] 36)) nE (fun e_=>by have O7:=Kd.gq lm.out.ra _ e_.symm;exact absurd O7 (Nat.lt_irrefl _));have d1:w3.cell? ⟨w2.heap.size,1,none⟩=some (.int .i64 a.f1):=(ag hga 1).trans rfl;have d2:w3.cell? ⟨w2.heap.size,2,none⟩=some (.int .i64 a.f2):=(ag hga 2).trans rfl;clear jr kw nE nL hga)|((with_reducible refine gr (b:= .append) (xs:=#[.tmp 93,.tmp 96]) rfl ?_);at_builtin;refine Kd.ox (Kd.int .i64) (w0:=w) w.heap.size rfl (.tmp 93) (.tmp 96) 22 3 (.int .i64 0) 8 rfl Try.underlying22 info3 rfl (by decide) (by omega) (.slice Ab i cb) (pQ au bq bI i) a.f2 [.int .i64 a.f2] (fun k=>(k≠w.heap.size∧k≠w.heap.size+1)∧some k≠(Value.slice Ac (i+1) cc).ownBlock) (fun _=>False) rfl ?aX rfl (fun _ h=>h.elim) ?aF ?aO ?aB ?aS ?aL ?_;(case aX=>first|rfl|(go_simp;done));(case aF=>exact CZ.out.lu);(case aO=>exact CZ.out.rb);(case aB=>exact CZ.out.bel);(case aS=>exact CZ.out.bel.size);(case aL=>rw [fW];omega);intro v_ w4 jr kw nE nL;obtain ⟨Ad,cd,ev_⟩:=Kd.cA jr;rw [show (pQ au bq bI i++[a.f2]).length=i+1 by simp [fW]] at ev_;subst ev_;have Zg:=aa.mk (CZ.out.sE jr kw nE nL);clear jr kw nE nL d1 d2))
      go_roundw
      case rel=>exact ⟨i+1,Ac,cc,Ad,cd,by omega,rfl,rfl,by go_num,⟨by rw [ny,nz,HX.out,HS.out,show oI au x 1=a.f1 by unfold oI;rw [HRD.out];rfl,show oJ au x 1=a.f2 by unfold oJ;rw [HRD.out];rfl];exact Zg.out⟩,⟨fun j hj=>by
       rcases Nat.lt_succ_iff_lt_or_eq.1 hj with h|rfl
       ·exact HA.out j h
       exact HOKI.out⟩⟩
      case measure=>simp [intOf];omega
     skip
     go_wp2_with (first|(go_at_call 89;(with_reducible refine (HTK.out _ ?hb).mono ?_);(case hb=>exact HCC.out.bel);rintro e w2 ⟨rfl,nd,hnd⟩;have lm:=aa.mk (HCC.out.drewN nd);rw [← hnd] at lm;replace q2:=(show (wr.drewN nd).cell? ⟨w.heap.size,2,none⟩=_ from q2);rw [← hnd] at q2;replace q3:=(show (wr.drewN nd).cell? ⟨w.heap.size+1,0,none⟩=_ from q3);rw [← hnd] at q3;replace q4:=(show (wr.drewN nd).cell? ⟨w.heap.size+1,1,none⟩=_ from q4);rw [← hnd] at q4;replace hx1:=(show (wr.drewN nd).cell? (qg.add i)=_ from hx1);rw [← hnd] at hx1;replace oQ:=(show (wr.drewN nd).cell? (DQ.add i)=_ from oQ);rw [← hnd] at oQ;replace g0:=(show (wr.drewN nd).cell? (ad.add (x.toNat*6))=_ from g0);rw [← hnd] at g0;replace g1:=(show (wr.drewN nd).cell? ⟨(ad.add (x.toNat*6)).block,(ad.add (x.toNat*6)).off+1,none⟩=_ from g1);rw [← hnd] at g1;replace g2:=(show (wr.drewN nd).cell? ⟨(ad.add (x.toNat*6)).block,(ad.add (x.toNat*6)).off+2,none⟩=_ from g2);rw [← hnd] at g2;replace g3:=(show (wr.drewN nd).cell? ⟨(ad.add (x.toNat*6)).block,(ad.add (x.toNat*6)).off+3,none⟩=_ from g3);rw [← hnd] at g3;replace g4:=(show (wr.drewN nd).cell? ⟨(ad.add (x.toNat*6)).block,(ad.add (x.toNat*6)).off+4,none⟩=_ from g4);rw [← hnd] at g4;replace g5:=(show (wr.drewN nd).cell? ⟨(ad.add (x.toNat*6)).block,(ad.add (x.toNat*6)).off+5,none⟩=_ from g5);rw [← hnd] at g5;have q4a:∀ o,(w2.alloc o).cell? ⟨w.heap.size+1,1,none⟩=some (.slice (some DQ) bI.length dW):=(fun o=>(ag (aj lm.out.cb o) 1).trans rfl);have hx2a:=(fun o=>(World.cell?_alloc_lt _ o _ (World.block_lt_of_cell? _ _ oQ)).trans oQ);clear hnd)|((with_reducible refine gr (b:= .append) (xs:=#[.tmp 88,.tmp 91]) rfl ?_);at_builtin;refine Kd.ox (Kd.int .i64) (w0:=w) w.heap.size rfl (.tmp 88) (.tmp 91) 22 3 (.int .i64 0) 8 rfl Try.underlying22 info3 rfl (by decide) (by omega) (.slice Aa i ca) (oT au bq bI i) a.f2 [.int .i64 a.f2] (fun k=>(k≠w.heap.size∧k≠w.heap.size+1)∧some k≠(Value.slice Ab i cb).ownBlock) (fun _=>False) rfl ?aX rfl (fun _ h=>h.elim) ?aF ?aO ?aB ?aS ?aL ?_;(case aX=>first|rfl|(go_simp;done));(case aF=>exact (lm.out.alloc (.cells #[.int .i64 a.f0,.int .i64 a.f2,.int .i64 a.f1,.int .i64 a.f3,.int .i64 a.f4,.int .i64 a.f5] 36)).qX);(case aO=>exact (lm.out.alloc (.cells #[.int .i64 a.f0,.int .i64 a.f2,.int .i64 a.f1,.int .i64 a.f3,.int .i64 a.f4,.int .i64 a.f5] 36)).ra);(case aB=>exact (lm.out.alloc (.cells #[.int .i64 a.f0,.int .i64 a.f2,.int .i64 a.f1,.int .i64 a.f3,.int .i64 a.f4,.int .i64 a.f5] 36)).bel);(case aS=>exact (lm.out.alloc (.cells #[.int .i64 a.f0,.int .i64 a.f2,.int .i64 a.f1,.int .i64 a.f3,.int .i64 a.f4,.int .i64 a.f5] 36)).bel.size);(case aL=>rw [fj];omega);intro v_ w3 jr kw nE nL;obtain ⟨Ac,cc,ev_⟩:=Kd.cA jr;rw [show (oT au bq bI i++[a.f2]).length=i+1 by simp [fj]] at ev_;subst ev_;have CZ:=aa.mk ((lm.out.alloc (.cells #[.int .i64 a.f0,.int .i64 a.f2,.int .i64 a.f1,.int .i64 a.f3,.int .i64 a.f4,.int .i64 a.f5] 36)).sD jr kw nE nL);have hga:=dq (gC w2 (.cells #[.int .i64 a.f0,.int .i64 a.f2,.int .i64 a.f1,.int .i64 a.f3,.int .i64 a.f4,.int .i64 a.f5] 36)) nE (fun e_=>by have O7:=Kd.gq lm.out.ra _ e_.symm;exact absurd O7 (Nat.lt_irrefl _));have d1:w3.cell? ⟨w2.heap.size,1,none⟩=some (.int .i64 a.f2):=(ag hga 1).trans rfl;have d2:w3.cell? ⟨w2.heap.size,2,none⟩=some (.int .i64 a.f1):=(ag hga 2).trans rfl;clear jr kw nE nL hga)|((with_reducible refine gr (b:= .append) (xs:=#[.tmp 93,.tmp 96]) rfl ?_);at_builtin;refine Kd.ox (Kd.int .i64) (w0:=w) w.heap.size rfl (.tmp 93) (.tmp 96) 22 3 (.int .i64 0) 8 rfl Try.underlying22 info3 rfl (by decide) (by omega) (.slice Ab i cb) (pQ au bq bI i) a.f1 [.int .i64 a.f1] (fun k=>(k≠w.heap.size∧k≠w.heap.size+1)∧some k≠(Value.slice Ac (i+1) cc).ownBlock) (fun _=>False) rfl ?aX rfl (fun _ h=>h.elim) ?aF ?aO ?aB ?aS ?aL ?_;(case aX=>first|rfl|(go_simp;done));(case aF=>exact CZ.out.lu);(case aO=>exact CZ.out.rb);(case aB=>exact CZ.out.bel);(case aS=>exact CZ.out.bel.size);(case aL=>rw [fW];omega);intro v_ w4 jr kw nE nL;obtain ⟨Ad,cd,ev_⟩:=Kd.cA jr;rw [show (pQ au bq bI i++[a.f1]).length=i+1 by simp [fW]] at ev_;subst ev_;have Zg:=aa.mk (CZ.out.sE jr kw nE nL);clear jr kw nE nL d1 d2))
     go_roundw
     case rel=>exact ⟨i+1,Ac,cc,Ad,cd,by omega,rfl,rfl,by go_num,⟨by rw [ny,nz,HX.out,HS.out,show oI au x (-1)=a.f2 by unfold oI;rw [HRD.out];rfl,show oJ au x (-1)=a.f1 by unfold oJ;rw [HRD.out];rfl];exact Zg.out⟩,⟨fun j hj=>by
      rcases Nat.lt_succ_iff_lt_or_eq.1 hj with h|rfl
      ·exact HA.out j h
      exact HOKI.out⟩⟩
     case measure=>simp [intOf];omega
   obtain rfl:i=bq.length:=by omega
   have Hz:bq.length≤512:=by
    have h1:=rS hi HA.out
    have h2:au.length≤512:=by have:=HOK.out;simp [fD] at this;omega
    omega
   have hlst:=fj au bq bI bq.length
   have hlen:=fW au bq bI bq.length
   have hrot:∀ j,j<bq.length→qI (oT au bq bI bq.length) (pQ au bq bI bq.length) j=false→jY aI aD.length au bq bI=false:=fun j hj h=>Bt hj h
   have hall:(∀ j,j<bq.length→qI (oT au bq bI bq.length) (pQ au bq bI bq.length) j=true)→jY aI aD.length au bq bI=true:=fun h=>uy HOK.out I0 HLE.out HA.out h
   generalize oT au bq bI bq.length=st at*
   generalize pQ au bq bI bq.length=en at*
   have HROT:=aa.mk hrot
   have HALL:=aa.mk hall
   have HST:=aa.mk hlst
   have HEN:=aa.mk hlen
   clear hrot hall hlst hlen HA hi hlt q2 q3 q4
   obtain ⟨wo,ewo⟩:∃ wo:World,wo=wr:=⟨_,rfl⟩
   subst ewo
   go_wp2
   go_loopw [104] (fun C0 W=>∃ i:Nat,i≤bq.length∧C0= .int .i64 i∧aa (CC w #[.int .i64 aI,.slice bh aD.length bi,.slice bu au.length aW] #[.slice ee bq.length dR,.slice ed bI.length dW] w.heap.size (w.heap.size+1) W (.slice Aa bq.length ca) (.slice Ab bq.length cb) st en)∧aa (∀ j,j<i→(st.take j).contains (st.getD j 0)=false∧(0<j→st.getD j 0=en.getD (j - 1) 0))) (fun C0 _=>bq.length - (intOf C0).toNat)
   case atStart=>exact ⟨0,Nat.zero_le _,rfl,HCC,⟨fun j hj=>absurd hj (Nat.not_lt_zero _)⟩⟩
   case round=>
    clear HCC
    obtain ⟨i,hi,rfl,HCC,HA⟩:=hrel
    obtain ⟨Zh,hca,hCa⟩:=Kd.bf HCC.out.ra
    obtain ⟨Zi,hcb,hCb⟩:=Kd.bf HCC.out.rb
    clear Zh Zi
    rw [HST.out] at hCa
    rw [HEN.out] at hCb
    have HRA:=aa.mk hCa
    have HRB:=aa.mk hCb
    clear hCa hCb
    by_cases hlt:i<bq.length
    ·obtain ⟨qg,e1,hx1⟩:=Kd.dN HRA.out (i:Int) (by omega) (by omega)
     cases e1
     rw [Int.toNat_natCast,show rd st (i:Int)=st.getD i 0 by unfold rd;rw [Int.toNat_natCast]] at hx1
     generalize hx:st.getD i 0=x at hx1
     have HX:=aa.mk hx
     clear hx
     have HTK:aa (∀ n,Calls Try.prog 89 #[.slice (some qg) i ca,.int .i64 x] (wr.drewN n) fun e w'=>e= .returned (.bool ((st.take i).contains x))∧∃ m,w'=(wr.drewN n).drewN m):=⟨fun n=>Hr (some qg) ca st x i _ (by rw [HST.out];omega) (by rw [HST.out];exact Kd.aU HRA.out n) (by rw [HST.out];exact hca)⟩
     have hica:(i:Int)≤(ca:Int):=by omega
     have hicb:i≤ca:=by omega
     generalize hct:(st.take i).contains x=ct at HTK
     have HCT:=aa.mk hct
     clear hct
     cases ct with
     |true=>
      have hres:=HROT.out i hlt (by unfold qI;rw [HX.out,HCT.out];rfl)
      have HRES:=aa.mk hres
      clear hres
      go_wp2_with fail
      go_quiet ((go_at_call 89;exact Calls.quiet_of (HTK.out _)))
      go_wp2
      go_ret
      rw [HRES.out]
      exact ⟨rfl,ab HCC.out.bel _⟩
     |false=>
      rcases Nat.eq_zero_or_pos i with ND|ND
      ·subst ND
       have hx1':wr.cell? qg=some (.int .i64 x):=hx1
       clear hx1
       go_wp2_with fail
       go_quiet ((go_at_call 89;exact Calls.quiet_of (HTK.out _)))
       go_wp2
       go_roundw
       case rel=>exact ⟨0+1,by omega,by go_num,⟨HCC.out.drewN _⟩,⟨fun j hj=>by
        obtain rfl:j=0:=by omega
        exact ⟨by rw [HX.out];exact HCT.out,fun h=>absurd h (Nat.lt_irrefl _)⟩⟩⟩
       case measure=>simp [intOf];omega
      obtain ⟨DQ,e2,oQ⟩:=Kd.dN HRB.out ((i:Int) - 1) (by omega) (by omega)
      cases e2
      rw [show rd en ((i:Int) - 1)=en.getD (i - 1) 0 by unfold rd;rw [show ((i:Int) - 1).toNat=i - 1 by omega],show ((i:Int) - 1).toNat=i - 1 by omega] at oQ
      generalize hy:en.getD (i - 1) 0=y at oQ
      have HY:=aa.mk hy
      clear hy
      have O8:IntKind.i64.wrap ((i:Int) - 1)=(i:Int) - 1:=IntWalk.i64_in _ (by omega)
      have hd1:decide ((0:Int)<(i:Int))=true:=decide_eq_true (by omega)
      have hd3:(1:Int)≤(i:Int):=by omega
      have Zj:(i:Int) - 1<(bq.length:Int):=by omega
      have hd5:((i:Int) - 1).toNat=i - 1:=by omega
      by_cases hxy:x=y
      ·have FN:(x==y)=true:=beq_iff_eq.2 hxy
       have NE:(x !=y)=false:=by rw [bne_eq_false_iff_eq];exact hxy
       have HXY:=aa.mk hxy
       clear hxy
       go_wp2_with fail
       go_quiet ((go_at_call 89;exact Calls.quiet_of (HTK.out _)))
       go_wp2
       go_roundw
       case rel=>exact ⟨i+1,by omega,by go_num,⟨HCC.out.drewN _⟩,⟨fun j hj=>by
        rcases Nat.lt_succ_iff_lt_or_eq.1 hj with h|rfl
        ·exact HA.out j h
        exact ⟨by rw [HX.out];exact HCT.out,fun _=>by rw [HX.out,HY.out];exact HXY.out⟩⟩⟩
       case measure=>simp [intOf];omega
      have FN:(x==y)=false:=beq_eq_false_iff_ne.2 hxy
      have NE:(x !=y)=true:=bne_iff_ne.2 hxy
      have hres:=HROT.out (i - 1) (by omega) (by
       unfold qI
       rw [HST.out,show i - 1+1=i by omega,Nat.mod_eq_of_lt hlt,HX.out,HY.out,FN,Bool.and_false])
      have HRES:=aa.mk hres
      clear hres hxy
      go_wp2_with fail
      go_quiet ((go_at_call 89;exact Calls.quiet_of (HTK.out _)))
      go_wp2
      go_ret
      rw [HRES.out]
      exact ⟨rfl,ab HCC.out.bel _⟩
    obtain rfl:i=bq.length:=by omega
    obtain ⟨qg,e1,hx1⟩:=Kd.dN HRA.out (0:Int) (by omega) (by omega)
    cases e1
    obtain ⟨DQ,e2,oQ⟩:=Kd.dN HRB.out ((bq.length:Int) - 1) (by omega) (by omega)
    cases e2
    rw [show rd en ((bq.length:Int) - 1)=en.getD (bq.length - 1) 0 by unfold rd;rw [show ((bq.length:Int) - 1).toNat=bq.length - 1 by omega],show ((bq.length:Int) - 1).toNat=bq.length - 1 by omega] at oQ
    rw [show rd st (0:Int)=st.getD 0 0 from rfl,show (0:Int).toNat=0 from rfl] at hx1
    generalize hx:st.getD 0 0=x at hx1
    generalize hy:en.getD (bq.length - 1) 0=y at oQ
    have hres:jY aI aD.length au bq bI=(x==y):=by
     cases hxy:(x==y) with
     |false=>
      refine HROT.out (bq.length - 1) (by omega) ?_
      unfold qI
      rw [HST.out,show bq.length - 1+1=bq.length by omega,Nat.mod_self,hx,hy,hxy,Bool.and_false]
     |true=>
      refine HALL.out fun j hj=> ?_
      unfold qI
      rw [(HA.out j hj).1,Bool.not_false,Bool.true_and,HST.out]
      by_cases O9:j+1<bq.length
      ·rw [Nat.mod_eq_of_lt O9,(HA.out (j+1) O9).2 (by omega),Nat.add_sub_cancel];simp
      rw [show j+1=bq.length by omega,Nat.mod_self,hx,show j=bq.length - 1 by omega,hy];exact hxy
    have HRES:=aa.mk hres
    clear hres hx hy
    have hd3:(1:Int)≤(bq.length:Int):=by omega
    have Zj:(bq.length:Int) - 1<(bq.length:Int):=by omega
    have hd5:((bq.length:Int) - 1).toNat=bq.length - 1:=by omega
    have hd6:0<bq.length:=by omega
    have hx1':wr.cell? qg=some (.int .i64 x):=hx1
    clear hx1
    go_wp2_with fail
    go_quiet (fail)
    go_wp2
    go_ret
    rw [HRES.out]
    exact ⟨rfl,ab HCC.out.bel _⟩
end Go.Proofs.Ytbkjplomoegbdaa.PB
end
section
namespace Go.Proofs.Ytbkjplomoegbdaa.PB
open Go.RowKit Go.Proofs.YtbkjplomoegbdaaW.bO Go.Proofs.YtbkjplomoegbdaaW.dA Go.Proofs.YtbkjplomoegbdaaW.dG
set_option linter.unusedVariables false
set_option linter.unusedSimpArgs false
set_option maxHeartbeats 400000 in
set_option maxRecDepth 100000 in
theorem Zk (I:World→Prop) (p:Int→Bool) (g:Nat) (lb:Array Value) (A:Option Addr) (c:Nat) (l:List Int) (w:World) (hI:I w)
  (he:∀ args W,(callFunc g args).run Try.prog W= .ok (.enter g args) W)
  (hf:∀ W x,x ∈ l→I W→Calls Try.prog g (#[.int .i64 x]++lb) W fun e w'=>e= .returned (.bool (p x))∧I w')
  (hr:∀ W,I W→Kd.C (Kd.int .i64) W A l.length l):
  Calls Try.prog 152 #[.slice A l.length c,.func (.func g) #[] lb] w fun e w'=>e= .returned (.int .i64 (idxOf p l))∧I w':=by
 have HR:=aa.mk hr
 have HE:=aa.mk he
 have HF:=aa.mk hf
 have hL:l.length≤9223372036854775807:=(hr w hI).2.1
 clear hr he hf
 go_enter Try.func152,Try.ntmps152
 go_wp2
 go_loopw [8] (fun v8 W=>∃ i:Nat,i≤l.length∧v8= .int .i64 i∧(∀ j,j<i→p (l.getD j 0)=false)∧I W) (fun v8 _=>l.length - (intOf v8).toNat)
 case atStart=>exact ⟨0,Nat.zero_le _,rfl,fun j hj=>absurd hj (Nat.not_lt_zero _),hI⟩
 case round=>
  obtain ⟨i,hi,rfl,hp,hI⟩:=hrel
  have hR:=aa.mk (HR.out _ hI)
  have hP:=aa.mk hp
  clear hp
  by_cases hlt:i<l.length
  ·obtain ⟨ad,e,h0⟩:=Kd.dN hR.out i (by omega) (by omega)
   cases e
   simp only [Int.toNat_natCast] at h0
   go_wp2_with fail
   rw [HE.out,Oper.upon_enter]
   refine (HF.out wr (rd l i) (by simpa [rd] using oG hlt) hI).mono ?_
   rintro e w' ⟨rfl,hI'⟩
   have hP':=aa.mk hP.out
   clear hP hI hR h0
   cases hpx:p (rd l i)
   ·go_wp2
    go_roundw
    case rel=>exact ⟨i+1,by omega,by go_num,fun j hj=>by
     rcases Nat.lt_succ_iff_lt_or_eq.1 hj with h|rfl
     ·exact hP'.out j h
     simpa [rd] using hpx,hI'⟩
    case measure=>simp [intOf];omega
   go_wp2
   go_ret
   exact ⟨by rw [Bk hlt (by simpa [rd] using hpx) hP'.out];rfl,hI'⟩
  go_wp2
  go_ret
  exact ⟨by rw [wR (z:=(0:Int)) (fun j hj=>hP.out j (by omega))];rfl,hI⟩
set_option maxHeartbeats 400000 in
set_option maxRecDepth 100000 in
theorem Zl (I:World→Prop) (p:Int→Bool) (g:Nat) (lb:Array Value) (A:Option Addr) (c:Nat) (l:List Int) (w:World) (hI:I w)
  (he:∀ args W,(callFunc g args).run Try.prog W= .ok (.enter g args) W)
  (hf:∀ W x,x ∈ l→I W→Calls Try.prog g (#[.int .i64 x]++lb) W fun e w'=>e= .returned (.bool (p x))∧I w')
  (hr:∀ W,I W→Kd.C (Kd.int .i64) W A l.length l):
  Calls Try.prog 117 #[.slice A l.length c,.func (.func g) #[] lb] w fun e w'=>e= .returned (.bool (decide (0≤idxOf p l)))∧I w':=by
 have H:=aa.mk (Zk I p g lb A c l w hI he hf hr)
 clear he hf hr
 go_enter Try.func117,Try.ntmps117
 go_wp2_with (go_at_call 152;refine H.out.mono ?_;rintro e w' ⟨rfl,hI'⟩)
 go_ret
 exact ⟨rfl,hI'⟩
theorem wX (p:Int→Bool) (g:Nat) (lb:Array Value) (A:Option Addr) (c:Nat) (l:List Int) (w:World)
  (he:∀ args W,(callFunc g args).run Try.prog W= .ok (.enter g args) W) (hr:Kd.C (Kd.int .i64) w A l.length l)
  (hf:∀ W x,x ∈ l→Below w.heap.size w W→Calls Try.prog g (#[.int .i64 x]++lb) W fun e w'=>e= .returned (.bool (p x))∧Below W.heap.size W w'):
  Calls Try.prog 117 #[.slice A l.length c,.func (.func g) #[] lb] w fun e w'=>e= .returned (.bool (l.any p))∧Below w.heap.size w w':=by
 rw [← uw]
 exact Zl (fun W=>Below w.heap.size w W) p g lb A c l w (Below.refl _ _) he (fun W x hx hb=>(hf W x hx hb).mono fun e w' ⟨h1,h2⟩=>⟨h1,aE hb h2⟩) (fun W hb=>Kd.aN hr hb)
end Go.Proofs.Ytbkjplomoegbdaa.PB
end
section
namespace Go.Proofs.Ytbkjplomoegbdaa.yY
open Go.RowKit Go.Proofs.Ytbkjplomoegbdaa.PB Go.Proofs.YtbkjplomoegbdaaW.bO Go.Proofs.YtbkjplomoegbdaaW.dA Go.Proofs.YtbkjplomoegbdaaW.dG
theorem FO {n:Int} (h0:0≤n) (h1:n<18446744073709551616):IntKind.u64.wrap n=n:=by
 have e:IntKind.u64.wrap n=n % 18446744073709551616:=rfl
 omega
theorem FP (n:Int):0≤IntKind.u64.wrap n:=by
 have e:IntKind.u64.wrap n=n % 18446744073709551616:=rfl
 omega
theorem tD (v n:Int) (h0:0<n) (h1:n<4611686018427387904):∃ x,bw.f v n=some x∧0≤x∧x<n:=by
 unfold bw.f
 rw [FO (n:=n) (by omega) (by omega),if_neg (by omega)]
 have a:=Int.tmod_nonneg n (FP v)
 have b:=Int.tmod_lt_of_pos (IntKind.u64.wrap v) h0
 refine ⟨_,rfl, ?_⟩
 unfold wrap64
 omega
theorem kG (l:List Int) (i n:Int) (hl:l.length≤281474976710656) (hi:0≤i) (hil:i≤(l.length:Int)) (h0:0<n) (h1:n<4611686018427387904):
  ∃ x j,aJ.f l i n=some (x,j)∧0≤x∧x<n∧0≤j∧j≤(l.length:Int):=by
 unfold aJ.f
 by_cases c:i≥(l.length:Int)
 ·rw [if_pos c]
  exact ⟨0,i,rfl,by omega,h0,hi,hil⟩
 have e:wrap64 (wrap64 (i+1) - 1)=i:=by unfold wrap64;omega
 have e2:wrap64 (i+1)=i+1:=by unfold wrap64;omega
 obtain ⟨x,hx,a,b⟩:=tD (rd l i) n h0 h1
 rw [if_neg c,e,if_pos hi,if_pos (by omega),hx,e2]
 exact ⟨x,i+1,rfl,a,b,by omega,by omega⟩
structure LR (per:Int) (n:Nat) (a:eu):Prop where
 kind:1≤a.f0∧a.f0≤6
 from_:0≤a.f1∧a.f1<n
 to_:0≤a.f2∧a.f2<n
 ne:a.f1≠a.f2
 least: -per≤a.f3∧a.f3<2*per
 most:a.f3≤a.f4∧a.f4<a.f3+per
 weight:0≤a.f5∧a.f5<5
structure wY (per:Int) (evs:List hO) (acts:List eu):Prop where
 hper:2≤per∧per≤9
 hevs:1≤evs.length∧evs.length≤5
 hacts:acts.length≤8
 ends:∀ a ∈ acts,LR per evs.length a
theorem HI (l:List Int) (hl:l.length≤281474976710656) (per:Int) (hper:2≤per∧per≤9) (evs:List hO) (hev:1≤evs.length∧evs.length≤5):
  ∀ (d:Nat) (i:Int) (acts:List eu),0≤i→i≤(l.length:Int)→acts.length+d≤8→(∀ a ∈ acts,LR per evs.length a)→
   ∃ acts',Ev (fun k=>aG.l1 k (evs.length:Int) (d:Int) l i per evs acts) (per,evs,acts')∧wY per evs acts':=by
 intro d
 induction d with
 |zero=>
  intro i acts h0 h1 hd ha
  refine ⟨acts, ?_,⟨hper,hev,by omega,ha⟩⟩
  refine Ev.step (f:=fun k=>aG.j2 k (evs.length:Int) 0 false l i per evs acts) (fun k=> ?_) ?_
  ·simp only [aG.l1];rw [if_neg (by omega)];rfl
  refine Ev.step (f:=fun _=>some (per,evs,acts)) (fun k=> ?_) (Ev.now _)
  simp only [aG.j2]
  rfl
 |succ d ih=>
  intro i acts h0 h1 hd ha
  by_cases hm:(evs.length:Int)>1
  ·obtain ⟨a1,i1,e1,p1,q1,r1,s1⟩:=kG l i 6 hl h0 h1 (by omega) (by omega)
   obtain ⟨a2,i2,e2,p2,q2,r2,s2⟩:=kG l i1 (evs.length:Int) hl r1 s1 (by omega) (by omega)
   obtain ⟨a3,i3,e3,p3,q3,r3,s3⟩:=kG l i2 5 hl r2 s2 (by omega) (by omega)
   have w1:wrap64 ((evs.length:Int) - 1)=(evs.length:Int) - 1:=by unfold wrap64;omega
   obtain ⟨a4,i4,e4,p4,q4,r4,s4⟩:=kG l i3 ((evs.length:Int) - 1) hl r3 s3 (by omega) (by omega)
   have w2:wrap64 (3*per)=3*per:=by unfold wrap64;omega
   obtain ⟨a5,i5,e5,p5,q5,r5,s5⟩:=kG l i4 (3*per) hl r4 s4 (by omega) (by omega)
   obtain ⟨a6,i6,e6,p6,q6,r6,s6⟩:=kG l i5 per hl r5 s5 (by omega) (by omega)
   have w3:wrap64 (1+a1)=1+a1:=by unfold wrap64;omega
   have w4:wrap64 (wrap64 (a2+1)+a4)=a2+1+a4:=by unfold wrap64;omega
   have w5:wrap64 (a5 - per)=a5 - per:=by unfold wrap64;omega
   have w6:wrap64 (a5 - per+a6)=a5 - per+a6:=by unfold wrap64;omega
   have t1:=Int.tmod_nonneg (evs.length:Int) (show 0≤a2+1+a4 by omega)
   have t2:=Int.tmod_lt_of_pos (a2+1+a4) (show (0:Int)<(evs.length:Int) by omega)
   have t3:Int.tmod (a2+1+a4) (evs.length:Int)≠a2:=by
    intro h
    have h4:=Int.tmod_add_mul_tdiv (a2+1+a4) (evs.length:Int)
    rw [h] at h4
    generalize Int.tdiv (a2+1+a4) (evs.length:Int)=q at h4
    have h5:(evs.length:Int)*q=1+a4:=by omega
    rcases Int.lt_or_le q 1 with c|c
    ·have:(evs.length:Int)*q≤(evs.length:Int)*0:=Int.mul_le_mul_of_nonneg_left (by omega) (by omega)
     omega
    have:(evs.length:Int)*1≤(evs.length:Int)*q:=Int.mul_le_mul_of_nonneg_left c (by omega)
    omega
   obtain ⟨acts',hev',his⟩:=ih i6 (acts++[⟨1+a1,a2,Int.tmod (a2+1+a4) (evs.length:Int),a5 - per,a5 - per+a6,a3⟩]) r6 s6 (by simp;omega) (by
    intro a h
    rcases List.mem_append.1 h with h|h
    ·exact ha a h
    simp at h
    subst h
    exact ⟨⟨by simp only;omega,by simp only;omega⟩,⟨p2,q2⟩,⟨t1,t2⟩,fun h=>t3 h.symm,⟨by simp only;omega,by simp only;omega⟩,⟨by simp only;omega,by simp only;omega⟩,⟨p3,q3⟩⟩)
   refine ⟨acts', ?_,his⟩
   refine Ev.step (f:=fun k=>aG.j2 k (evs.length:Int) ((d+1:Nat):Int) true l i per evs acts) (fun k=> ?_) ?_
   ·simp only [aG.l1];rw [if_pos (by omega),decide_eq_true hm]
   refine Ev.step (fun k=> ?_) hev'
   simp only [aG.j2]
   rw [if_pos trivial,e1,Option.bind_some,e2,Option.bind_some,e3,Option.bind_some,w1,e4,Option.bind_some,if_neg (by omega),w2,e5,Option.bind_some,e6,Option.bind_some,if_pos (by omega),w3,w4,w5,w6]
   congr 1
   unfold wrap64
   omega
  refine ⟨acts, ?_,⟨hper,hev,by omega,ha⟩⟩
  refine Ev.step (f:=fun k=>aG.j2 k (evs.length:Int) ((d+1:Nat):Int) false l i per evs acts) (fun k=> ?_) ?_
  ·simp only [aG.l1];rw [if_pos (by omega),decide_eq_false hm]
  refine Ev.step (f:=fun _=>some (per,evs,acts)) (fun k=> ?_) (Ev.now _)
  simp only [aG.j2]
  rfl
theorem HJ (l:List Int) (hl:l.length≤281474976710656) (per:Int) (hper:2≤per∧per≤9):
  ∀ (d:Nat) (i:Int) (evs:List hO),0≤i→i≤(l.length:Int)→evs.length+d≤5→1≤evs.length+d→
   ∃ evs' acts',Ev (fun k=>aG.l0 k (d:Int) l i per evs) (per,evs',acts')∧wY per evs' acts':=by
 intro d
 induction d with
 |zero=>
  intro i evs h0 h1 hd hd1
  obtain ⟨a1,i1,e1,p1,q1,r1,s1⟩:=kG l i 9 hl h0 h1 (by omega) (by omega)
  obtain ⟨acts',he,hn⟩:=HI l hl per hper evs ⟨by omega,by omega⟩ a1.toNat i1 [] r1 s1 (by simp;omega) (by simp)
  refine ⟨evs,acts',Ev.step (fun k=> ?_) he,hn⟩
  simp only [aG.l0]
  rw [if_neg (by omega),e1,Option.bind_some]
  congr 1
  omega
 |succ d ih=>
  intro i evs h0 h1 hd hd1
  obtain ⟨a1,i1,e1,p1,q1,r1,s1⟩:=kG l i 2 hl h0 h1 (by omega) (by omega)
  obtain ⟨a2,i2,e2,p2,q2,r2,s2⟩:=kG l i1 3 hl r1 s1 (by omega) (by omega)
  obtain ⟨a3,i3,e3,p3,q3,r3,s3⟩:=kG l i2 3 hl r2 s2 (by omega) (by omega)
  obtain ⟨evs',acts',he,hn⟩:=ih i3 (evs++[⟨wrap64 (1+a1),a2,a3⟩]) r3 s3 (by simp;omega) (by simp;omega)
  refine ⟨evs',acts',Ev.step (fun k=> ?_) he,hn⟩
  simp only [aG.l0]
  rw [if_pos (by omega),e1,Option.bind_some,e2,Option.bind_some,e3,Option.bind_some,if_pos (by omega)]
  congr 1
  unfold wrap64
  omega
theorem C2 (l:List Int) (hl:l.length≤281474976710656):∃ per evs acts,Ev (fun k=>aG.f k l) (per,evs,acts)∧wY per evs acts:=by
 obtain ⟨a1,i1,e1,p1,q1,r1,s1⟩:=kG l 0 8 hl (by omega) (by omega) (by omega) (by omega)
 obtain ⟨a2,i2,e2,p2,q2,r2,s2⟩:=kG l i1 5 hl r1 s1 (by omega) (by omega)
 have w1:wrap64 (2+a1)=2+a1:=by unfold wrap64;omega
 obtain ⟨evs',acts',he,hn⟩:=HJ l hl (2+a1) ⟨by omega,by omega⟩ (1+a2).toNat i2 [] r2 s2 (by simp;omega) (by simp;omega)
 refine ⟨2+a1,evs',acts',Ev.congr (fun k=> ?_) he,hn⟩
 unfold aG.f ef.f
 simp only [Option.bind_some]
 rw [e1,Option.bind_some,e2,Option.bind_some,w1]
 congr 1
 unfold wrap64
 omega
theorem wY.ok {per:Int} {evs:List hO} {acts:List eu} (h:wY per evs acts):fD per evs.length acts=true:=by
 have:=h.hper
 have:=h.hevs
 have:=h.hacts
 simp only [fD,Bool.and_eq_true,decide_eq_true_eq,Bool.not_eq_true',List.any_eq_false]
 refine ⟨⟨⟨⟨by omega,by omega⟩,by omega⟩,by omega⟩,fun a ha=> ?_⟩
 obtain ⟨⟨_,_⟩,⟨_,_⟩,⟨_,_⟩,_,⟨_,_⟩,⟨_,_⟩,⟨_,_⟩⟩:=h.ends a ha
 simp [oH,wrap64]
 omega
end Go.Proofs.Ytbkjplomoegbdaa.yY
end
