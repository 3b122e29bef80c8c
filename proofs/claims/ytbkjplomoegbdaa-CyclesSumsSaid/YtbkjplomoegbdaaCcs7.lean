/- Parts of the proof of CyclesSums, gathered by a program of this claim out of texts that it or the kit's print wrote: lemmas alone, no condition of their own. -/
import Derived.Test.YtbkjplomoegbdaaCcs6
import Derived.StillTailTactics
section
namespace Go.Proofs.Ytbkjplomoegbdaa.PB
open Go.RowKit Go.Proofs.Ytbkjplomoegbdaa.UF Go.Proofs.YtbkjplomoegbdaaW.bO Go.Proofs.YtbkjplomoegbdaaW.dA Go.Proofs.YtbkjplomoegbdaaW.dG
set_option linter.unusedVariables false
set_option linter.unusedSimpArgs false
theorem FF (v:Value) (g:List Int) (i:Nat) (w0 w:World) (ok:Nat→Prop) (hB:Below w0.heap.size w0 w) (ho:Kd.R (Kd.int .i64) 3 w w0.heap.size ok v g) (hw:WF g) (hi:i<g.length):
    Calls Try.prog 132 #[v,.int .i64 (i:Int)] w fun e w'=>∃ g',e= .returned (.int .i64 (root g i:Nat))∧Kd.R (Kd.int .i64) 3 w' w0.heap.size ok v g'∧Below w0.heap.size w0 w'∧Kept w w' (fun k=>some k=v.ownBlock)∧WF g'∧g'.length=g.length∧∀ j,j<g.length→root g' j=root g j:=by
  obtain ⟨g',hev,h1,h2,h3⟩:=yV i g hw hi
  obtain ⟨k,hk⟩:=hev.rounds
  refine (bW.calls k (fun k=>some k=v.ownBlock) v g (i:Int) _ g' w0 w hB (Kd.ng rfl ho) hk).mono ?_
  rintro e w' ⟨rfl,a,b,c⟩
  exact ⟨g',rfl,Kd.qN rfl a ho.1,b,c,h1,h2,h3⟩
def qU (w0 w:World) (v:Value) (g:List Int) (bg:Nat) (W:World):Prop:=
  ∃ g',Kd.R (Kd.int .i64) 3 W w0.heap.size (fun k=>k≠bg) v g'∧Below w0.heap.size w0 W∧Kept w W (fun k=>some k=v.ownBlock)∧WF g'∧g'.length=g.length∧∀ j,j<g.length→root g' j=root g j
theorem qU.drewN {w0 w:World} {v:Value} {g:List Int} {bg:Nat} {W:World} (h:qU w0 w v g bg W) (n:Nat):qU w0 w v g bg (W.drewN n):=by
  obtain ⟨g',a,b,c,d⟩:=h
  exact ⟨g',Kd.av a n,ab b n,c.drewN n,d⟩
theorem qU.drew {w0 w:World} {v:Value} {g:List Int} {bg:Nat} {W:World} (h:qU w0 w v g bg W):qU w0 w v g bg W.drew:=h.drewN 1
theorem qU.find {w0 w:World} {v:Value} {g:List Int} {bg:Nat} {W:World} (h:qU w0 w v g bg W) (i:Nat) (hi:i<g.length) (S:World→Prop) (hS:∀ W',Kept W W' (fun k=>some k=v.ownBlock)→S W'):
    Calls Try.prog 132 #[v,.int .i64 (i:Int)] W fun e w'=>e= .returned (.int .i64 (root g i:Nat))∧S w'∧qU w0 w v g bg w':=by
  obtain ⟨g',a,b,c,d,l,r⟩:=h
  refine (FF v g' i w0 W _ b a d (by omega)).mono ?_
  rintro e w' ⟨g2,rfl,a2,b2,c2,d2,l2,r2⟩
  rw [r i hi]
  exact ⟨rfl,hS _ c2,g2,a2,b2,c.xZ c2 (fun k hk=> .inl hk),d2,by omega,fun j hj=>by rw [r2 j (by omega),r j hj]⟩
theorem gZ {W W':World} {S:Nat→Prop} (h:Kept W W' S) {p:Addr} {u:Value} (hc:W.cell? p=some u) (hb:¬S p.block):W'.cell? p=some u:=by
  have:=h.2 p.block (World.block_lt_of_cell? W p hc) hb
  simpa [World.cell?,this] using hc
theorem qU.LO {w0 w:World} {v:Value} {g:List Int} {bg na:Nat} {W:World} {u1 u2 u3:Value} (h:qU w0 w v g bg W) (i:Nat) (hi:i<g.length)
    (h1:W.cell? ⟨bg,0,none⟩=some u1) (h2:W.cell? ⟨na,1,none⟩=some u2) (h3:W.cell? ⟨na,2,none⟩=some u3) (hb:some bg≠v.ownBlock) (hn:some na≠v.ownBlock):
    Calls Try.prog 132 #[v,.int .i64 (i:Int)] W fun e w'=>e= .returned (.int .i64 (root g i:Nat))∧(w'.cell? ⟨bg,0,none⟩=some u1∧w'.cell? ⟨na,1,none⟩=some u2∧w'.cell? ⟨na,2,none⟩=some u3)∧qU w0 w v g bg w':=
  h.find i hi _ (fun W' hk=>⟨gZ hk h1 hb,gZ hk h2 hn,gZ hk h3 hn⟩)
set_option maxHeartbeats 1000000 in
set_option maxRecDepth 100000 in
theorem CK (v:Value) (g:List Int) (x:eu) (a b:Nat) (bg:Nat) (w0 w:World) (hB:Below w0.heap.size w0 w) (hgb:w.heap[bg]? =some (.cells #[v] 130 (0,0)))
    (ho:Kd.R (Kd.int .i64) 3 w w0.heap.size (fun k=>k≠bg) v g) (hw:WF g) (ha:x.f1=(a:Int)) (hb:x.f2=(b:Int)) (hal:a<g.length) (hbl:b<g.length):
    Calls Try.prog 139 #[.agg #[.int .i64 x.f0,.int .i64 x.f1,.int .i64 x.f2,.int .i64 x.f3,.int .i64 x.f4,.int .i64 x.f5],.pointer (some ⟨bg,0,none⟩)] w fun e w'=>
      e= .returned (.bool ((root g a:Int) !=(root g b:Int)))∧qU w0 w v g bg w':=by
  have sj:=Try.underlying36
  rw [ha,hb]
  have hlt:=cn hgb
  have hvb:∀ k,v.ownBlock=some k→k≠bg∧k<w.heap.size:=fun k hk=>⟨ho.1 k hk,Kd.gq ho k hk⟩
  have HH:∀ o,qU w0 w v g bg (w.alloc o):=fun o=>⟨g,Kd.aw ho o,hB.alloc hB.size o,(Kept.refl w _).alloc o,hw,rfl,fun _ _=>rfl⟩
  have HA:=aa.mk HH
  have HG:=aa.mk hgb
  have hob:some bg≠v.ownBlock:=fun e=>(hvb bg e.symm).1 rfl
  have hon:some w.heap.size≠v.ownBlock:=fun e=>absurd (hvb _ e.symm).2 (Nat.lt_irrefl _)
  have HOB:=aa.mk hob
  have HON:=aa.mk hon
  clear hob hon
  clear hB hgb ho hw HH hvb
  have hc0:∀ o,(w.alloc o).cell? ⟨bg,0,none⟩=some v:=fun o=>(ag (aj HG.out o) 0).trans rfl
  have oA:∀ o,(w.alloc o).drew.cell? ⟨bg,0,none⟩=some v:=hc0
  go_enter Try.func139,Try.ntmps139
  go_wp2_with fail
  go_region_held3 (fun W=>W.cell? ⟨bg,0,none⟩=some v∧W.cell? ⟨w.heap.size,1,none⟩=some (.int .i64 a)∧W.cell? ⟨w.heap.size,2,none⟩=some (.int .i64 b)∧qU w0 w v g bg W)
    (first|(refine ⟨hc0 _, ?_, ?_,(HA.out _).drew⟩<;>(go_simp;done))|exact ⟨k1,k2,k3,H1⟩|exact ⟨k1,k2,k3,H1.drew⟩|go_keep)
    ((go_at_call 132;first|((with_reducible refine (qU.LO (na:=w.heap.size) (u1:=v) (u2:= .int .i64 (a:Int)) (u3:= .int .i64 (b:Int)) (HA.out _).drew a hal (oA _) ?h2 ?h3 HOB.out HON.out).mono ?_);(case h2=>go_simp;done);(case h3=>go_simp;done);rintro e w1 ⟨rfl,⟨k1,k2,k3⟩,H1⟩)|((with_reducible refine (qU.LO H1 b hbl k1 k2 k3 HOB.out HON.out).mono ?_);rintro e w1 ⟨rfl,⟨k1,k2,k3⟩,H1⟩)))
  go_wp2
  go_ret
  exact ⟨rfl,H1⟩
def labels (n:Nat) (g:List Int):List Nat:=(List.range n).map (root g)
def JJ (L:List Nat) (a b:Nat):List Nat:=L.map fun x=>if x=max (L.getD a 0) (L.getD b 0) then min (L.getD a 0) (L.getD b 0) else x
def gP (acts:List eu):List Int→Int→List Nat→Option (List Nat)
  |[],_,L=>some L
  |i :: t,last,L=>
    if i≤last∨(acts.length:Int)≤i then none
    else if L.getD (acts.getD i.toNat jW).f1.toNat 0=L.getD (acts.getD i.toNat jW).f2.toNat 0 then none
    else gP acts t i (JJ L (acts.getD i.toNat jW).f1.toNat (acts.getD i.toNat jW).f2.toNat)
def gn (per:Int) (n:Nat) (acts:List eu) (tree:List Int):Bool:=
  fD per n acts&&match gP acts tree (-1) (List.range n) with
    |none=>false
    |some L=>acts.all fun a=>L.getD a.f1.toNat 0==L.getD a.f2.toNat 0
def eJ.f (aI:Int) (aD:List (hO)) (au:List (eu)) (l1:List Int):Option (Bool):=some (gn aI aD.length au l1)
theorem mr {n:Nat} {g:List Int} {i:Nat} (h:i<n):(labels n g).getD i 0=root g i:=by
  unfold labels
  simp [List.getD_eq_getElem?_getD,h]
theorem CM (n:Nat):labels n (Bj n)=List.range n:=by
  unfold labels
  refine List.ext_getElem (by simp) fun j h1 h2=> ?_
  simp at h1
  simp [Hj n j h1]
theorem Bm {n:Nat} {g g':List Int} {a b:Nat} (ha:a<n) (hb:b<n) (h:∀ j,j<n→root g' j=if root g j=max (root g a) (root g b) then min (root g a) (root g b) else root g j):labels n g'=JJ (labels n g) a b:=by
  unfold JJ
  rw [mr ha,mr hb]
  unfold labels
  rw [List.map_map]
  refine List.map_congr_left fun j hj=> ?_
  rw [h j (by simpa using hj)]
  rfl
theorem l8 {per:Int} {n:Nat} {acts:List eu} (h:fD per n acts=true) {x:eu} (hx:x ∈ acts):(0≤x.f1∧x.f1.toNat<n)∧(0≤x.f2∧x.f2.toNat<n):=by
  simp only [fD,Bool.and_eq_true,Bool.not_eq_true',List.any_eq_false] at h
  have:=h.2 x hx
  simp [oH] at this
  omega
theorem CN (v:Value) (g:List Int) (i k:Nat) (w0 w:World) (ok:Nat→Prop) (hB:Below w0.heap.size w0 w) (ho:Kd.R (Kd.int .i64) 3 w w0.heap.size ok v g) (hw:WF g) (hi:i<g.length) (hk:k<g.length):
    Calls Try.prog 131 #[v,.int .i64 (i:Int),.int .i64 (k:Int)] w fun e w'=>∃ g',e= .returned (.bool ((root g i:Int) !=(root g k:Int)))∧Kd.R (Kd.int .i64) 3 w' w0.heap.size ok v g'∧Below w0.heap.size w0 w'∧Kept w w' (fun k=>some k=v.ownBlock)∧WF g'∧g'.length=g.length∧
      ∀ j,j<g.length→root g' j=if root g j=max (root g i) (root g k) then min (root g i) (root g k) else root g j:=by
  obtain ⟨g',hev,h1,h2,h3⟩:=tw g hw i k hi hk
  obtain ⟨m,hm⟩:=hev.rounds
  refine (jO.calls m (fun k=>some k=v.ownBlock) v g (i:Int) (k:Int) _ g' w0 w hB (Kd.ng rfl ho) hm).mono ?_
  rintro e w' ⟨rfl,a,b,c⟩
  exact ⟨g',rfl,Kd.qN rfl a ho.1,b,c,h1,h2,h3⟩
structure FI (w0:World) (cs:Array Value) (v:Value) (bn bg n:Nat) (W:World) (g:List Int):Prop where
  nb:W.heap[bn]? =some (.cells cs 26 (0,0))
  gb:W.heap[bg]? =some (.cells #[v] 130 (0,0))
  row:Kd.R (Kd.int .i64) 3 W w0.heap.size (fun k=>k≠bn∧k≠bg) v g
  bel:Below w0.heap.size w0 W
  wf:WF g
  len:g.length=n
namespace FI
variable {w0:World} {cs:Array Value} {v:Value} {bn bg n:Nat} {W:World} {g:List Int}
theorem drewN (h:FI w0 cs v bn bg n W g) (m:Nat):FI w0 cs v bn bg n (W.drewN m) g:=⟨h.nb,h.gb,Kd.av h.row m,ab h.bel m,h.wf,h.len⟩
theorem drew (h:FI w0 cs v bn bg n W g):FI w0 cs v bn bg n W.drew g:=h.drewN 1
theorem mO (h:FI w0 cs v bn bg n W g):some bn≠v.ownBlock∧some bg≠v.ownBlock:=⟨fun e=>(h.row.1 bn e.symm).1 rfl,fun e=>(h.row.1 bg e.symm).2 rfl⟩
theorem kept {W':World} {g':List Int} (h:FI w0 cs v bn bg n W g) (hk:Kept W W' (fun k=>some k=v.ownBlock)) (hr:Kd.R (Kd.int .i64) 3 W' w0.heap.size (fun k=>k≠bn∧k≠bg) v g') (hb:Below w0.heap.size w0 W') (hw:WF g') (hl:g'.length=g.length):FI w0 cs v bn bg n W' g':=
  ⟨nr h.nb hk h.mO.1,nr h.gb hk h.mO.2,hr,hb,hw,hl.trans h.len⟩
theorem merge (h:FI w0 cs v bn bg n W g) (a b:Nat) (ha:a<n) (hb:b<n) (S:World→Prop) (hS:∀ W',Kept W W' (fun k=>some k=v.ownBlock)→S W'):
    Calls Try.prog 131 #[v,.int .i64 (a:Int),.int .i64 (b:Int)] W fun e w'=>∃ g',e= .returned (.bool ((root g a:Int) !=(root g b:Int)))∧S w'∧FI w0 cs v bn bg n w' g'∧labels n g'=JJ (labels n g) a b:=by
  refine (CN v g a b w0 W _ h.bel h.row h.wf (by rw [h.len];exact ha) (by rw [h.len];exact hb)).mono ?_
  rintro e w' ⟨g',rfl,hr,hbl,hk,hw,hl,hj⟩
  exact ⟨g',rfl,hS _ hk,h.kept hk hr hbl hw hl,Bm ha hb (fun j hjn=>hj j (by rw [h.len];exact hjn))⟩
theorem lit (h:FI w0 cs v bn bg n W g) (x:eu) (a b:Nat) (ha:x.f1=(a:Int)) (hb:x.f2=(b:Int)) (hal:a<n) (hbl:b<n):
    Calls Try.prog 139 #[.agg #[.int .i64 x.f0,.int .i64 x.f1,.int .i64 x.f2,.int .i64 x.f3,.int .i64 x.f4,.int .i64 x.f5],.pointer (some ⟨bg,0,none⟩)] W fun e w'=>
      e= .returned (.bool ((root g a:Int) !=(root g b:Int)))∧∃ g',FI w0 cs v bn bg n w' g'∧∀ j,j<n→root g' j=root g j:=by
  refine (CK v g x a b bg w0 W h.bel h.gb (Kd.bN h.row (fun k hk=>hk.2)) h.wf ha hb (by rw [h.len];exact hal) (by rw [h.len];exact hbl)).mono ?_
  rintro e w' ⟨rfl,g',hr,hB,hk,hw,hl,hj⟩
  exact ⟨rfl,g',h.kept hk (Kd.qN rfl hr (fun k e=>h.row.1 k e)) hB hw hl,fun j hjn=>hj j (by rw [h.len];exact hjn)⟩
end FI
end Go.Proofs.Ytbkjplomoegbdaa.PB
end
section
namespace Go.Proofs.Ytbkjplomoegbdaa.PB
open Go.RowKit Go.Proofs.Ytbkjplomoegbdaa.UF Go.Proofs.YtbkjplomoegbdaaW.bO Go.Proofs.YtbkjplomoegbdaaW.dA Go.Proofs.YtbkjplomoegbdaaW.dG
set_option linter.unusedVariables false
set_option linter.unusedSimpArgs false
set_option maxHeartbeats 2000000 in
set_option maxRecDepth 100000 in
theorem eJ.calls (aI:Int) (bh:Option Addr) (bi:Nat) (aD:List (hO)) (bu:Option Addr) (aW:Nat) (au:List (eu)) (A1:Option Addr) (c1:Nat) (l1:List Int) (r:Bool) (w:World) (eI:Kd.C oS w bh aD.length aD) (eS:aD.length≤bi) (eC:Kd.C nD w bu au.length au) (eT:au.length≤aW) (mh:Kd.C (Kd.int .i64) w A1 l1.length l1) (oA:l1.length≤c1) (h:eJ.f aI aD au l1=some r):
    Calls Try.prog 88 #[.agg #[.int .i64 aI,.slice bh aD.length bi,.slice bu au.length aW],.slice A1 l1.length c1] w fun e w'=>e= .returned (.bool r)∧Below w.heap.size w w':=by
  obtain rfl:=Option.some.inj h
  clear h
  have nu:=Try.underlying26
  have sj:=Try.underlying36
  have sK:=aa.mk eI
  have nw:=aa.mk eC
  have lA:=aa.mk mh
  have sL:=aa.mk eS
  have sM:=aa.mk eT
  have m1:=Kd.jZ eI
  have m2:=Kd.jZ eC
  have m3:=Kd.jZ mh
  clear eI eC eS eT mh oA
  have EG:=aa.mk (enters_of Try.func139 (by kernel_rfl) rfl)
  cases hok:fD aI aD.length au with
  |false=>
    have hres:gn aI aD.length au l1=false:=by simp [gn,hok]
    have HRES:=aa.mk hres
    have HOK:=aa.mk hok
    clear hres hok
    go_enter Try.func88,Try.ntmps88
    go_wp2_with (go_at_call 92;refine (fg.calls aI bh bi aD bu aW au false _ ?h1 sL.out ?h2 sM.out (by simp [fg.f,HOK.out])).mono ?_;(case h1=>exact Kd.aT sK.out _);(case h2=>exact Kd.aT nw.out _);rintro e w' ⟨rfl,hb⟩)
    go_ret
    rw [HRES.out]
    exact ⟨rfl,aE (ae (Below.refl _ _) _) hb⟩
  |true=>
    have HOK:=aa.mk hok
    have hn:aD.length≤48:=by simp [fD] at hok;omega
    clear hok
    obtain ⟨ka,hka⟩:=(Hl aD.length (by omega)).rounds
    have HKA:=aa.mk hka
    clear hka
    go_enter Try.func88,Try.ntmps88
    go_wp2_with (first|(go_at_call 92;refine (fg.calls aI bh bi aD bu aW au true _ ?h1 sL.out ?h2 sM.out (by simp [fg.f,HOK.out])).mono ?_;(case h1=>exact Kd.aT sK.out _);(case h2=>exact Kd.aT nw.out _);rintro e w1 ⟨rfl,hb⟩;have hnb:=aH (gC w (.cells #[.int .i64 aI,.slice bh aD.length bi,.slice bu au.length aW] 26)) hb;have q0:=(ag hnb 0).trans rfl;have q1:=(ag hnb 1).trans rfl;have q2:=(ag hnb 2).trans rfl;have HNB:=aa.mk hnb;have ux:=aa.mk (aE (ae (Below.refl _ _) _) hb);clear hb hnb)|(go_at_call 130;refine (dM.calls ka (aD.length:Int) (Bj aD.length) _ HKA.out).mono ?_;rintro e w2 ⟨v,rfl,hrow,hb⟩;obtain ⟨Av,cv,ev⟩:=Kd.cA hrow;rw [mU] at ev;subst ev;have hnb:=aH HNB.out hb;have HR:=aa.mk hrow;have YV:=aa.mk (cn HNB.out);clear q0 q1 q2 HNB hrow;have q0:=(ag hnb 0).trans rfl;have q1:=(ag hnb 1).trans rfl;have q2:=(ag hnb 2).trans rfl;have HNB:=aa.mk hnb;have O6:=aa.mk (aE ux.out hb);have HS2:=aa.mk hb.size;clear hb hnb ux))
    have hFI:FI w #[.int .i64 aI,.slice bh aD.length bi,.slice bu au.length aW] (.slice Av aD.length cv) w.heap.size w2.heap.size aD.length (w2.alloc (.cells #[.slice Av aD.length cv] 130)) (Bj aD.length):=
      ⟨aj HNB.out _,gC _ _,Kd.aw (Kd.bN (Kd.eH (Kd.gS HR.out) (Nat.le_of_lt YV.out)) (fun k hk=>⟨by have:=YV.out;omega,by omega⟩)) _,ae O6.out _,Nv _,mU _⟩
    clear q0 q1 q2
    generalize w2.heap.size=bg at hFI ⊢
    generalize w2.alloc (.cells #[.slice Av aD.length cv] 130)=W0 at hFI ⊢
    have Hm:=aa.mk hFI
    clear hFI HR HNB O6 YV HS2 HKA
    go_loopw [6,18] (fun v6 JK W=>∃ (i:Nat) (last:Int) (g:List Int),i≤l1.length∧JK= .int .i64 i∧v6= .int .i64 last∧-1≤last∧aa (FI w #[.int .i64 aI,.slice bh aD.length bi,.slice bu au.length aW] (.slice Av aD.length cv) w.heap.size bg aD.length W g)∧aa (gP au l1 (-1) (List.range aD.length)=gP au (l1.drop i) last (labels aD.length g))) (fun _ JK _=>l1.length - (intOf JK).toNat)
    case atStart=>exact ⟨0,-1,Bj aD.length,Nat.zero_le _,rfl,rfl,Int.le_refl _,Hm,⟨by rw [CM];rfl⟩⟩
    case round=>
      obtain ⟨i,last,g,hi,rfl,rfl,hlast,HF,HE⟩:=hrel
      clear Hm
      by_cases hlt:i<l1.length
      · have hdrop:l1.drop i=rd l1 i :: l1.drop (i+1):=by
          rw [List.drop_eq_getElem_cons hlt];simp [rd,List.getD_eq_getElem?_getD,hlt]
        obtain ⟨qg,e1,hx1⟩:=Kd.dN (Kd.aN lA.out HF.out.bel) (i:Int) (by omega) (by omega)
        cases e1
        rw [Int.toNat_natCast] at hx1
        have q0:wr.cell? ⟨w.heap.size,0,none⟩=some (.int .i64 aI):=(ag HF.out.nb 0).trans rfl
        have q1:wr.cell? ⟨w.heap.size,1,none⟩=some (.slice bh aD.length bi):=(ag HF.out.nb 1).trans rfl
        have q2:wr.cell? ⟨w.heap.size,2,none⟩=some (.slice bu au.length aW):=(ag HF.out.nb 2).trans rfl
        have q3:wr.cell? ⟨bg,0,none⟩=some (.slice Av aD.length cv):=(ag HF.out.gb 0).trans rfl
        have HD:=aa.mk hdrop
        clear hdrop
        generalize hx:rd l1 i=x at hx1 HD
        clear hx
        by_cases h1:x≤last
        · have h1b:decide (x≤last)=true:=decide_eq_true h1
          have hres:gn aI aD.length au l1=false:=by
            unfold gn
            rw [HE.out,HD.out]
            simp only [gP]
            rw [if_pos (.inl h1)]
            simp
          have HRES:=aa.mk hres
          clear hres
          go_wp2_with fail
          go_quiet (fail)
          go_wp2
          go_ret
          rw [HRES.out]
          exact ⟨rfl,ab HF.out.bel _⟩
        · have h1b:decide (x≤last)=false:=decide_eq_false h1
          have hx0:0≤x:=by omega
          by_cases h2:(au.length:Int)≤x
          · have h2b:decide ((au.length:Int)≤x)=true:=decide_eq_true h2
            have hres:gn aI aD.length au l1=false:=by
              unfold gn
              rw [HE.out,HD.out]
              simp only [gP]
              rw [if_pos (.inr h2)]
              simp
            have HRES:=aa.mk hres
            clear hres
            go_wp2_with fail
            go_quiet (fail)
            go_wp2
            go_ret
            rw [HRES.out]
            exact ⟨rfl,ab HF.out.bel _⟩
          · have h2b:decide ((au.length:Int)≤x)=false:=decide_eq_false h2
            have hmem:au.getD x.toNat jW ∈ au:=oG (by omega)
            obtain ⟨⟨n1,n2⟩,n3,n4⟩:=l8 HOK.out hmem
            obtain ⟨ad,e,g0,g1,g2,g3,g4,g5⟩:=i9 (Kd.aN nw.out HF.out.bel) x hx0 (by omega)
            cases e
            have hadl:ad.block<w.heap.size:=Kd.Jf nw.out (by omega) (by decide)
            have ea:(aC au x).f1=(((au.getD x.toNat jW).f1.toNat:Nat):Int):=by unfold aC;omega
            have eb:(aC au x).f2=(((au.getD x.toNat jW).f2.toNat:Nat):Int):=by unfold aC;omega
            rw [ea] at g1
            rw [eb] at g2
            clear ea eb g0 g3 g4 g5
            generalize hA:(au.getD x.toNat jW).f1.toNat=na at g1 n2
            generalize hB:(au.getD x.toNat jW).f2.toNat=nb at g2 n4
            have HAA:=aa.mk hA
            have HBB:=aa.mk hB
            clear hA hB
            have hob:∀ k,some k=(Value.slice Av aD.length cv).ownBlock→w.heap.size≤k:=fun k hk=>Kd.iZ HF.out.row k hk.symm
            have hoa:¬some (ad.add (x.toNat*6)).block=(Value.slice Av aD.length cv).ownBlock:=fun h=>by have:=hob _ h;rw [kB] at this;omega
            have hoc:=HF.out.mO
            have HOA:=aa.mk hoa
            have HOC:=aa.mk hoc
            clear hob hoa hoc
            have hcs:∀ W,Kept wr.drew W (fun k=>some k=(Value.slice Av aD.length cv).ownBlock)→W.cell? ⟨bg,0,none⟩=some (.slice Av aD.length cv)∧W.cell? ⟨w.heap.size,2,none⟩=some (.slice (some ad) au.length aW)∧W.cell? ⟨(ad.add (x.toNat*6)).block,(ad.add (x.toNat*6)).off+1,none⟩=some (.int .i64 (na:Int))∧W.cell? ⟨(ad.add (x.toNat*6)).block,(ad.add (x.toNat*6)).off+2,none⟩=some (.int .i64 (nb:Int)):=fun W hk=>⟨gZ hk q3 HOC.out.2,gZ hk q2 HOC.out.1,gZ hk g1 HOA.out,gZ hk g2 HOA.out⟩
            have HCS:=aa.mk hcs
            have HME:=aa.mk (FI.merge HF.out.drew na nb n2 n4 (fun W=>W.cell? ⟨bg,0,none⟩=some (.slice Av aD.length cv)∧W.cell? ⟨w.heap.size,2,none⟩=some (.slice (some ad) au.length aW)∧W.cell? ⟨(ad.add (x.toNat*6)).block,(ad.add (x.toNat*6)).off+1,none⟩=some (.int .i64 (na:Int))∧W.cell? ⟨(ad.add (x.toNat*6)).block,(ad.add (x.toNat*6)).off+2,none⟩=some (.int .i64 (nb:Int))) HCS.out)
            clear hcs
            go_wp2_with fail
            go_region_held3 (fun W=>W.cell? ⟨bg,0,none⟩=some (.slice Av aD.length cv)∧W.cell? ⟨w.heap.size,2,none⟩=some (.slice (some ad) au.length aW)∧W.cell? ⟨(ad.add (x.toNat*6)).block,(ad.add (x.toNat*6)).off+1,none⟩=some (.int .i64 (na:Int))∧W.cell? ⟨(ad.add (x.toNat*6)).block,(ad.add (x.toNat*6)).off+2,none⟩=some (.int .i64 (nb:Int)))
              (first|exact ⟨q3,q2,g1,g2⟩|exact k0|go_keep)
              ((go_at_call 131;(with_reducible refine HME.out.mono ?_);rintro e w1 ⟨g',rfl,k0,H1,HL⟩))
            have hgo:gP au (x :: l1.drop (i+1)) last (labels aD.length g)=if root g na=root g nb then none else gP au (l1.drop (i+1)) x (JJ (labels aD.length g) na nb):=by
              simp only [gP]
              rw [if_neg (by omega),HAA.out,HBB.out,mr n2,mr n4]
            have HGO:=aa.mk hgo
            clear hgo HCS HME HOA HOC HAA HBB
            cases hbv:((root g na:Int) !=(root g nb:Int)) with
            |false=>
              have hres:gn aI aD.length au l1=false:=by
                have he:root g na=root g nb:=by have:=hbv;simp at this;omega
                unfold gn
                rw [HE.out,HD.out,HGO.out,if_pos he]
                simp
              have HRES:=aa.mk hres
              clear hres
              go_wp2
              go_ret
              rw [HRES.out]
              exact ⟨rfl,H1.bel⟩
            |true=>
              have he:¬root g na=root g nb:=by have:=hbv;simp at this;omega
              have HNE:=aa.mk he
              clear he
              go_wp2
              go_roundw
              case rel=>exact ⟨i+1,x,g',by omega,by go_num,rfl,by omega,⟨H1⟩,⟨by rw [HE.out,HD.out,HGO.out,if_neg HNE.out,HL]⟩⟩
              case measure=>simp [intOf];omega
      · have hend:l1.drop i=[]:=List.drop_eq_nil_of_le (by omega)
        have hres:gn aI aD.length au l1= !(au.any fun x=>(root g x.f1.toNat:Int) !=(root g x.f2.toNat:Int)):=by
          unfold gn
          rw [HE.out,hend,HOK.out]
          simp only [gP,Bool.true_and]
          rw [List.not_any_eq_all_not]
          have hall:∀ a ∈ au,((labels aD.length g).getD a.f1.toNat 0==(labels aD.length g).getD a.f2.toNat 0)= !((root g a.f1.toNat:Int) !=(root g a.f2.toNat:Int)):=by
            intro a ha
            obtain ⟨⟨_,n2⟩,_,n4⟩:=l8 HOK.out ha
            rw [mr n2,mr n4,Bool.eq_iff_iff]
            simp
            omega
          rw [Bool.eq_iff_iff,List.all_eq_true,List.all_eq_true]
          exact ⟨fun h a ha=>by rw [← hall a ha];exact h a ha,fun h a ha=>by rw [hall a ha];exact h a ha⟩
        have HRES:=aa.mk hres
        clear hres
        have q0:wr.cell? ⟨w.heap.size,0,none⟩=some (.int .i64 aI):=(ag HF.out.nb 0).trans rfl
        have q1:wr.cell? ⟨w.heap.size,1,none⟩=some (.slice bh aD.length bi):=(ag HF.out.nb 1).trans rfl
        have q2:wr.cell? ⟨w.heap.size,2,none⟩=some (.slice bu au.length aW):=(ag HF.out.nb 2).trans rfl
        have HANY:=aa.mk (LN (fun W=>∃ g',FI w #[.int .i64 aI,.slice bh aD.length bi,.slice bu au.length aW] (.slice Av aD.length cv) w.heap.size bg aD.length W g'∧∀ j,j<aD.length→root g' j=root g j) (fun x=>(root g x.f1.toNat:Int) !=(root g x.f2.toNat:Int)) 139 #[.pointer (some ⟨bg,0,none⟩)] bu aW au wr ⟨g,HF.out,fun _ _=>rfl⟩ EG.out
          (fun W x hx ⟨g',hf,hj⟩=>by
            obtain ⟨⟨n1,n2⟩,n3,n4⟩:=l8 HOK.out hx
            refine (hf.lit x x.f1.toNat x.f2.toNat (by omega) (by omega) n2 n4).mono ?_
            rintro e w' ⟨rfl,g2,hf2,hj2⟩
            exact ⟨by rw [hj _ n2,hj _ n4],g2,hf2,fun j hjn=>by rw [hj2 j hjn,hj j hjn]⟩) (fun W ⟨g',hf,_⟩=>Kd.aN nw.out hf.bel))
        rw [uw] at HANY
        clear HE HF EG
        go_wp2_with (go_at_call 138;(with_reducible refine HANY.out.mono ?_);rintro e w3 ⟨rfl,g3,HF3,_⟩)
        go_ret
        rw [HRES.out]
        exact ⟨rfl,HF3.bel⟩
end Go.Proofs.Ytbkjplomoegbdaa.PB
end
section
namespace Go.Proofs.Ytbkjplomoegbdaa.PB
open Go.RowKit Go.Proofs.YtbkjplomoegbdaaW.bO Go.Proofs.YtbkjplomoegbdaaW.dA Go.Proofs.YtbkjplomoegbdaaW.dG
attribute [local go_sem] iQ iR jM jN gW gX iS iT
set_option linter.unusedVariables false
set_option linter.unusedSimpArgs false
def dr.f:Option (Bool):=(dJ.f).bind fun wT=>((eJ.f wT.1 wT.2.1 wT.2.2 (([1,2]:List Int))).bind fun xQ=>(if xQ=true then ((dJ.f).bind fun kO=>((eJ.f kO.1 kO.2.1 kO.2.2 (([1]:List Int))).bind fun qH=>(some (!qH)))) else (some false)))
set_option maxHeartbeats 8000000 in
set_option maxRecDepth 100000 in
theorem dr.calls (r:Bool) (w:World) (h:dr.f=some r):
  Calls Try.prog 39 #[] w fun e w'=>e= .returned (.bool r)∧Below w.heap.size w w':=by
 have HB:=aa.mk (Below.refl w.heap.size w)
 have H:((dJ.f).bind fun wT=>((eJ.f wT.1 wT.2.1 wT.2.2 (([1,2]:List Int))).bind fun xQ=>(if xQ=true then ((dJ.f).bind fun kO=>((eJ.f kO.1 kO.2.1 kO.2.2 (([1]:List Int))).bind fun qH=>(some (!qH)))) else (some false))))=some r:=h
 clear h
 replace H:=Option.bind_eq_some_iff.mp H
 obtain ⟨⟨Bn,Bo,Bp⟩,LP,H⟩:=H
 replace H:((eJ.f Bn Bo Bp (([1,2]:List Int))).bind fun xQ=>(if xQ=true then ((dJ.f).bind fun kO=>((eJ.f kO.1 kO.2.1 kO.2.2 (([1]:List Int))).bind fun qH=>(some (!qH)))) else (some false)))=some r:=H
 have A1:=aa.mk LP
 clear LP
 obtain ⟨Hn,Bq⟩:∃ y_:List Int,y_=(([1,2]:List Int)):=⟨_,rfl⟩
 replace H:((eJ.f Bn Bo Bp Hn).bind fun xQ=>(if xQ=true then ((dJ.f).bind fun kO=>((eJ.f kO.1 kO.2.1 kO.2.2 (([1]:List Int))).bind fun qH=>(some (!qH)))) else (some false)))=some r:=by first|(rw [Bq];with_reducible exact H)|(have gT:=(Option.bind_some _ _).symm.trans H;rw [Bq];with_reducible exact gT)|(have gT:=(Option.bind_some _ _).symm.trans H;with_reducible exact gT)|with_reducible exact H|(rw [Bq];exact H)|exact H
 have DN:=aa.mk Bq
 clear Bq
 replace H:=Option.bind_eq_some_iff.mp H
 obtain ⟨xQ,LF,H⟩:=H
 replace H:(if xQ=true then ((dJ.f).bind fun kO=>((eJ.f kO.1 kO.2.1 kO.2.2 (([1]:List Int))).bind fun qH=>(some (!qH)))) else (some false))=some r:=H
 have A2:=aa.mk LF
 clear LF
 by_cases c3:xQ=true
 ·subst c3
  have H1:((dJ.f).bind fun kO=>((eJ.f kO.1 kO.2.1 kO.2.2 (([1]:List Int))).bind fun qH=>(some (!qH))))=some r:=by rw [if_pos rfl] at H;exact H
  clear H
  have H:=H1
  clear H1
  replace H:=Option.bind_eq_some_iff.mp H
  obtain ⟨⟨JL,JM,JN⟩,yK,H⟩:=H
  replace H:((eJ.f JL JM JN (([1]:List Int))).bind fun qH=>(some (!qH)))=some r:=H
  have A4:=aa.mk yK
  clear yK
  obtain ⟨Qp,Br⟩:∃ y_:List Int,y_=(([1]:List Int)):=⟨_,rfl⟩
  replace H:((eJ.f JL JM JN Qp).bind fun qH=>(some (!qH)))=some r:=by first|(rw [Br];with_reducible exact H)|(have gT:=(Option.bind_some _ _).symm.trans H;rw [Br];with_reducible exact gT)|(have gT:=(Option.bind_some _ _).symm.trans H;with_reducible exact gT)|with_reducible exact H|(rw [Br];exact H)|exact H
  have LQ:=aa.mk Br
  clear Br
  replace H:=Option.bind_eq_some_iff.mp H
  obtain ⟨qH,DC,H⟩:=H
  replace H:(some (!qH))=some r:=H
  have A5:=aa.mk DC
  clear DC
  obtain rfl:=Option.some.inj H
  go_enter Try.func39,Try.ntmps39
  go_wp2_with (first|((with_reducible refine bY (f:=79) rfl ?_);refine er (some 1) rfl rfl Try.func79 (by kernel_rfl) rfl #[] rfl (by (try simp only [List.map_toArray,List.map_cons,List.map_nil]);first|done|rfl|(simp only [List.length_drop,List.length_take];rfl)) ?_;(with_reducible refine (dJ.calls Bn Bo Bp _ A1.out).mono ?_);rintro e w6 ⟨YW,YX,rfl,mN,qh,hb⟩;refine ⟨_,rfl, ?_⟩;have br:=aa.mk (Kd.eH mN (az (by repeat (first|(with_reducible first|exact HB.out|apply ae|apply ab|apply af)|exact HB.out))));have bt:=aa.mk (Kd.eH qh (az (by repeat (first|(with_reducible first|exact HB.out|apply ae|apply ab|apply af)|exact HB.out))));have bA:=aa.mk (aE (by repeat (first|(with_reducible first|exact HB.out|apply ae|apply ab|apply af)|exact HB.out)) hb);clear HB;have jz:=br;have jA:=bt;have HB:=bA;clear br bt bA;(try clear hb);(try clear hb2);(try clear hk);(try clear hi);(try clear mN);(try clear qh))|((with_reducible refine bF (N:=2) rfl ?_);(try (refine gB (by rfl) ?_;dsimp only));refine Kd.qL (Kd.int .i64) _ 3 ?hg (N:=2) ?hd (xs:=([1,2]:List Int)) (inner:=[.int .i64 1,.int .i64 2]) (ok:=fun _=>True) (okp:=fun _=>True) ?hr ?hp (fun _ hk=>hk) trivial (Below.refl _ _) (Nat.le_refl _) (by simp) ?_;(case hd=>rfl);(case hg=>rfl);(case hr=>first|(go_simp;done)|(go_simp;rfl));(case hp=>exact (gH.one (show Kd.M (Kd.int .i64) _ _ _ 1 [.int .i64 1] from rfl) (gH.one (show Kd.M (Kd.int .i64) _ _ _ 2 [.int .i64 2] from rfl) (gH.none _ _))));intro YY w7 Qq hb hg_ hnew_;clear hg_ hnew_;(first|rw [← DN.out] at Qq|(simp only [Int.reduceToNat] at Qq;rw [← DN.out] at Qq));have br:=aa.mk (Kd.aZ (by (with_reducible repeat (first|apply Kd.aw|apply Kd.av|apply Kd.aA));exact jz.out) hb);have bt:=aa.mk (Kd.aZ (by (with_reducible repeat (first|apply Kd.aw|apply Kd.av|apply Kd.aA));exact jA.out) hb);have bA:=aa.mk (Kd.eH Qq (az (by repeat (first|(with_reducible first|exact HB.out|apply ae|apply ab|apply af)|exact HB.out))));have bK:=aa.mk (aE (by repeat (first|(with_reducible first|exact HB.out|apply ae|apply ab|apply af)|exact HB.out)) hb);clear jz;clear jA;clear HB;have jz:=br;have jA:=bt;have kP:=bA;have HB:=bK;clear br bt bA bK;clear hb Qq;obtain ⟨Yv,PH,O3⟩:=Kd.cA jz.out;subst O3;obtain ⟨G3,Bf,sJ⟩:=Kd.cA jA.out;subst sJ;obtain ⟨Bh,yT,Ng⟩:=Kd.cA kP.out;subst Ng)|((with_reducible refine bY (f:=88) rfl ?_);refine er (some 3) rfl rfl Try.func88 (by kernel_rfl) rfl #[.agg #[.int .i64 Bn,.slice Yv Bo.length PH,.slice G3 Bp.length Bf],.slice Bh Hn.length yT] rfl (by (try simp only [List.map_toArray,List.map_cons,List.map_nil]);first|done|rfl|(simp only [List.length_drop,List.length_take];rfl)) ?_;(with_reducible refine (eJ.calls Bn _ _ Bo _ _ Bp _ _ Hn true _ ?bS ?bT ?cJ ?cN ?du ?dw A2.out).mono ?_);(case bS=>repeat (first|exact (Kd.bf jz.out).2.2|(with_reducible refine Kd.aT ?_ _)|(with_reducible refine Kd.aU ?_ _)|(with_reducible refine Kd.bk ?_)));(case bT=>exact (Kd.bf jz.out).2.1);(case cJ=>repeat (first|exact (Kd.bf jA.out).2.2|(with_reducible refine Kd.aT ?_ _)|(with_reducible refine Kd.aU ?_ _)|(with_reducible refine Kd.bk ?_)));(case cN=>exact (Kd.bf jA.out).2.1);(case du=>repeat (first|exact (Kd.bf kP.out).2.2|(with_reducible refine Kd.aT ?_ _)|(with_reducible refine Kd.aU ?_ _)|(with_reducible refine Kd.bk ?_)));(case dw=>exact (Kd.bf kP.out).2.1);rintro e yd ⟨rfl,hb⟩;refine ⟨_,rfl, ?_⟩;have br:=aa.mk (Kd.aZ (by (with_reducible repeat (first|apply Kd.aw|apply Kd.av|apply Kd.aA));exact jz.out) hb);have bt:=aa.mk (Kd.aZ (by (with_reducible repeat (first|apply Kd.aw|apply Kd.av|apply Kd.aA));exact jA.out) hb);have bA:=aa.mk (Kd.aZ (by (with_reducible repeat (first|apply Kd.aw|apply Kd.av|apply Kd.aA));exact kP.out) hb);have bK:=aa.mk (aE (by repeat (first|(with_reducible first|exact HB.out|apply ae|apply ab|apply af)|exact HB.out)) hb);clear jz;clear jA;clear kP;clear HB;have jz:=br;have jA:=bt;have kP:=bA;have HB:=bK;clear br bt bA bK;(try clear hb);(try clear hb2);(try clear hk);(try clear hi))|(go_at_call 79;(with_reducible refine (dJ.calls JL JM JN _ A4.out).mono ?_);rintro e rK ⟨adJ,adK,rfl,mN,qh,hb⟩;have br:=aa.mk (Kd.kx (by (with_reducible repeat (first|apply Kd.aw|apply Kd.av|apply Kd.aA));exact jz.out) (Kd.iZ mN) hb);have bt:=aa.mk (Kd.kx (by (with_reducible repeat (first|apply Kd.aw|apply Kd.av|apply Kd.aA));exact jA.out) (Kd.iZ qh) hb);have bA:=aa.mk (Kd.aZ (by (with_reducible repeat (first|apply Kd.aw|apply Kd.av|apply Kd.aA));exact kP.out) hb);have bK:=aa.mk (Kd.eH (Kd.oy mN (Kd.gq (by (with_reducible repeat (first|apply Kd.aw|apply Kd.av|apply Kd.aA));exact jz.out))) (az (by repeat (first|(with_reducible first|exact HB.out|apply ae|apply ab|apply af)|exact HB.out))));have cL:=aa.mk (Kd.eH (Kd.oy qh (Kd.gq (by (with_reducible repeat (first|apply Kd.aw|apply Kd.av|apply Kd.aA));exact jA.out))) (az (by repeat (first|(with_reducible first|exact HB.out|apply ae|apply ab|apply af)|exact HB.out))));have dc:=aa.mk (aE (by repeat (first|(with_reducible first|exact HB.out|apply ae|apply ab|apply af)|exact HB.out)) hb);clear jz;clear jA;clear kP;clear HB;have jz:=br;have jA:=bt;have kP:=bA;have tA:=bK;have tB:=cL;have HB:=dc;clear br bt bA bK cL dc;(try clear hb);(try clear hb2);(try clear hk);(try clear hi);(try clear mN);(try clear qh))|((with_reducible refine bF (N:=6) rfl ?_);(try (refine gB (by rfl) ?_;dsimp only));refine Kd.qL (Kd.int .i64) _ 3 ?hg (N:=6) ?hd (xs:=([1]:List Int)) (inner:=[.int .i64 1]) (ok:=fun _=>True) (okp:=fun _=>True) ?hr ?hp (fun _ hk=>hk) trivial (Below.refl _ _) (Nat.le_refl _) (by simp) ?_;(case hd=>rfl);(case hg=>rfl);(case hr=>first|(go_simp;done)|(go_simp;rfl));(case hp=>exact (gH.one (show Kd.M (Kd.int .i64) _ _ _ 1 [.int .i64 1] from rfl) (gH.none _ _)));intro adL Nx FG hb hg_ hnew_;clear hg_ hnew_;(first|rw [← LQ.out] at FG|(simp only [Int.reduceToNat] at FG;rw [← LQ.out] at FG));have br:=aa.mk (Kd.aZ (by (with_reducible repeat (first|apply Kd.aw|apply Kd.av|apply Kd.aA));exact jz.out) hb);have bt:=aa.mk (Kd.aZ (by (with_reducible repeat (first|apply Kd.aw|apply Kd.av|apply Kd.aA));exact jA.out) hb);have bA:=aa.mk (Kd.kx (by (with_reducible repeat (first|apply Kd.aw|apply Kd.av|apply Kd.aA));exact kP.out) (Kd.iZ FG) hb);have bK:=aa.mk (Kd.aZ (by (with_reducible repeat (first|apply Kd.aw|apply Kd.av|apply Kd.aA));exact tA.out) hb);have cL:=aa.mk (Kd.aZ (by (with_reducible repeat (first|apply Kd.aw|apply Kd.av|apply Kd.aA));exact tB.out) hb);have dc:=aa.mk (Kd.eH (Kd.oy FG (Kd.gq (by (with_reducible repeat (first|apply Kd.aw|apply Kd.av|apply Kd.aA));exact kP.out))) (az (by repeat (first|(with_reducible first|exact HB.out|apply ae|apply ab|apply af)|exact HB.out))));have dQ:=aa.mk (aE (by repeat (first|(with_reducible first|exact HB.out|apply ae|apply ab|apply af)|exact HB.out)) hb);clear jz;clear jA;clear kP;clear tA;clear tB;clear HB;have jz:=br;have jA:=bt;have kP:=bA;have tA:=bK;have tB:=cL;have yg:=dc;have HB:=dQ;clear br bt bA bK cL dc dQ;clear hb FG;obtain ⟨adM,YZ,JO⟩:=Kd.cA tA.out;subst JO;obtain ⟨adN,YE,Jt⟩:=Kd.cA tB.out;subst Jt;obtain ⟨adO,Y0,JP⟩:=Kd.cA yg.out;subst JP)|(go_at_call 88;(with_reducible refine (eJ.calls JL _ _ JM _ _ JN _ _ Qp qH _ ?bS ?bT ?cJ ?cN ?du ?dw A5.out).mono ?_);(case bS=>repeat (first|exact (Kd.bf tA.out).2.2|(with_reducible refine Kd.aT ?_ _)|(with_reducible refine Kd.aU ?_ _)|(with_reducible refine Kd.bk ?_)));(case bT=>exact (Kd.bf tA.out).2.1);(case cJ=>repeat (first|exact (Kd.bf tB.out).2.2|(with_reducible refine Kd.aT ?_ _)|(with_reducible refine Kd.aU ?_ _)|(with_reducible refine Kd.bk ?_)));(case cN=>exact (Kd.bf tB.out).2.1);(case du=>repeat (first|exact (Kd.bf yg.out).2.2|(with_reducible refine Kd.aT ?_ _)|(with_reducible refine Kd.aU ?_ _)|(with_reducible refine Kd.bk ?_)));(case dw=>exact (Kd.bf yg.out).2.1);rintro e Fw ⟨rfl,hb⟩;have br:=aa.mk (Kd.aZ (by (with_reducible repeat (first|apply Kd.aw|apply Kd.av|apply Kd.aA));exact jz.out) hb);have bt:=aa.mk (Kd.aZ (by (with_reducible repeat (first|apply Kd.aw|apply Kd.av|apply Kd.aA));exact jA.out) hb);have bA:=aa.mk (Kd.aZ (by (with_reducible repeat (first|apply Kd.aw|apply Kd.av|apply Kd.aA));exact kP.out) hb);have bK:=aa.mk (Kd.aZ (by (with_reducible repeat (first|apply Kd.aw|apply Kd.av|apply Kd.aA));exact tA.out) hb);have cL:=aa.mk (Kd.aZ (by (with_reducible repeat (first|apply Kd.aw|apply Kd.av|apply Kd.aA));exact tB.out) hb);have dc:=aa.mk (Kd.aZ (by (with_reducible repeat (first|apply Kd.aw|apply Kd.av|apply Kd.aA));exact yg.out) hb);have dQ:=aa.mk (aE (by repeat (first|(with_reducible first|exact HB.out|apply ae|apply ab|apply af)|exact HB.out)) hb);clear jz;clear jA;clear kP;clear tA;clear tB;clear yg;clear HB;have jz:=br;have jA:=bt;have kP:=bA;have tA:=bK;have tB:=cL;have yg:=dc;have HB:=dQ;clear br bt bA bK cL dc dQ;(try clear hb);(try clear hb2);(try clear hk);(try clear hi)))
  go_ret
  exact ⟨by first|rfl|(simp [bB,bC]<;>rfl)|(simp [*,bB,bC]<;>rfl),by repeat (first|(with_reducible first|exact HB.out|apply ae|apply ab|apply af)|exact HB.out)⟩
 replace c3:=Bool.eq_false_iff.mpr c3
 subst c3
 have H1:(some false)=some r:=by rw [if_neg (show ¬(false=true) by decide)] at H;exact H
 clear H
 have H:=H1
 clear H1
 obtain rfl:=Option.some.inj H
 go_enter Try.func39,Try.ntmps39
 go_wp2_with (first|((with_reducible refine bY (f:=79) rfl ?_);refine er (some 1) rfl rfl Try.func79 (by kernel_rfl) rfl #[] rfl (by (try simp only [List.map_toArray,List.map_cons,List.map_nil]);first|done|rfl|(simp only [List.length_drop,List.length_take];rfl)) ?_;(with_reducible refine (dJ.calls Bn Bo Bp _ A1.out).mono ?_);rintro e AG ⟨YW,YX,rfl,mN,qh,hb⟩;refine ⟨_,rfl, ?_⟩;have br:=aa.mk (Kd.eH mN (az (by repeat (first|(with_reducible first|exact HB.out|apply ae|apply ab|apply af)|exact HB.out))));have bt:=aa.mk (Kd.eH qh (az (by repeat (first|(with_reducible first|exact HB.out|apply ae|apply ab|apply af)|exact HB.out))));have bA:=aa.mk (aE (by repeat (first|(with_reducible first|exact HB.out|apply ae|apply ab|apply af)|exact HB.out)) hb);clear HB;have jz:=br;have jA:=bt;have HB:=bA;clear br bt bA;(try clear hb);(try clear hb2);(try clear hk);(try clear hi);(try clear mN);(try clear qh))|((with_reducible refine bF (N:=2) rfl ?_);(try (refine gB (by rfl) ?_;dsimp only));refine Kd.qL (Kd.int .i64) _ 3 ?hg (N:=2) ?hd (xs:=([1,2]:List Int)) (inner:=[.int .i64 1,.int .i64 2]) (ok:=fun _=>True) (okp:=fun _=>True) ?hr ?hp (fun _ hk=>hk) trivial (Below.refl _ _) (Nat.le_refl _) (by simp) ?_;(case hd=>rfl);(case hg=>rfl);(case hr=>first|(go_simp;done)|(go_simp;rfl));(case hp=>exact (gH.one (show Kd.M (Kd.int .i64) _ _ _ 1 [.int .i64 1] from rfl) (gH.one (show Kd.M (Kd.int .i64) _ _ _ 2 [.int .i64 2] from rfl) (gH.none _ _))));intro YY PZ Ho hb hg_ hnew_;clear hg_ hnew_;(first|rw [← DN.out] at Ho|(simp only [Int.reduceToNat] at Ho;rw [← DN.out] at Ho));have br:=aa.mk (Kd.aZ (by (with_reducible repeat (first|apply Kd.aw|apply Kd.av|apply Kd.aA));exact jz.out) hb);have bt:=aa.mk (Kd.aZ (by (with_reducible repeat (first|apply Kd.aw|apply Kd.av|apply Kd.aA));exact jA.out) hb);have bA:=aa.mk (Kd.eH Ho (az (by repeat (first|(with_reducible first|exact HB.out|apply ae|apply ab|apply af)|exact HB.out))));have bK:=aa.mk (aE (by repeat (first|(with_reducible first|exact HB.out|apply ae|apply ab|apply af)|exact HB.out)) hb);clear jz;clear jA;clear HB;have jz:=br;have jA:=bt;have kP:=bA;have HB:=bK;clear br bt bA bK;clear hb Ho;obtain ⟨qR,qT,Fx⟩:=Kd.cA jz.out;subst Fx;obtain ⟨Y1,Y2,Y3⟩:=Kd.cA jA.out;subst Y3;obtain ⟨Y4,Y5,Y6⟩:=Kd.cA kP.out;subst Y6)|((with_reducible refine bY (f:=88) rfl ?_);refine er (some 3) rfl rfl Try.func88 (by kernel_rfl) rfl #[.agg #[.int .i64 Bn,.slice qR Bo.length qT,.slice Y1 Bp.length Y2],.slice Y4 Hn.length Y5] rfl (by (try simp only [List.map_toArray,List.map_cons,List.map_nil]);first|done|rfl|(simp only [List.length_drop,List.length_take];rfl)) ?_;(with_reducible refine (eJ.calls Bn _ _ Bo _ _ Bp _ _ Hn false _ ?bS ?bT ?cJ ?cN ?du ?dw A2.out).mono ?_);(case bS=>repeat (first|exact (Kd.bf jz.out).2.2|(with_reducible refine Kd.aT ?_ _)|(with_reducible refine Kd.aU ?_ _)|(with_reducible refine Kd.bk ?_)));(case bT=>exact (Kd.bf jz.out).2.1);(case cJ=>repeat (first|exact (Kd.bf jA.out).2.2|(with_reducible refine Kd.aT ?_ _)|(with_reducible refine Kd.aU ?_ _)|(with_reducible refine Kd.bk ?_)));(case cN=>exact (Kd.bf jA.out).2.1);(case du=>repeat (first|exact (Kd.bf kP.out).2.2|(with_reducible refine Kd.aT ?_ _)|(with_reducible refine Kd.aU ?_ _)|(with_reducible refine Kd.bk ?_)));(case dw=>exact (Kd.bf kP.out).2.1);rintro e qA ⟨rfl,hb⟩;refine ⟨_,rfl, ?_⟩;have br:=aa.mk (Kd.aZ (by (with_reducible repeat (first|apply Kd.aw|apply Kd.av|apply Kd.aA));exact jz.out) hb);have bt:=aa.mk (Kd.aZ (by (with_reducible repeat (first|apply Kd.aw|apply Kd.av|apply Kd.aA));exact jA.out) hb);have bA:=aa.mk (Kd.aZ (by (with_reducible repeat (first|apply Kd.aw|apply Kd.av|apply Kd.aA));exact kP.out) hb);have bK:=aa.mk (aE (by repeat (first|(with_reducible first|exact HB.out|apply ae|apply ab|apply af)|exact HB.out)) hb);clear jz;clear jA;clear kP;clear HB;have jz:=br;have jA:=bt;have kP:=bA;have HB:=bK;clear br bt bA bK;(try clear hb);(try clear hb2);(try clear hk);(try clear hi)))
 go_ret
 exact ⟨by first|rfl|(simp [bB,bC]<;>rfl)|(simp [*,bB,bC]<;>rfl),by repeat (first|(with_reducible first|exact HB.out|apply ae|apply ab|apply af)|exact HB.out)⟩
end Go.Proofs.Ytbkjplomoegbdaa.PB
end
