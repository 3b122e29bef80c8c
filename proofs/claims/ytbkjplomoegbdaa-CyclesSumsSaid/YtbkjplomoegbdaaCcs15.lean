/- Parts of the proof of CyclesSums, gathered by a program of this claim out of texts that it or the kit's print wrote: lemmas alone, no condition of their own. -/
import Derived.Test.YtbkjplomoegbdaaCcs14
namespace Go.Proofs.Ytbkjplomoegbdaa.PB
open Go.RowKit Go.Proofs.Ytbkjplomoegbdaa.UF Go.Proofs.Ytbkjplomoegbdaa.kH Go.Proofs.YtbkjplomoegbdaaW.bO Go.Proofs.YtbkjplomoegbdaaW.dA Go.Proofs.YtbkjplomoegbdaaW.dG
set_option linter.unusedVariables false
set_option linter.unusedSimpArgs false
def mG (acts:List eu) (st:List Int × List Bool) (k:Int):List Int × List Bool:=
 if st.2.getD (l9 acts k) false=true∧st.2.getD (uB acts k) false=false then (st.1.set (uB acts k) k,st.2.set (uB acts k) true)
 else if st.2.getD (uB acts k) false=true∧st.2.getD (l9 acts k) false=false then (st.1.set (l9 acts k) k,st.2.set (l9 acts k) true)
 else st
def iE (acts:List eu) (tree:List Int) (st:List Int × List Bool):List Int × List Bool:=tree.foldl (mG acts) st
def iN (acts:List eu) (tree:List Int):Nat→List Int × List Bool→List Int × List Bool
 |0,st=>st
 |r+1,st=>iN acts tree r (iE acts tree st)
def mH (n:Nat) (acts:List eu) (via:List Int) (src:Nat):Nat→Nat→List Int→List Int→Option (List Int × List Int)
 |0,_,_,_=>none
 |k+1,x,ar,ss=>
  if x=src then some (ar,ss)
  else if zz n acts (via.getD x 0)=true∧(l9 acts (via.getD x 0)=x∨uB acts (via.getD x 0)=x) then
   mH n acts via src k (if l9 acts (via.getD x 0)=x then uB acts (via.getD x 0) else l9 acts (via.getD x 0)) (via.getD x 0 :: ar) ((if l9 acts (via.getD x 0)=x then -1 else 1) :: ss)
  else none
structure PI (w0:World) (cs:Array Value) (gv cv gs rT bn n:Nat) (W:World) (st:List Int × List Bool):Prop where
 nb:W.heap[bn]? =some (.cells cs 26 (0,0))
 rv:Kd.R (Kd.int .i64) 3 W w0.heap.size (fun k=>k≠bn∧k≠gs) (.slice (some ⟨gv,0,none⟩) n cv) st.1
 rs:Kd.R Kd.bool 4 W w0.heap.size (fun k=>k≠bn∧k≠gv) (.slice (some ⟨gs,0,none⟩) n rT) st.2
 bel:Below w0.heap.size w0 W
 lv:st.1.length=n
 ls:st.2.length=n
namespace PI
variable {w0:World} {cs:Array Value} {gv cv gs rT bn n:Nat} {W:World} {st:List Int × List Bool}
theorem drewN (h:PI w0 cs gv cv gs rT bn n W st) (m:Nat):PI w0 cs gv cv gs rT bn n (W.drewN m) st:=⟨h.nb,Kd.av h.rv m,Kd.av h.rs m,ab h.bel m,h.lv,h.ls⟩
theorem drew (h:PI w0 cs gv cv gs rT bn n W st):PI w0 cs gv cv gs rT bn n W.drew st:=h.drewN 1
theorem alloc (h:PI w0 cs gv cv gs rT bn n W st) (o:Obj):PI w0 cs gv cv gs rT bn n (W.alloc o) st:=⟨aj h.nb o,Kd.aw h.rv o,Kd.aw h.rs o,ae h.bel o,h.lv,h.ls⟩
theorem below (h:PI w0 cs gv cv gs rT bn n W st) {W':World} (hb:Below W.heap.size W W'):PI w0 cs gv cv gs rT bn n W' st:=⟨aH h.nb hb,Kd.aZ h.rv hb,Kd.aZ h.rs hb,aE h.bel hb,h.lv,h.ls⟩
theorem EL (h:PI w0 cs gv cv gs rT bn n W st) {i:Nat} (hi:i<n):W.cell? ⟨gv,i,none⟩=some (.int .i64 (st.1.getD i 0))∧W.frozen? ⟨gv,i,none⟩=false:=by
 have:=Kd.jq (0:Int) h.rv (i:Int) (by omega) (by omega)
 rw [Int.toNat_natCast] at this
 simpa [uf] using this
theorem yl (h:PI w0 cs gv cv gs rT bn n W st) {i:Nat} (hi:i<n):W.cell? ⟨gs,i,none⟩=some (.bool (st.2.getD i false))∧W.frozen? ⟨gs,i,none⟩=false:=by
 have:=Kd.jq false h.rs (i:Int) (by omega) (by omega)
 rw [Int.toNat_natCast] at this
 simpa [uf] using this
theorem ne (h:PI w0 cs gv cv gs rT bn n W st):gv≠bn∧gv≠gs∧gs≠bn:=⟨(h.rv.1 gv rfl).1,(h.rv.1 gv rfl).2,(h.rs.1 gs rfl).1⟩
theorem ge (h:PI w0 cs gv cv gs rT bn n W st):w0.heap.size≤gv∧w0.heap.size≤gs:=⟨Kd.iZ h.rv gv rfl,Kd.iZ h.rs gs rfl⟩
theorem QY (h:PI w0 cs gv cv gs rT bn n W st) {i:Nat} (hi:i<n) (x:Int):PI w0 cs gv cv gs rT bn n (W.setCell ⟨gv,i,none⟩ (.int .i64 x)) (st.1.set i x,st.2):=by
 have hr:=Kd.l6 h.rv (i:Int) x
 rw [Int.toNat_natCast] at hr
 exact ⟨cI h.nb (fun e=>h.ne.1 e.symm) _,hr.1,Kd.cg h.rs (fun k hk=>hk.2) _,ai h.bel h.ge.1,by simp [h.lv],h.ls⟩
theorem NR (h:PI w0 cs gv cv gs rT bn n W st) {i:Nat} (hi:i<n) (x:Bool):PI w0 cs gv cv gs rT bn n (W.setCell ⟨gs,i,none⟩ (.bool x)) (st.1,st.2.set i x):=by
 have hr:=Kd.l6 h.rs (i:Int) x
 rw [Int.toNat_natCast] at hr
 exact ⟨cI h.nb (fun e=>h.ne.2.2 e.symm) _,Kd.cg h.rv (fun k hk=>hk.2) _,hr.1,ai h.bel h.ge.2,h.lv,by simp [h.ls]⟩
theorem start {w w1 W:World} {n gv cv bn:Nat} {cs:Array Value} {v:Value} {g:List Int} (hn:0<n) (hf:vr w cs (.slice (some ⟨gv,0,none⟩) n cv) bn n w1 g) (ho:Kd.R Kd.bool 4 W w1.heap.size (fun _=>True) v (List.replicate n false)) (hb:Below w1.heap.size w1 W):
  ∃ gs rT,v= .slice (some ⟨gs,0,none⟩) n rT∧PI w cs gv cv gs rT bn n W (g,List.replicate n false):=by
 obtain ⟨gs,cap,e,hgb,hgl,_⟩:=Kd.mP ho (by simp;omega)
 rw [List.length_replicate] at e
 subst e
 have hbn:=cn hf.nb
 have hgv:=Kd.gq hf.row gv rfl
 refine ⟨gs,cap,rfl,aH hf.nb hb,Kd.aZ (Kd.bN (Kd.gS hf.row) (fun k hk=>⟨hk.1,by have:=hk.2.2.1;omega⟩)) hb,Kd.bN (Kd.eH (Kd.gS ho) hf.bel.size) (fun k hk=> ?_),aE hf.bel hb,hf.len,by simp⟩
 have:=hk.2.1
 omega
end PI
def pg.T:Bool × List (List Nat × List Nat):=(true,[([],[]),([0],[0]),([],[]),([],[]),([2,3],[2,3]),([4],[4]),([1,5],[1,5]),([6],[6]),([],[]),([8,7,0,1,2,3,4,5,6,7,8],[7,8])])
def pg.B:List Nat:=[0,1,0,0,12,28,63,127,0,511]
theorem pg.tab:jX .any (opsOf Try.f97 15)=pg.T:=by kernel_rfl
theorem pg.bits:gU pg.T.2 pg.B=true:=by kernel_rfl
def pj.T:Bool × List (List Nat × List Nat):=(true,[([],[]),([],[]),([1],[1]),([],[]),([],[]),([4],[4]),([],[]),([],[]),([6,7],[6,7]),([8],[8]),([0,2,0,1,2,9],[0,2]),([10,0,1,2,9],[10]),([3,5,0,1,2,3,4,5,6,7,8,9,10,11],[3,5]),([12,9,11,0,1,2,3,4,5,6,7,8,9,10,11],[9,12])])
def pj.B:List Nat:=[0,0,2,0,0,16,0,0,192,448,967,1991,4095,8191]
theorem pj.tab:jX .any (opsOf Try.f97 17)=pj.T:=by kernel_rfl
theorem pj.bits:gU pj.T.2 pj.B=true:=by kernel_rfl
def pq.T:Bool × List (List Nat × List Nat):=(true,[([],[]),([],[]),([1],[1]),([],[]),([],[]),([4],[4]),([],[]),([],[]),([6,7],[6,7]),([8],[8]),([0,2,0,1,2,9],[0,2]),([10,0,1,2,9],[10]),([3,5,0,1,2,3,4,5,6,7,8,9,10,11],[3,5]),([12,9,11,0,1,2,3,4,5,6,7,8,9,10,11],[9,12])])
def pq.B:List Nat:=[0,0,2,0,0,16,0,0,192,448,967,1991,4095,8191]
theorem pq.tab:jX .any (opsOf Try.f97 19)=pq.T:=by kernel_rfl
theorem pq.bits:gU pq.T.2 pq.B=true:=by kernel_rfl
def pu.T:Bool × List (List Nat × List Nat):=(true,[([],[]),([0],[0]),([],[]),([],[]),([2,3],[2,3]),([4],[4]),([1,5],[1,5]),([6],[6]),([],[]),([8,7,0,1,2,3,4,5,6,7,8],[7,8])])
def pu.B:List Nat:=[0,1,0,0,12,28,63,127,0,511]
theorem pu.tab:jX .any (opsOf Try.f97 25)=pu.T:=by kernel_rfl
theorem pu.bits:gU pu.T.2 pu.B=true:=by kernel_rfl
structure KE (w0:World) (cs:Array Value) (gv cv gs rT bn n:Nat) (W:World) (st:List Int × List Bool) (va vs:Value) (ar sg:List Int):Prop where
 pi:PI w0 cs gv cv gs rT bn n W st
 ra:Kd.R (Kd.int .i64) 3 W w0.heap.size (fun k=>some k≠vs.ownBlock) va ar
 rb:Kd.R (Kd.int .i64) 3 W w0.heap.size (fun k=>some k≠va.ownBlock) vs sg
namespace KE
variable {w0:World} {cs:Array Value} {gv cv gs rT bn n:Nat} {W W':World} {st:List Int × List Bool} {va vs:Value} {ar sg:List Int}
theorem below (h:KE w0 cs gv cv gs rT bn n W st va vs ar sg) (hb:Below W.heap.size W W'):KE w0 cs gv cv gs rT bn n W' st va vs ar sg:=⟨h.pi.below hb,Kd.aZ h.ra hb,Kd.aZ h.rb hb⟩
theorem QZ (h:KE w0 cs gv cv gs rT bn n W st va vs ar sg) (hb:Below W.heap.size W W') {v:Value} {xs:List Int} (ho:Kd.R (Kd.int .i64) 3 W' W.heap.size (fun _=>True) v xs):KE w0 cs gv cv gs rT bn n W' st v vs xs sg:=by
 refine ⟨h.pi.below hb,Kd.bN (Kd.eH (Kd.gS ho) h.pi.bel.size) (fun k hk e=> ?_),Kd.aZ (Kd.bN (Kd.gS h.rb) (fun k hk e=> ?_)) hb⟩
 ·have:=Kd.gq h.rb k e.symm
  have:=hk.2.1
  omega
 have:=Kd.iZ ho k e.symm
 have:=hk.2.2.1
 omega
theorem Q0 (h:KE w0 cs gv cv gs rT bn n W st va vs ar sg) (hb:Below W.heap.size W W') {v:Value} {xs:List Int} (ho:Kd.R (Kd.int .i64) 3 W' W.heap.size (fun _=>True) v xs):KE w0 cs gv cv gs rT bn n W' st va v ar xs:=by
 refine ⟨h.pi.below hb,Kd.aZ (Kd.bN (Kd.gS h.ra) (fun k hk e=> ?_)) hb,Kd.bN (Kd.eH (Kd.gS ho) h.pi.bel.size) (fun k hk e=> ?_)⟩
 ·have:=Kd.iZ ho k e.symm
  have:=hk.2.2.1
  omega
 have:=Kd.gq h.ra k e.symm
 have:=hk.2.1
 omega
end KE
def fk.f (aI:Int) (aD:List (hO)) (au:List (eu)) (l1:List Int) (a2 a3:Int):Option (List Int × List Int × Bool):=
 if l1.all (zz aD.length au)&&decide (0≤a2)&&decide (a2<aD.length)&&decide (0≤a3)&&decide (a3<aD.length)&&decide (aD.length≤1048576) then
  let st:=iN au l1 aD.length (List.replicate aD.length (-1),(List.replicate aD.length false).set a2.toNat true)
  if st.2.getD a3.toNat false=false then some ([],[],false)
  else (mH aD.length au st.1 a2.toNat (aD.length+1) a3.toNat [] []).map fun r=>(r.1,r.2,true)
 else none
set_option maxHeartbeats 4000000 in
set_option maxRecDepth 100000 in
theorem fk.calls (aI:Int) (bh:Option Addr) (bi:Nat) (aD:List (hO)) (bu:Option Addr) (aW:Nat) (au:List (eu)) (A1:Option Addr) (c1:Nat) (l1:List Int) (a2 a3:Int) (r1 r2:List Int) (r3:Bool) (w:World) (eI:Kd.C oS w bh aD.length aD) (eS:aD.length≤bi) (eC:Kd.C nD w bu au.length au) (eT:au.length≤aW) (mh:Kd.C (Kd.int .i64) w A1 l1.length l1) (oA:l1.length≤c1) (h:fk.f aI aD au l1 a2 a3=some (r1,r2,r3)):
  Calls Try.prog 97 #[.agg #[.int .i64 aI,.slice bh aD.length bi,.slice bu au.length aW],.slice A1 l1.length c1,.int .i64 a2,.int .i64 a3] w fun e w'=>∃ uo Gd:Value,e= .returned (.tuple #[uo,Gd,.bool r3])∧Kd.R (Kd.int .i64) 3 w' w.heap.size (fun k=>some k≠Gd.ownBlock) uo r1∧Kd.R (Kd.int .i64) 3 w' w.heap.size (fun k=>some k≠uo.ownBlock) Gd r2∧Below w.heap.size w w':=by
 have nu:=Try.underlying26
 have sj:=Try.underlying36
 have nw:=aa.mk eC
 have lA:=aa.mk mh
 have m2:=Kd.jZ eC
 have m3:=Kd.jZ mh
 clear eI eC eS eT mh oA
 unfold fk.f at h
 split at h
 case isFalse=>cases h
 case isTrue hfit=>
 simp only [Bool.and_eq_true,List.all_eq_true,decide_eq_true_eq] at hfit
 obtain ⟨⟨⟨⟨⟨hft,h20⟩,h21⟩,h30⟩,h31⟩,hsz⟩:=hfit
 have HH:=aa.mk h
 have HFT:=aa.mk hft
 clear h hft
 generalize hn:aD.length=n at*
 clear hn
 have ym:0<n:=by omega
 obtain ⟨src,rfl⟩:∃ x:Nat,a2=x:=⟨a2.toNat,by omega⟩
 obtain ⟨dst,rfl⟩:∃ x:Nat,a3=x:=⟨a3.toNat,by omega⟩
 rw [Int.toNat_natCast,Int.toNat_natCast] at HH
 go_enter Try.func97,Try.ntmps97
 go_wp2_with ((with_reducible refine bF (N:=25) rfl ?_);refine Kd.p8 (Kd.int .i64) _ 3 rfl (N:=25) rfl 22 _ _ rfl (n:Int) rfl rfl Try.underlying22 (.int .i64 0) 8 info3 rfl (by decide) (by omega) 0 (ok:=fun _=>True) (okp:=fun _=>True) rfl (fun _ hk=>hk) trivial (by omega) (by omega) (Below.refl _ _) (Nat.le_refl _) ?_;intro v W ho hb hg hnew;clear hg hnew;rw [Int.toNat_natCast] at ho;obtain ⟨Av,cv,ev⟩:=Kd.cA ho;rw [List.length_replicate] at ev;subst ev;have Hm:=aa.mk (vr.start (gC w _) (ae (Below.refl _ _) _) ho hb);clear ho hb)
 go_loopw [28] (fun ZB W=>∃ (i:Nat) (g:List Int),i≤n∧ZB= .int .i64 i∧aa (vr w #[.int .i64 aI,.slice bh n bi,.slice bu au.length aW] (.slice Av n cv) w.heap.size n W g)∧aa (∀ j,j<i→g.getD j 0= -1)) (fun ZB _=>n - (intOf ZB).toNat)
 case atStart=>exact ⟨0,_,Nat.zero_le _,rfl,Hm,⟨fun j hj=>absurd hj (Nat.not_lt_zero _)⟩⟩
 case round=>
  obtain ⟨i,g,hi,rfl,HF,HG⟩:=hrel
  clear Hm
  obtain ⟨gv,cap,ev⟩:=HF.out.form ym
  injection ev with e1 _ e3
  subst e1 e3
  by_cases hlt:i<n
  ·obtain ⟨qa,qa'⟩:=HF.out.cell hlt
   have Pc:=aa.mk (HF.out.put hlt (-1))
   have HL:=aa.mk HF.out.len
   clear HF
   go_wp2
   go_roundw
   case rel=>exact ⟨i+1,g.set i (-1),by omega,by go_num,Pc,⟨fun j hj=>by
    by_cases e:i=j
    ·subst e;simp [List.getD_eq_getElem?_getD,show i<g.length by rw [HL.out];exact hlt]
    have:=HG.out j (by omega)
    rw [← this]
    simp only [List.getD_eq_getElem?_getD,List.getElem?_set_ne e]⟩⟩
   case measure=>simp [intOf];omega
  obtain rfl:i=n:=by omega
  have hg:g=List.replicate i (-1):=by
   refine List.ext_getElem (by simp [HF.out.len]) fun j h1 h2=> ?_
   have:=HG.out j (by rw [← HF.out.len];exact h1)
   simpa [List.getD_eq_getElem?_getD,h1] using this
  subst hg
  clear HG hi hlt
  have q1:wr.cell? ⟨w.heap.size,1,none⟩=some (.slice bh i bi):=(ag HF.out.nb 1).trans rfl
  go_wp2_with ((with_reducible refine bF (N:=38) rfl ?_);refine Kd.p8 Kd.bool _ 4 rfl (N:=38) rfl 31 _ _ rfl (i:Int) rfl rfl Try.underlying31 (.bool false) 1 Lu rfl (by decide) (by omega) false (ok:=fun _=>True) (okp:=fun _=>True) rfl (fun _ hk=>hk) trivial (by omega) (by omega) (Below.refl _ _) (Nat.le_refl _) ?_;intro v W ho hb hg hnew;clear hg hnew;rw [Int.toNat_natCast] at ho;obtain ⟨gs,rT,ev,HP⟩:=PI.start ym HF.out ho hb;subst ev;clear ho hb q1;obtain ⟨qs,qs'⟩:=HP.yl (i:=src) (by omega);have ZC:=aa.mk (HP.NR (i:=src) (by omega) true);clear HP)
  clear qs qs' HF
  generalize W.setCell ⟨gs,src,none⟩ (.bool true)=W1 at ZC ⊢
  go_loopw [14] (fun PJ W=>∃ (r:Nat) (st:List Int × List Bool),r≤i∧PJ= .int .i64 r∧aa (PI w #[.int .i64 aI,.slice bh i bi,.slice bu au.length aW] gv cv gs rT w.heap.size i W st)∧aa (iN au l1 (i - r) st=iN au l1 i (List.replicate i (-1),(List.replicate i false).set src true))) (fun PJ _=>i - (intOf PJ).toNat)
  case atStart=>exact ⟨0,_,Nat.zero_le _,rfl,ZC,⟨rfl⟩⟩
  case round=>
   clear ZC
   obtain ⟨r,st,hr,rfl,HP,HE⟩:=hrel
   have q1:wr.cell? ⟨w.heap.size,1,none⟩=some (.slice bh i bi):=(ag HP.out.nb 1).trans rfl
   by_cases hlt:r<i
   ·obtain ⟨wo,ewo⟩:∃ wo:World,wo=wr:=⟨_,rfl⟩
    subst ewo
    go_wp2
    clear q1
    have HST:=aa.mk (rfl:iE au l1 st=iE au l1 st)
    go_loopw [15] (fun ZD W=>∃ (j:Nat) (st':List Int × List Bool),j≤l1.length∧ZD= .int .i64 j∧aa (PI w #[.int .i64 aI,.slice bh i bi,.slice bu au.length aW] gv cv gs rT w.heap.size i W st')∧aa (iE au (l1.drop j) st'=iE au l1 st)) (fun ZD _=>l1.length - (intOf ZD).toNat)
    case atStart=>exact ⟨0,st,Nat.zero_le _,rfl,HP,⟨rfl⟩⟩
    case round=>
     clear HP
     obtain ⟨j,st',hj,rfl,HP,HS⟩:=hrel
     by_cases hjt:j<l1.length
     ·have hdrop:l1.drop j=rd l1 j :: l1.drop (j+1):=by
       rw [List.drop_eq_getElem_cons hjt];simp [rd,List.getD_eq_getElem?_getD,hjt]
      have hmem:rd l1 j ∈ l1:=by simpa [rd] using oG (z:=(0:Int)) hjt
      obtain ⟨f1,f2,f3,f4,f5,f6⟩:=BG (HFT.out _ hmem)
      obtain ⟨qg,e1,hx1⟩:=Kd.dN (Kd.aN lA.out HP.out.bel) (j:Int) (by omega) (by omega)
      cases e1
      rw [Int.toNat_natCast] at hx1
      have HD:=aa.mk hdrop
      clear hdrop hmem
      generalize hx:rd l1 j=x at hx1 HD f1 f2 f3 f4 f5 f6
      have HX:=aa.mk hx
      clear hx
      obtain ⟨ad,e2,g0,g1,g2,g3,g4,g5⟩:=i9 (Kd.aN nw.out HP.out.bel) x f1 (by omega)
      cases e2
      have q2:wr.cell? ⟨w.heap.size,2,none⟩=some (.slice (some ad) au.length aW):=(ag HP.out.nb 2).trans rfl
      have hrd:au.getD x.toNat jW=aC au x:=rfl
      rw [hrd] at f3 f5
      have hps:iE au (x :: l1.drop (j+1)) st'=iE au (l1.drop (j+1)) (mG au st' x):=rfl
      rw [← HD.out,HS.out] at hps
      unfold mG at hps
      generalize aC au x=a at*
      generalize l9 au x=na at*
      generalize uB au x=nb at*
      have HPS:=aa.mk hps
      clear hps HS HD
      have NQ:qg.block<w.heap.size:=Kd.Jf lA.out (by omega) (by decide)
      have HPD:=aa.mk HP.out.drew
      go_wp2_with fail
      refine ju (n:=10) (S:=fun w'=>w'.cell? ⟨w.heap.size,2,none⟩=some (.slice (some ad) au.length aW)∧w'.cell? (qg.add j)=some (.int .i64 x)∧w'.cell? (ad.add (x.toNat*6))=some (.int .i64 a.f0)∧w'.cell? ⟨(ad.add (x.toNat*6)).block,(ad.add (x.toNat*6)).off+1,none⟩=some (.int .i64 a.f1)∧w'.cell? ⟨(ad.add (x.toNat*6)).block,(ad.add (x.toNat*6)).off+2,none⟩=some (.int .i64 a.f2)∧w'.cell? ⟨(ad.add (x.toNat*6)).block,(ad.add (x.toNat*6)).off+3,none⟩=some (.int .i64 a.f3)∧w'.cell? ⟨(ad.add (x.toNat*6)).block,(ad.add (x.toNat*6)).off+4,none⟩=some (.int .i64 a.f4)∧w'.cell? ⟨(ad.add (x.toNat*6)).block,(ad.add (x.toNat*6)).off+5,none⟩=some (.int .i64 a.f5)) (ds:=[9]) #[false,false,false,false,false,false,false,false,false,false] (by kernel_rfl) rfl rfl ⟨q2,hx1,g0,g1,g2,g3,g4,g5⟩ (fun hHeld=> ?_);refine fN pg.tab pg.bits (fun HT_ HW_=> ?_)
      generalize wr.drew=wd at HPD hHeld ⊢
      refine bP (i:=0) (N:=some 55) (v:= ?_) (a':= ?_) #[true,false,false,false,false,false,false,false,false,false] rfl rfl (bz HT_.out (by kernel_rfl)) (fun _ _ _ h=>h) (Or.inl ⟨by rfl, ?_⟩) ?_ ?_;rotate_left;intro w';go_simp;with_reducible rfl;rotate_left;simp only [Act.put,dg,dh,di,aY,a9];rfl
      refine bP (i:=2) (N:=some 57) (v:= ?_) (a':= ?_) #[true,false,true,false,false,false,false,false,false,false] rfl rfl (bz HT_.out (by kernel_rfl)) (fun _ _ _ h=>h) (Or.inl ⟨by rfl, ?_⟩) ?_ ?_;rotate_left;intro w';go_simp;with_reducible rfl;rotate_left;simp only [Act.put,dg,dh,di,aY,a9];rfl
      refine bP (i:=3) (N:=some 58) (v:= ?_) (a':= ?_) #[true,false,true,true,false,false,false,false,false,false] rfl rfl (bz HT_.out (by kernel_rfl)) (fun _ _ _ h=>h) (Or.inl ⟨by rfl, ?_⟩) ?_ ?_;rotate_left;intro w';go_simp;with_reducible rfl;rotate_left;simp only [Act.put,dg,dh,di,aY,a9];rfl
      refine bP (i:=4) (N:=some 59) (v:= ?_) (a':= ?_) #[true,false,true,true,true,false,false,false,false,false] rfl rfl (bz HT_.out (by kernel_rfl)) (fun _ _ _ h=>h) (Or.inl ⟨by rfl, ?_⟩) ?_ ?_;rotate_left;intro w';go_simp;with_reducible rfl;rotate_left;simp only [Act.put,dg,dh,di,aY,a9];rfl
      refine eL (i:=1) (N:=some 56) (v:= ?_) (a':= ?_) #[true,true,true,true,true,false,false,false,false,false] rfl rfl (cO HT_.out HW_.out (by kernel_rfl)) (fun _ _ _ h=>h) (Or.inl ⟨by rfl, ?_⟩) hHeld ?_ ?_;rotate_left;rintro w' ⟨s0,s1,s2,s3,s4,s5,s6,s7⟩;go_simp;with_reducible rfl;rotate_left;simp only [Act.put,dg,dh,di,aY,a9];rfl
      refine eL (i:=5) (N:=some 60) (v:= ?_) (a':= ?_) #[true,true,true,true,true,true,false,false,false,false] rfl rfl (cO HT_.out HW_.out (by kernel_rfl)) (fun _ _ _ h=>h) (Or.inl ⟨by rfl, ?_⟩) hHeld ?_ ?_;rotate_left;rintro w' ⟨s0,s1,s2,s3,s4,s5,s6,s7⟩;go_simp;with_reducible rfl;rotate_left;simp only [Act.put,dg,dh,di,aY,a9];rfl
      refine bP (i:=6) (N:=some 61) (v:= ?_) (a':= ?_) #[true,true,true,true,true,true,true,false,false,false] rfl rfl (bz HT_.out (by kernel_rfl)) (fun _ _ _ h=>h) (Or.inl ⟨by rfl, ?_⟩) ?_ ?_;rotate_left;intro w';go_simp;with_reducible rfl;rotate_left;simp only [Act.put,dg,dh,di,aY,a9];rfl
      refine eL (i:=7) (N:=some 62) (v:= ?_) (a':= ?_) #[true,true,true,true,true,true,true,true,false,false] rfl rfl (cO HT_.out HW_.out (by kernel_rfl)) (fun _ _ _ h=>h) (Or.inl ⟨by rfl, ?_⟩) hHeld ?_ ?_;rotate_left;rintro w' ⟨s0,s1,s2,s3,s4,s5,s6,s7⟩;go_simp;with_reducible rfl;rotate_left;simp only [Act.put,dg,dh,di,aY,a9];rfl
      refine iP (i:=8) (N:=some 16) #[true,true,true,true,true,true,true,true,true,false] rfl rfl (dZ HT_.out (by kernel_rfl)) (by decide) (fun K hK=> ?_)
      refine kL (w1:= ?_) (v:= ?_) (by rfl) rfl ?_ ?_;rotate_left 2;go_simp;constructor;rfl;rfl
      refine hK.out _ _ ⟨rF hHeld.1,rF hHeld.2.1,rF hHeld.2.2.1,rF hHeld.2.2.2.1,rF hHeld.2.2.2.2.1,rF hHeld.2.2.2.2.2.1,rF hHeld.2.2.2.2.2.2.1,rF hHeld.2.2.2.2.2.2.2⟩ (fun hHeld=> ?_)
      clear hK K
      refine eM (a':= ?_) ?_ ?_;rotate_left;show Act.put _ (some 16) _=_;simp only [Act.put,dg,dh,di,aY,a9];rfl
      refine qz (i:=9) (N:=none) #[true,true,true,true,true,true,true,true,true,true] rfl rfl (dZ HT_.out (by kernel_rfl)) (by decide) (fun K hK=> ?_)
      refine oz (w1:= ?_) (by rfl) rfl ?_ ?_;rotate_left;go_simp;rfl
      refine hK.out _ _ ?_
      clear hK K
      refine j1 (gD HT_.out (by kernel_rfl)) ?_
      have H8:=HPD.out.alloc (.cells #[.int .i64 a.f0,.int .i64 (na:Int),.int .i64 (nb:Int),.int .i64 a.f3,.int .i64 a.f4,.int .i64 a.f5] 36)
      have HGA:=gC wd (.cells #[.int .i64 a.f0,.int .i64 (na:Int),.int .i64 (nb:Int),.int .i64 a.f3,.int .i64 a.f4,.int .i64 a.f5] 36)
      have hag:wd.heap.size≠gs:=fun e=>by have:=Kd.gq HPD.out.rs gs rfl;omega
      have hgb:w.heap.size≤wd.heap.size:=HPD.out.bel.size
      clear HPD hHeld q2 hx1 g0 g1 g2 g3 g4 g5
      generalize wd.alloc (.cells #[.int .i64 a.f0,.int .i64 (na:Int),.int .i64 (nb:Int),.int .i64 a.f3,.int .i64 a.f4,.int .i64 a.f5] 36)=W2 at H8 HGA ⊢
      generalize wd.heap.size=ga at HGA hag hgb ⊢
      have Ah:=aa.mk H8
      have c1:W2.cell? ⟨ga,1,none⟩=some (.int .i64 (na:Int)):=(ag HGA 1).trans rfl
      have c2:W2.cell? ⟨ga,2,none⟩=some (.int .i64 (nb:Int)):=(ag HGA 2).trans rfl
      obtain ⟨ad1',e1',hx1⟩:=Kd.dN (Kd.aN lA.out H8.bel) (j:Int) (by omega) (by omega)
      injection e1' with e1'
      subst e1'
      rw [Int.toNat_natCast,HX.out] at hx1
      have htg:qg.block≠gs:=fun e=>by have:=H8.ge.2;omega
      obtain ⟨qa,_⟩:=H8.yl f4
      obtain ⟨qb,_⟩:=H8.yl f6
      clear H8 HGA NQ f3 f5 hgb
      generalize hba:st'.2.getD na false=ba at qa HPS
      generalize hbb:st'.2.getD nb false=bb at qb HPS
      clear hba hbb
      cases ba
      ·cases bb
       ·go_wp2_with fail
        go_wp2
        go_roundw
        case rel=>exact ⟨j+1,_,by omega,by go_num,Ah,⟨by
         rw [HPS.out,if_neg (by simp),if_neg (by simp)]⟩⟩
        case measure=>simp [intOf];omega
       go_wp2_with fail
       replace Ah:=aa.mk Ah.out.drew
       refine ju (n:=14) (S:=fun w'=>w'.cell? ⟨ga,1,none⟩=some (.int .i64 (na:Int))∧w'.cell? (qg.add j)=some (.int .i64 x)) (ds:=[13]) #[false,false,false,false,false,false,false,false,false,false,false,false,false,false] (by kernel_rfl) rfl rfl ⟨c1,hx1⟩ (fun hHeld=> ?_);refine fN pq.tab pq.bits (fun HT_ HW_=> ?_)
       generalize W2.drew=wd at Ah hHeld ⊢;obtain ⟨k1,k2⟩:=Ah.out.yl (i:=na) (by omega);have H9:=aa.mk (Ah.out.NR (i:=na) (by omega) true);obtain ⟨k3,k4⟩:=H9.out.EL (i:=na) (by omega);have ZE:=aa.mk (H9.out.QY (i:=na) (by omega) x)
       refine bP (i:=0) (N:=some 101) (v:= ?_) (a':= ?_) #[true,false,false,false,false,false,false,false,false,false,false,false,false,false] rfl rfl (bz HT_.out (by kernel_rfl)) (fun _ _ _ h=>h) (Or.inl ⟨by rfl, ?_⟩) ?_ ?_;rotate_left;intro w';go_simp;with_reducible rfl;rotate_left;simp only [Act.put,dg,dh,di,aY,a9];rfl
       refine bP (i:=1) (N:=some 102) (v:= ?_) (a':= ?_) #[true,true,false,false,false,false,false,false,false,false,false,false,false,false] rfl rfl (bz HT_.out (by kernel_rfl)) (fun _ _ _ h=>h) (Or.inl ⟨by rfl, ?_⟩) ?_ ?_;rotate_left;intro w';go_simp;with_reducible rfl;rotate_left;simp only [Act.put,dg,dh,di,aY,a9];rfl
       refine bP (i:=3) (N:=some 104) (v:= ?_) (a':= ?_) #[true,true,false,true,false,false,false,false,false,false,false,false,false,false] rfl rfl (bz HT_.out (by kernel_rfl)) (fun _ _ _ h=>h) (Or.inl ⟨by rfl, ?_⟩) ?_ ?_;rotate_left;intro w';go_simp;with_reducible rfl;rotate_left;simp only [Act.put,dg,dh,di,aY,a9];rfl
       refine bP (i:=4) (N:=some 105) (v:= ?_) (a':= ?_) #[true,true,false,true,true,false,false,false,false,false,false,false,false,false] rfl rfl (bz HT_.out (by kernel_rfl)) (fun _ _ _ h=>h) (Or.inl ⟨by rfl, ?_⟩) ?_ ?_;rotate_left;intro w';go_simp;with_reducible rfl;rotate_left;simp only [Act.put,dg,dh,di,aY,a9];rfl
       refine bP (i:=6) (N:=some 107) (v:= ?_) (a':= ?_) #[true,true,false,true,true,false,true,false,false,false,false,false,false,false] rfl rfl (bz HT_.out (by kernel_rfl)) (fun _ _ _ h=>h) (Or.inl ⟨by rfl, ?_⟩) ?_ ?_;rotate_left;intro w';go_simp;with_reducible rfl;rotate_left;simp only [Act.put,dg,dh,di,aY,a9];rfl
       refine bP (i:=7) (N:=some 108) (v:= ?_) (a':= ?_) #[true,true,false,true,true,false,true,true,false,false,false,false,false,false] rfl rfl (bz HT_.out (by kernel_rfl)) (fun _ _ _ h=>h) (Or.inl ⟨by rfl, ?_⟩) ?_ ?_;rotate_left;intro w';go_simp;with_reducible rfl;rotate_left;simp only [Act.put,dg,dh,di,aY,a9];rfl
       refine bP (i:=8) (N:=some 109) (v:= ?_) (a':= ?_) #[true,true,false,true,true,false,true,true,true,false,false,false,false,false] rfl rfl (bz HT_.out (by kernel_rfl)) (fun _ _ _ h=>h) (Or.inl ⟨by rfl, ?_⟩) ?_ ?_;rotate_left;intro w';go_simp;with_reducible rfl;rotate_left;simp only [Act.put,dg,dh,di,aY,a9];rfl
       refine eL (i:=2) (N:=some 103) (v:= ?_) (a':= ?_) #[true,true,true,true,true,false,true,true,true,false,false,false,false,false] rfl rfl (cO HT_.out HW_.out (by kernel_rfl)) (fun _ _ _ h=>h) (Or.inl ⟨by rfl, ?_⟩) hHeld ?_ ?_;rotate_left;rintro w' ⟨s0,s1⟩;go_simp;with_reducible rfl;rotate_left;simp only [Act.put,dg,dh,di,aY,a9];rfl
       refine eL (i:=5) (N:=some 106) (v:= ?_) (a':= ?_) #[true,true,true,true,true,true,true,true,true,false,false,false,false,false] rfl rfl (cO HT_.out HW_.out (by kernel_rfl)) (fun _ _ _ h=>h) (Or.inl ⟨by rfl, ?_⟩) hHeld ?_ ?_;rotate_left;rintro w' ⟨s0,s1⟩;go_simp;with_reducible rfl;rotate_left;simp only [Act.put,dg,dh,di,aY,a9];rfl
       refine eL (i:=9) (N:=some 110) (v:= ?_) (a':= ?_) #[true,true,true,true,true,true,true,true,true,true,false,false,false,false] rfl rfl (cO HT_.out HW_.out (by kernel_rfl)) (fun _ _ _ h=>h) (Or.inl ⟨by rfl, ?_⟩) hHeld ?_ ?_;rotate_left;rintro w' ⟨s0,s1⟩;go_simp;with_reducible rfl;rotate_left;simp only [Act.put,dg,dh,di,aY,a9];rfl
       refine bP (i:=10) (N:=some 111) (v:= ?_) (a':= ?_) #[true,true,true,true,true,true,true,true,true,true,true,false,false,false] rfl rfl (bz HT_.out (by kernel_rfl)) (fun _ _ _ h=>h) (Or.inl ⟨by rfl, ?_⟩) ?_ ?_;rotate_left;intro w';go_simp;with_reducible rfl;rotate_left;simp only [Act.put,dg,dh,di,aY,a9];rfl
       refine iP (i:=11) (N:=none) #[true,true,true,true,true,true,true,true,true,true,true,true,false,false] rfl rfl (dZ HT_.out (by kernel_rfl)) (by decide) (fun K hK=> ?_)
       refine oz (w1:= ?_) (by rfl) rfl ?_ ?_;rotate_left;go_simp;rfl
       refine hK.out _ _ ⟨(cell_far (p:=⟨gs,_,none⟩) hag _).trans hHeld.1,(cell_far (p:=⟨gs,_,none⟩) (by rw [kB];exact htg) _).trans hHeld.2⟩ (fun hHeld=> ?_)
       clear hK K
       refine bP (i:=12) (N:=some 112) (v:= ?_) (a':= ?_) #[true,true,true,true,true,true,true,true,true,true,true,true,true,false] rfl rfl (bz HT_.out (by kernel_rfl)) (fun _ _ _ h=>h) (Or.inl ⟨by rfl, ?_⟩) ?_ ?_;rotate_left;intro w';go_simp;with_reducible rfl;rotate_left;simp only [Act.put,dg,dh,di,aY,a9];rfl
       refine qz (i:=13) (N:=none) #[true,true,true,true,true,true,true,true,true,true,true,true,true,true] rfl rfl (dZ HT_.out (by kernel_rfl)) (by decide) (fun K hK=> ?_)
       refine oz (w1:= ?_) (by rfl) rfl ?_ ?_;rotate_left;go_simp;rfl
       refine hK.out _ _ ?_
       clear hK K
       refine j1 (gD HT_.out (by kernel_rfl)) ?_
       go_wp2
       go_roundw
       case rel=>exact ⟨j+1,_,by omega,by go_num,ZE,⟨by
        rw [HPS.out,if_neg (by simp),if_pos (by simp)]⟩⟩
       case measure=>simp [intOf];omega
      cases bb
      ·go_wp2_with fail
       replace Ah:=aa.mk Ah.out.drew
       refine ju (n:=14) (S:=fun w'=>w'.cell? ⟨ga,2,none⟩=some (.int .i64 (nb:Int))∧w'.cell? (qg.add j)=some (.int .i64 x)) (ds:=[13]) #[false,false,false,false,false,false,false,false,false,false,false,false,false,false] (by kernel_rfl) rfl rfl ⟨c2,hx1⟩ (fun hHeld=> ?_);refine fN pj.tab pj.bits (fun HT_ HW_=> ?_)
       generalize W2.drew=wd at Ah hHeld ⊢;obtain ⟨k1,k2⟩:=Ah.out.yl (i:=nb) (by omega);have H9:=aa.mk (Ah.out.NR (i:=nb) (by omega) true);obtain ⟨k3,k4⟩:=H9.out.EL (i:=nb) (by omega);have ZE:=aa.mk (H9.out.QY (i:=nb) (by omega) x)
       refine bP (i:=0) (N:=some 76) (v:= ?_) (a':= ?_) #[true,false,false,false,false,false,false,false,false,false,false,false,false,false] rfl rfl (bz HT_.out (by kernel_rfl)) (fun _ _ _ h=>h) (Or.inl ⟨by rfl, ?_⟩) ?_ ?_;rotate_left;intro w';go_simp;with_reducible rfl;rotate_left;simp only [Act.put,dg,dh,di,aY,a9];rfl
       refine bP (i:=1) (N:=some 77) (v:= ?_) (a':= ?_) #[true,true,false,false,false,false,false,false,false,false,false,false,false,false] rfl rfl (bz HT_.out (by kernel_rfl)) (fun _ _ _ h=>h) (Or.inl ⟨by rfl, ?_⟩) ?_ ?_;rotate_left;intro w';go_simp;with_reducible rfl;rotate_left;simp only [Act.put,dg,dh,di,aY,a9];rfl
       refine bP (i:=3) (N:=some 79) (v:= ?_) (a':= ?_) #[true,true,false,true,false,false,false,false,false,false,false,false,false,false] rfl rfl (bz HT_.out (by kernel_rfl)) (fun _ _ _ h=>h) (Or.inl ⟨by rfl, ?_⟩) ?_ ?_;rotate_left;intro w';go_simp;with_reducible rfl;rotate_left;simp only [Act.put,dg,dh,di,aY,a9];rfl
       refine bP (i:=4) (N:=some 80) (v:= ?_) (a':= ?_) #[true,true,false,true,true,false,false,false,false,false,false,false,false,false] rfl rfl (bz HT_.out (by kernel_rfl)) (fun _ _ _ h=>h) (Or.inl ⟨by rfl, ?_⟩) ?_ ?_;rotate_left;intro w';go_simp;with_reducible rfl;rotate_left;simp only [Act.put,dg,dh,di,aY,a9];rfl
       refine bP (i:=6) (N:=some 82) (v:= ?_) (a':= ?_) #[true,true,false,true,true,false,true,false,false,false,false,false,false,false] rfl rfl (bz HT_.out (by kernel_rfl)) (fun _ _ _ h=>h) (Or.inl ⟨by rfl, ?_⟩) ?_ ?_;rotate_left;intro w';go_simp;with_reducible rfl;rotate_left;simp only [Act.put,dg,dh,di,aY,a9];rfl
       refine bP (i:=7) (N:=some 83) (v:= ?_) (a':= ?_) #[true,true,false,true,true,false,true,true,false,false,false,false,false,false] rfl rfl (bz HT_.out (by kernel_rfl)) (fun _ _ _ h=>h) (Or.inl ⟨by rfl, ?_⟩) ?_ ?_;rotate_left;intro w';go_simp;with_reducible rfl;rotate_left;simp only [Act.put,dg,dh,di,aY,a9];rfl
       refine bP (i:=8) (N:=some 84) (v:= ?_) (a':= ?_) #[true,true,false,true,true,false,true,true,true,false,false,false,false,false] rfl rfl (bz HT_.out (by kernel_rfl)) (fun _ _ _ h=>h) (Or.inl ⟨by rfl, ?_⟩) ?_ ?_;rotate_left;intro w';go_simp;with_reducible rfl;rotate_left;simp only [Act.put,dg,dh,di,aY,a9];rfl
       refine eL (i:=2) (N:=some 78) (v:= ?_) (a':= ?_) #[true,true,true,true,true,false,true,true,true,false,false,false,false,false] rfl rfl (cO HT_.out HW_.out (by kernel_rfl)) (fun _ _ _ h=>h) (Or.inl ⟨by rfl, ?_⟩) hHeld ?_ ?_;rotate_left;rintro w' ⟨s0,s1⟩;go_simp;with_reducible rfl;rotate_left;simp only [Act.put,dg,dh,di,aY,a9];rfl
       refine eL (i:=5) (N:=some 81) (v:= ?_) (a':= ?_) #[true,true,true,true,true,true,true,true,true,false,false,false,false,false] rfl rfl (cO HT_.out HW_.out (by kernel_rfl)) (fun _ _ _ h=>h) (Or.inl ⟨by rfl, ?_⟩) hHeld ?_ ?_;rotate_left;rintro w' ⟨s0,s1⟩;go_simp;with_reducible rfl;rotate_left;simp only [Act.put,dg,dh,di,aY,a9];rfl
       refine eL (i:=9) (N:=some 85) (v:= ?_) (a':= ?_) #[true,true,true,true,true,true,true,true,true,true,false,false,false,false] rfl rfl (cO HT_.out HW_.out (by kernel_rfl)) (fun _ _ _ h=>h) (Or.inl ⟨by rfl, ?_⟩) hHeld ?_ ?_;rotate_left;rintro w' ⟨s0,s1⟩;go_simp;with_reducible rfl;rotate_left;simp only [Act.put,dg,dh,di,aY,a9];rfl
       refine bP (i:=10) (N:=some 86) (v:= ?_) (a':= ?_) #[true,true,true,true,true,true,true,true,true,true,true,false,false,false] rfl rfl (bz HT_.out (by kernel_rfl)) (fun _ _ _ h=>h) (Or.inl ⟨by rfl, ?_⟩) ?_ ?_;rotate_left;intro w';go_simp;with_reducible rfl;rotate_left;simp only [Act.put,dg,dh,di,aY,a9];rfl
       refine iP (i:=11) (N:=none) #[true,true,true,true,true,true,true,true,true,true,true,true,false,false] rfl rfl (dZ HT_.out (by kernel_rfl)) (by decide) (fun K hK=> ?_)
       refine oz (w1:= ?_) (by rfl) rfl ?_ ?_;rotate_left;go_simp;rfl
       refine hK.out _ _ ⟨(cell_far (p:=⟨gs,_,none⟩) hag _).trans hHeld.1,(cell_far (p:=⟨gs,_,none⟩) (by rw [kB];exact htg) _).trans hHeld.2⟩ (fun hHeld=> ?_)
       clear hK K
       refine bP (i:=12) (N:=some 87) (v:= ?_) (a':= ?_) #[true,true,true,true,true,true,true,true,true,true,true,true,true,false] rfl rfl (bz HT_.out (by kernel_rfl)) (fun _ _ _ h=>h) (Or.inl ⟨by rfl, ?_⟩) ?_ ?_;rotate_left;intro w';go_simp;with_reducible rfl;rotate_left;simp only [Act.put,dg,dh,di,aY,a9];rfl
       refine qz (i:=13) (N:=none) #[true,true,true,true,true,true,true,true,true,true,true,true,true,true] rfl rfl (dZ HT_.out (by kernel_rfl)) (by decide) (fun K hK=> ?_)
       refine oz (w1:= ?_) (by rfl) rfl ?_ ?_;rotate_left;go_simp;rfl
       refine hK.out _ _ ?_
       clear hK K
       refine j1 (gD HT_.out (by kernel_rfl)) ?_
       go_wp2
       go_roundw
       case rel=>exact ⟨j+1,_,by omega,by go_num,ZE,⟨by
        rw [HPS.out,if_pos (by simp)]⟩⟩
       case measure=>simp [intOf];omega
      go_wp2_with fail
      go_wp2
      go_roundw
      case rel=>exact ⟨j+1,_,by omega,by go_num,Ah,⟨by
       rw [HPS.out,if_neg (by simp),if_neg (by simp)]⟩⟩
      case measure=>simp [intOf];omega
     have hend:l1.drop j=[]:=List.drop_eq_nil_of_le (by omega)
     have hst:st'=iE au l1 st:=by rw [← HS.out,hend];rfl
     have ZF:=aa.mk hst
     obtain rfl:j=l1.length:=by omega
     clear hst hend hj hjt HS
     go_wp2
     go_roundw
     case rel=>exact ⟨r+1,st',by omega,by go_num,HP,⟨by
      rw [← HE.out,ZF.out,show i - r=(i - (r+1))+1 by omega];rfl⟩⟩
     case measure=>simp [intOf];omega
   obtain rfl:r=i:=by omega
   have hst:st=iN au l1 r (List.replicate r (-1),(List.replicate r false).set src true):=by
    have:=HE.out
    rw [Nat.sub_self] at this
    exact this
   have hh:=HH.out
   rw [← hst] at hh
   clear HH hst HE hr hlt
   obtain ⟨qd,_⟩:=HP.out.yl (i:=dst) (by omega)
   cases hsd:st.2.getD dst false with
   |false=>
    rw [hsd] at qd hh
    rw [if_pos rfl] at hh
    injection hh with hh
    injection hh with e1 hh
    injection hh with e2 e3
    subst e1 e2 e3
    go_wp2
    go_ret3
    exact ⟨_,_,rfl,Kd.jE _ _ _ _ _,Kd.jE _ _ _ _ _,HP.out.bel⟩
   |true=>
    rw [hsd] at qd hh
    rw [if_neg (by simp)] at hh
    obtain ⟨rr,hpb,hrr⟩:=Option.map_eq_some_iff.1 hh
    injection hrr with e1 hrr
    injection hrr with e2 e3
    subst e3
    have HPB:=aa.mk (show mH r au st.1 src (r+1) dst [] []=some (r1,r2) by rw [hpb,← e1,← e2])
    clear hpb hh e1 e2
    obtain ⟨wo,ewo⟩:∃ wo:World,wo=wr:=⟨_,rfl⟩
    subst ewo
    go_wp2
    clear qd q1
    go_loopg [17,18,19] (r+1) (fun kq v17 JK v19 W=>∃ (y:Nat) (ar sg:List Int) (Aa:Option Addr) (ca:Nat) (Ab:Option Addr) (cb:Nat),v17= .slice Aa ar.length ca∧JK= .slice Ab sg.length cb∧v19= .int .i64 y∧y<r∧ar.length+kq≤r+1∧sg.length=ar.length∧aa (KE w #[.int .i64 aI,.slice bh r bi,.slice bu au.length aW] gv cv gs rT w.heap.size r W st (.slice Aa ar.length ca) (.slice Ab sg.length cb) ar sg)∧aa (mH r au st.1 src kq y ar sg=some (r1,r2)))
    case atStart=>exact ⟨dst,[],[],none,0,none,0,rfl,rfl,rfl,by omega,by simp,rfl,⟨HP.out,Kd.jE _ _ _ _ _,Kd.jE _ _ _ _ _⟩,HPB⟩
    case round=>
     clear HP HPB hsd
     obtain ⟨y,ar,sg,Aa,ca,Ab,cb,rfl,rfl,rfl,hy,hlen,hsl,HB,HE⟩:=hrel
     have HSL:=aa.mk hsl
     clear hsl
     obtain ⟨k1,rfl⟩:∃ k1,gk=k1+1:=⟨gk - 1,by
      cases gk with
      |zero=>have:=HE.out;simp [mH] at this
      |succ m=>omega⟩
     have hpb:=HE.out
     unfold mH at hpb
     clear HE
     by_cases hys:y=src
     ·rw [if_pos hys] at hpb
      injection hpb with hpb
      injection hpb with e1 e2
      subst e1 e2 hys
      go_wp2
      go_ret3
      exact ⟨_,_,rfl,HB.out.ra,HB.out.rb,HB.out.pi.bel⟩
     rw [if_neg hys] at hpb
     obtain ⟨qv,_⟩:=HB.out.pi.EL (i:=y) hy
     generalize hxx:st.1.getD y 0=x at hpb qv
     have HXX:=aa.mk hxx
     clear hxx
     by_cases hfit:zz r au x=true∧(l9 au x=y∨uB au x=y)
     case neg=>rw [if_neg hfit] at hpb;cases hpb
     rw [if_pos hfit] at hpb
     obtain ⟨hfx,hor⟩:=hfit
     obtain ⟨f1,f2,f3,f4,f5,f6⟩:=BG hfx
     clear hfx
     obtain ⟨ad,e2,g0,g1,g2,g3,g4,g5⟩:=i9 (Kd.aN nw.out HB.out.pi.bel) x f1 (by omega)
     cases e2
     have q2:wr.cell? ⟨w.heap.size,2,none⟩=some (.slice (some ad) au.length aW):=(ag HB.out.pi.nb 2).trans rfl
     have hrd:au.getD x.toNat jW=aC au x:=rfl
     rw [hrd] at f3 f5
     generalize aC au x=a at*
     generalize l9 au x=na at*
     generalize uB au x=nb at*
     have HPD:=aa.mk (HB.out.below (W':=wr.drew) (ab (Below.refl _ _) 1))
     have HPX:=aa.mk hpb
     have HOR:=aa.mk hor
     have aeb:((y:Int)==(src:Int))=false:=by rw [beq_eq_false_iff_ne];omega
     have aec:((y:Int) !=(src:Int))=true:=by rw [bne_iff_ne];omega
     clear hpb HB hor hrd hys
     go_wp2_with fail
     refine ju (n:=10) (S:=fun w'=>w'.cell? ⟨w.heap.size,2,none⟩=some (.slice (some ad) au.length aW)∧w'.cell? ⟨gv,y,none⟩=some (.int .i64 x)∧w'.cell? (ad.add (x.toNat*6))=some (.int .i64 a.f0)∧w'.cell? ⟨(ad.add (x.toNat*6)).block,(ad.add (x.toNat*6)).off+1,none⟩=some (.int .i64 a.f1)∧w'.cell? ⟨(ad.add (x.toNat*6)).block,(ad.add (x.toNat*6)).off+2,none⟩=some (.int .i64 a.f2)∧w'.cell? ⟨(ad.add (x.toNat*6)).block,(ad.add (x.toNat*6)).off+3,none⟩=some (.int .i64 a.f3)∧w'.cell? ⟨(ad.add (x.toNat*6)).block,(ad.add (x.toNat*6)).off+4,none⟩=some (.int .i64 a.f4)∧w'.cell? ⟨(ad.add (x.toNat*6)).block,(ad.add (x.toNat*6)).off+5,none⟩=some (.int .i64 a.f5)) (ds:=[9]) #[false,false,false,false,false,false,false,false,false,false] (by kernel_rfl) rfl rfl ⟨q2,qv,g0,g1,g2,g3,g4,g5⟩ (fun hHeld=> ?_);refine fN pu.tab pu.bits (fun HT_ HW_=> ?_)
     generalize wr.drew=wd at HPD hHeld ⊢
     refine bP (i:=0) (N:=some 122) (v:= ?_) (a':= ?_) #[true,false,false,false,false,false,false,false,false,false] rfl rfl (bz HT_.out (by kernel_rfl)) (fun _ _ _ h=>h) (Or.inl ⟨by rfl, ?_⟩) ?_ ?_;rotate_left;intro w';go_simp;with_reducible rfl;rotate_left;simp only [Act.put,dg,dh,di,aY,a9];rfl
     refine bP (i:=2) (N:=some 124) (v:= ?_) (a':= ?_) #[true,false,true,false,false,false,false,false,false,false] rfl rfl (bz HT_.out (by kernel_rfl)) (fun _ _ _ h=>h) (Or.inl ⟨by rfl, ?_⟩) ?_ ?_;rotate_left;intro w';go_simp;with_reducible rfl;rotate_left;simp only [Act.put,dg,dh,di,aY,a9];rfl
     refine bP (i:=3) (N:=some 125) (v:= ?_) (a':= ?_) #[true,false,true,true,false,false,false,false,false,false] rfl rfl (bz HT_.out (by kernel_rfl)) (fun _ _ _ h=>h) (Or.inl ⟨by rfl, ?_⟩) ?_ ?_;rotate_left;intro w';go_simp;with_reducible rfl;rotate_left;simp only [Act.put,dg,dh,di,aY,a9];rfl
     refine bP (i:=4) (N:=some 126) (v:= ?_) (a':= ?_) #[true,false,true,true,true,false,false,false,false,false] rfl rfl (bz HT_.out (by kernel_rfl)) (fun _ _ _ h=>h) (Or.inl ⟨by rfl, ?_⟩) ?_ ?_;rotate_left;intro w';go_simp;with_reducible rfl;rotate_left;simp only [Act.put,dg,dh,di,aY,a9];rfl
     refine eL (i:=1) (N:=some 123) (v:= ?_) (a':= ?_) #[true,true,true,true,true,false,false,false,false,false] rfl rfl (cO HT_.out HW_.out (by kernel_rfl)) (fun _ _ _ h=>h) (Or.inl ⟨by rfl, ?_⟩) hHeld ?_ ?_;rotate_left;rintro w' ⟨s0,s1,s2,s3,s4,s5,s6,s7⟩;go_simp;with_reducible rfl;rotate_left;simp only [Act.put,dg,dh,di,aY,a9];rfl
     refine eL (i:=5) (N:=some 127) (v:= ?_) (a':= ?_) #[true,true,true,true,true,true,false,false,false,false] rfl rfl (cO HT_.out HW_.out (by kernel_rfl)) (fun _ _ _ h=>h) (Or.inl ⟨by rfl, ?_⟩) hHeld ?_ ?_;rotate_left;rintro w' ⟨s0,s1,s2,s3,s4,s5,s6,s7⟩;go_simp;with_reducible rfl;rotate_left;simp only [Act.put,dg,dh,di,aY,a9];rfl
     refine bP (i:=6) (N:=some 128) (v:= ?_) (a':= ?_) #[true,true,true,true,true,true,true,false,false,false] rfl rfl (bz HT_.out (by kernel_rfl)) (fun _ _ _ h=>h) (Or.inl ⟨by rfl, ?_⟩) ?_ ?_;rotate_left;intro w';go_simp;with_reducible rfl;rotate_left;simp only [Act.put,dg,dh,di,aY,a9];rfl
     refine eL (i:=7) (N:=some 129) (v:= ?_) (a':= ?_) #[true,true,true,true,true,true,true,true,false,false] rfl rfl (cO HT_.out HW_.out (by kernel_rfl)) (fun _ _ _ h=>h) (Or.inl ⟨by rfl, ?_⟩) hHeld ?_ ?_;rotate_left;rintro w' ⟨s0,s1,s2,s3,s4,s5,s6,s7⟩;go_simp;with_reducible rfl;rotate_left;simp only [Act.put,dg,dh,di,aY,a9];rfl
     refine iP (i:=8) (N:=some 20) #[true,true,true,true,true,true,true,true,true,false] rfl rfl (dZ HT_.out (by kernel_rfl)) (by decide) (fun K hK=> ?_)
     refine kL (w1:= ?_) (v:= ?_) (by rfl) rfl ?_ ?_;rotate_left 2;go_simp;constructor;rfl;rfl
     refine hK.out _ _ ⟨rF hHeld.1,rF hHeld.2.1,rF hHeld.2.2.1,rF hHeld.2.2.2.1,rF hHeld.2.2.2.2.1,rF hHeld.2.2.2.2.2.1,rF hHeld.2.2.2.2.2.2.1,rF hHeld.2.2.2.2.2.2.2⟩ (fun hHeld=> ?_)
     clear hK K
     refine eM (a':= ?_) ?_ ?_;rotate_left;show Act.put _ (some 20) _=_;simp only [Act.put,dg,dh,di,aY,a9];rfl
     refine qz (i:=9) (N:=none) #[true,true,true,true,true,true,true,true,true,true] rfl rfl (dZ HT_.out (by kernel_rfl)) (by decide) (fun K hK=> ?_)
     refine oz (w1:= ?_) (by rfl) rfl ?_ ?_;rotate_left;go_simp;rfl
     refine hK.out _ _ ?_
     clear hK K
     refine j1 (gD HT_.out (by kernel_rfl)) ?_
     have H8:=HPD.out.below (ae (Below.refl _ _) (.cells #[.int .i64 a.f0,.int .i64 (na:Int),.int .i64 (nb:Int),.int .i64 a.f3,.int .i64 a.f4,.int .i64 a.f5] 36))
     have HGA:=gC wd (.cells #[.int .i64 a.f0,.int .i64 (na:Int),.int .i64 (nb:Int),.int .i64 a.f3,.int .i64 a.f4,.int .i64 a.f5] 36)
     clear HPD hHeld q2 g0 g1 g2 g3 g4 g5 qv
     generalize wd.alloc (.cells #[.int .i64 a.f0,.int .i64 (na:Int),.int .i64 (nb:Int),.int .i64 a.f3,.int .i64 a.f4,.int .i64 a.f5] 36)=W2 at H8 HGA ⊢
     generalize wd.heap.size=ga at HGA ⊢
     have Ah:=aa.mk H8
     have HG3:=aa.mk HGA
     have c1:W2.cell? ⟨ga,1,none⟩=some (.int .i64 (na:Int)):=(ag HGA 1).trans rfl
     clear f3 f5 H8 HGA
     have qv2:W2.cell? ⟨gv,y,none⟩=some (.int .i64 x):=by rw [← HXX.out];exact (Ah.out.pi.EL hy).1
     by_cases hny:na=y
     ·subst hny
      rw [if_pos rfl,if_pos rfl] at HPX
      go_wp2_with (first|((with_reducible refine bF (N:=138) rfl ?_);refine Kd.qL (Kd.int .i64) (w0:=W2) W2.heap.size 3 ?hg (N:=138) ?hd (xs:=[x]) (inner:=[.int .i64 x]) (ok:=fun _=>True) (okp:=fun _=>True) ?hr ?hp (fun _ hk=>hk) trivial (Below.refl _ _) (Nat.le_refl _) (by simp) ?_;(case hd=>rfl);(case hg=>rfl);(case hr=>first|(go_simp;done)|(go_simp;rfl));(case hp=>exact gH.one (show Kd.M (Kd.int .i64) _ _ _ x [.int .i64 x] from rfl) (gH.none _ _));intro v_W3 W3 jr kw _ _;have Pf:=aa.mk jr;have FX:=aa.mk kw;clear jr kw c1 qv2)|((with_reducible refine gr (b:= .append) (xs:=#[.tmp 138,.tmp 139]) rfl ?_);at_builtin;refine Kd.nO (fun z:Int=>Value.int .i64 z) 0 (w0:=W2) W2.heap.size rfl (.tmp 138) (.tmp 139) 22 3 (.int .i64 0) 8 rfl Try.underlying22 info3 rfl (by omega) v_W3 [x] ar Aa ar.length ca (fun _=>True) rfl rfl (fun _ _=>trivial) Pf.out ?aR FX.out FX.out.size ?aL ?_;(case aR=>exact (Kd.bf (Kd.aZ Ah.out.ra FX.out)).2.2);(case aL=>have:=HSL.out;simp;omega);intro v_ W4 jr kw _ _;obtain ⟨Ac,cc,ev_⟩:=Kd.cA jr;subst ev_;have H9:=aa.mk (Ah.out.QZ kw jr);have ZG:=aa.mk (aH HG3.out kw);clear jr kw)|((with_reducible refine bF (N:=142) rfl ?_);refine Kd.qL (Kd.int .i64) (w0:=W4) W4.heap.size 3 ?hg (N:=142) ?hd (xs:=[(-1)]) (inner:=[.int .i64 (-1)]) (ok:=fun _=>True) (okp:=fun _=>True) ?hr ?hp (fun _ hk=>hk) trivial (Below.refl _ _) (Nat.le_refl _) (by simp) ?_;(case hd=>rfl);(case hg=>rfl);(case hr=>first|(go_simp;done)|(go_simp;rfl));(case hp=>exact gH.one (show Kd.M (Kd.int .i64) _ _ _ (-1) [.int .i64 (-1)] from rfl) (gH.none _ _));intro v_W5 W5 jr kw _ _;have Q1:=aa.mk jr;have NS:=aa.mk kw;clear jr kw)|((with_reducible refine gr (b:= .append) (xs:=#[.tmp 142,.tmp 143]) rfl ?_);at_builtin;refine Kd.nO (fun z:Int=>Value.int .i64 z) 0 (w0:=W4) W4.heap.size rfl (.tmp 142) (.tmp 143) 22 3 (.int .i64 0) 8 rfl Try.underlying22 info3 rfl (by omega) v_W5 [(-1)] sg Ab sg.length cb (fun _=>True) rfl rfl (fun _ _=>trivial) Q1.out ?aR NS.out NS.out.size ?aL ?_;(case aR=>exact (Kd.bf (Kd.aZ H9.out.rb NS.out)).2.2);(case aL=>have:=HSL.out;simp;omega);intro v_ W6 jr kw _ _;obtain ⟨Ad,cd,ev_⟩:=Kd.cA jr;subst ev_;have ZH:=aa.mk (H9.out.Q0 kw jr);have NT:=aH ZG.out kw;have d1:=(ag NT 1).trans rfl;have d2:=(ag NT 2).trans rfl;clear jr kw NT))
      go_roundg k1
      case rel=>exact ⟨nb,x :: ar,(-1) :: sg,Ac,cc,Ad,cd,rfl,rfl,by go_num,by omega,by simp;omega,by have:=HSL.out;simp;omega,ZH,⟨by first|exact HPX.out|(rw [← HPX.out];simp)⟩⟩
      case measure=>omega
     have ZI:nb=y:=by rcases HOR.out with h|h;exact absurd h hny;exact h
     subst ZI
     rw [if_neg hny,if_neg hny] at HPX
     have hn1:((na:Int)==(nb:Int))=false:=by rw [beq_eq_false_iff_ne];omega
     have hn2:(na==nb)=false:=by rw [beq_eq_false_iff_ne];exact hny
     clear hny HOR
     go_wp2_with (first|((with_reducible refine bF (N:=138) rfl ?_);refine Kd.qL (Kd.int .i64) (w0:=W2) W2.heap.size 3 ?hg (N:=138) ?hd (xs:=[x]) (inner:=[.int .i64 x]) (ok:=fun _=>True) (okp:=fun _=>True) ?hr ?hp (fun _ hk=>hk) trivial (Below.refl _ _) (Nat.le_refl _) (by simp) ?_;(case hd=>rfl);(case hg=>rfl);(case hr=>first|(go_simp;done)|(go_simp;rfl));(case hp=>exact gH.one (show Kd.M (Kd.int .i64) _ _ _ x [.int .i64 x] from rfl) (gH.none _ _));intro v_W3 W3 jr kw _ _;have Pf:=aa.mk jr;have FX:=aa.mk kw;clear jr kw c1 qv2)|((with_reducible refine gr (b:= .append) (xs:=#[.tmp 138,.tmp 139]) rfl ?_);at_builtin;refine Kd.nO (fun z:Int=>Value.int .i64 z) 0 (w0:=W2) W2.heap.size rfl (.tmp 138) (.tmp 139) 22 3 (.int .i64 0) 8 rfl Try.underlying22 info3 rfl (by omega) v_W3 [x] ar Aa ar.length ca (fun _=>True) rfl rfl (fun _ _=>trivial) Pf.out ?aR FX.out FX.out.size ?aL ?_;(case aR=>exact (Kd.bf (Kd.aZ Ah.out.ra FX.out)).2.2);(case aL=>have:=HSL.out;simp;omega);intro v_ W4 jr kw _ _;obtain ⟨Ac,cc,ev_⟩:=Kd.cA jr;subst ev_;have H9:=aa.mk (Ah.out.QZ kw jr);have ZG:=aa.mk (aH HG3.out kw);clear jr kw)|((with_reducible refine bF (N:=142) rfl ?_);refine Kd.qL (Kd.int .i64) (w0:=W4) W4.heap.size 3 ?hg (N:=142) ?hd (xs:=[1]) (inner:=[.int .i64 1]) (ok:=fun _=>True) (okp:=fun _=>True) ?hr ?hp (fun _ hk=>hk) trivial (Below.refl _ _) (Nat.le_refl _) (by simp) ?_;(case hd=>rfl);(case hg=>rfl);(case hr=>first|(go_simp;done)|(go_simp;rfl));(case hp=>exact gH.one (show Kd.M (Kd.int .i64) _ _ _ 1 [.int .i64 1] from rfl) (gH.none _ _));intro v_W5 W5 jr kw _ _;have Q1:=aa.mk jr;have NS:=aa.mk kw;clear jr kw)|((with_reducible refine gr (b:= .append) (xs:=#[.tmp 142,.tmp 143]) rfl ?_);at_builtin;refine Kd.nO (fun z:Int=>Value.int .i64 z) 0 (w0:=W4) W4.heap.size rfl (.tmp 142) (.tmp 143) 22 3 (.int .i64 0) 8 rfl Try.underlying22 info3 rfl (by omega) v_W5 [1] sg Ab sg.length cb (fun _=>True) rfl rfl (fun _ _=>trivial) Q1.out ?aR NS.out NS.out.size ?aL ?_;(case aR=>exact (Kd.bf (Kd.aZ H9.out.rb NS.out)).2.2);(case aL=>have:=HSL.out;simp;omega);intro v_ W6 jr kw _ _;obtain ⟨Ad,cd,ev_⟩:=Kd.cA jr;subst ev_;have ZH:=aa.mk (H9.out.Q0 kw jr);have NT:=aH ZG.out kw;have d1:=(ag NT 1).trans rfl;have d2:=(ag NT 2).trans rfl;clear jr kw NT))
     go_roundg k1
     case rel=>exact ⟨na,x :: ar,1 :: sg,Ac,cc,Ad,cd,rfl,rfl,by go_num,by omega,by simp;omega,by have:=HSL.out;simp;omega,ZH,⟨by first|exact HPX.out|(rw [← HPX.out];simp)⟩⟩
     case measure=>omega
end Go.Proofs.Ytbkjplomoegbdaa.PB
