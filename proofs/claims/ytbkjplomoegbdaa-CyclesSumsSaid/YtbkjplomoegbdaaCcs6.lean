/- Parts of the proof of CyclesSums, gathered by a program of this claim out of texts that it or the kit's print wrote: lemmas alone, no condition of their own. -/
import Derived.Test.YtbkjplomoegbdaaCcs5
import Derived.Shelf.Abstract
namespace Go.Proofs.Ytbkjplomoegbdaa.PB
open Go.RowKit Go.Proofs.YtbkjplomoegbdaaW.bO Go.Proofs.YtbkjplomoegbdaaW.dA Go.Proofs.YtbkjplomoegbdaaW.dG
set_option linter.unusedVariables false
set_option linter.unusedSimpArgs false
def idxOf {α:Type} (p:α→Bool) (l:List α):Int:=match l.findIdx? p with|some i=>(i:Int)|none=> -1
theorem Bk {α:Type} {p:α→Bool} {l:List α} {z:α} {i:Nat} (hi:i<l.length) (h:p (l.getD i z)=true) (hp:∀ j,j<i→p (l.getD j z)=false):idxOf p l=i:=by
 unfold idxOf
 have:l.findIdx? p=some i:=by
  rw [List.findIdx?_eq_some_iff_getElem]
  refine ⟨hi,by simpa [List.getD_eq_getElem?_getD,hi] using h,fun j hj=> ?_⟩
  have:=hp j hj
  simpa [List.getD_eq_getElem?_getD,show j<l.length by omega] using this
 rw [this]
theorem wR {α:Type} {p:α→Bool} {l:List α} {z:α} (hp:∀ j,j<l.length→p (l.getD j z)=false):idxOf p l= -1:=by
 unfold idxOf
 have:l.findIdx? p=none:=by
  rw [List.findIdx?_eq_none_iff]
  intro x hx
  obtain ⟨j,hj,rfl⟩:=List.getElem_of_mem hx
  have:=hp j hj
  simpa [List.getD_eq_getElem?_getD,hj] using this
 rw [this]
theorem oG {α:Type} {l:List α} {z:α} {i:Nat} (hi:i<l.length):l.getD i z ∈ l:=by
 simp [List.getD_eq_getElem?_getD,hi]
set_option maxHeartbeats 400000 in
set_option maxRecDepth 100000 in
theorem Qo (I:World→Prop) (p:eu→Bool) (g:Nat) (lb:Array Value) (A:Option Addr) (c:Nat) (l:List eu) (w:World) (hI:I w)
  (he:∀ args W,(callFunc g args).run Try.prog W= .ok (.enter g args) W)
  (hf:∀ W x,x ∈ l→I W→Calls Try.prog g (#[.agg #[.int .i64 x.f0,.int .i64 x.f1,.int .i64 x.f2,.int .i64 x.f3,.int .i64 x.f4,.int .i64 x.f5]]++lb) W fun e w'=>e= .returned (.bool (p x))∧I w')
  (hr:∀ W,I W→Kd.C nD W A l.length l):
  Calls Try.prog 160 #[.slice A l.length c,.func (.func g) #[] lb] w fun e w'=>e= .returned (.int .i64 (idxOf p l))∧I w':=by
 have HR:=aa.mk hr
 have HE:=aa.mk he
 have HF:=aa.mk hf
 have hL:l.length≤9223372036854775807:=(hr w hI).2.1
 clear hr he hf
 go_enter Try.func160,Try.ntmps160
 go_wp2
 go_loopw [8] (fun v8 W=>∃ i:Nat,i≤l.length∧v8= .int .i64 i∧(∀ j,j<i→p (l.getD j jW)=false)∧I W) (fun v8 _=>l.length - (intOf v8).toNat)
 case atStart=>exact ⟨0,Nat.zero_le _,rfl,fun j hj=>absurd hj (Nat.not_lt_zero _),hI⟩
 case round=>
  obtain ⟨i,hi,rfl,hp,hI⟩:=hrel
  have hR:=aa.mk (HR.out _ hI)
  have hP:=aa.mk hp
  clear hp
  by_cases hlt:i<l.length
  ·obtain ⟨ad,e,h0,h1,h2,h3,h4,h5⟩:=i9 hR.out i (by omega) (by omega)
   cases e
   simp only [Int.toNat_natCast] at h0 h1 h2 h3 h4 h5
   go_wp2_with fail
   rw [HE.out,Oper.upon_enter]
   refine (HF.out wr (aC l i) (by simpa [aC] using oG hlt) hI).mono ?_
   rintro e w' ⟨rfl,hI'⟩
   have hP':=aa.mk hP.out
   clear hP hI hR h0 h1 h2 h3 h4 h5
   cases hpx:p (aC l i)
   ·go_wp2
    go_roundw
    case rel=>exact ⟨i+1,by omega,by go_num,fun j hj=>by
     rcases Nat.lt_succ_iff_lt_or_eq.1 hj with h|rfl
     ·exact hP'.out j h
     simpa [aC] using hpx,hI'⟩
    case measure=>simp [intOf];omega
   go_wp2
   go_ret
   exact ⟨by rw [Bk hlt (by simpa [aC] using hpx) hP'.out];rfl,hI'⟩
  go_wp2
  go_ret
  exact ⟨by rw [wR (z:=jW) (fun j hj=>hP.out j (by omega))];rfl,hI⟩
set_option maxHeartbeats 400000 in
set_option maxRecDepth 100000 in
theorem LN (I:World→Prop) (p:eu→Bool) (g:Nat) (lb:Array Value) (A:Option Addr) (c:Nat) (l:List eu) (w:World) (hI:I w)
  (he:∀ args W,(callFunc g args).run Try.prog W= .ok (.enter g args) W)
  (hf:∀ W x,x ∈ l→I W→Calls Try.prog g (#[.agg #[.int .i64 x.f0,.int .i64 x.f1,.int .i64 x.f2,.int .i64 x.f3,.int .i64 x.f4,.int .i64 x.f5]]++lb) W fun e w'=>e= .returned (.bool (p x))∧I w')
  (hr:∀ W,I W→Kd.C nD W A l.length l):
  Calls Try.prog 138 #[.slice A l.length c,.func (.func g) #[] lb] w fun e w'=>e= .returned (.bool (decide (0≤idxOf p l)))∧I w':=by
 have H:=aa.mk (Qo I p g lb A c l w hI he hf hr)
 clear he hf hr
 go_enter Try.func138,Try.ntmps138
 go_wp2_with (go_at_call 160;refine H.out.mono ?_;rintro e w' ⟨rfl,hI'⟩)
 go_ret
 exact ⟨rfl,hI'⟩
theorem uw {α:Type} (p:α→Bool) (l:List α):decide (0≤idxOf p l)=l.any p:=by
 unfold idxOf
 cases h:l.findIdx? p with
 |none=>
  have:=List.findIdx?_eq_none_iff.1 h
  simp
  intro x hx
  simpa using this x hx
 |some i=>
  have:=List.findIdx?_isSome (xs:=l) (p:=p)
  rw [h] at this
  simp at this
  simp
  exact this
theorem Bl (p:eu→Bool) (g:Nat) (lb:Array Value) (A:Option Addr) (c:Nat) (l:List eu) (w:World)
  (he:∀ args W,(callFunc g args).run Try.prog W= .ok (.enter g args) W) (hr:Kd.C nD w A l.length l)
  (hf:∀ W x,x ∈ l→Below w.heap.size w W→Calls Try.prog g (#[.agg #[.int .i64 x.f0,.int .i64 x.f1,.int .i64 x.f2,.int .i64 x.f3,.int .i64 x.f4,.int .i64 x.f5]]++lb) W fun e w'=>e= .returned (.bool (p x))∧Below W.heap.size W w'):
  Calls Try.prog 138 #[.slice A l.length c,.func (.func g) #[] lb] w fun e w'=>e= .returned (.bool (l.any p))∧Below w.heap.size w w':=by
 rw [← uw]
 exact LN (fun W=>Below w.heap.size w W) p g lb A c l w (Below.refl _ _) he (fun W x hx hb=>(hf W x hx hb).mono fun e w' ⟨h1,h2⟩=>⟨h1,aE hb h2⟩) (fun W hb=>Kd.aN hr hb)
theorem wS (a b c:Int) (w:World):Calls Try.prog 140 #[.int .i64 a,.int .i64 b,.int .i64 c] w fun e w'=>e= .returned (.bool (decide (b≤a)&&decide (a≤c)))∧dD w w':=by
 refine mC.calls a b c _ w ?_
 unfold mC.f
 by_cases h:a≥b
 ·rw [if_pos h];simp [show b≤a from h]
 rw [if_neg h];simp [show ¬b≤a from h]
def oH (per last:Int) (x:eu):Bool:=
 !(decide (0≤x.f1)&&decide (x.f1≤last))|| !(decide (0≤x.f2)&&decide (x.f2≤last))||x.f1==x.f2||decide (x.f3< -65536)||decide (x.f3>x.f4)||decide (x.f4>65536)||decide (wrap64 (x.f4 - x.f3)≥per)|| !(decide (0≤x.f5)&&decide (x.f5≤1048576))
set_option maxHeartbeats 1000000 in
set_option maxRecDepth 100000 in
theorem FE (per last:Int) (es:Value) (ac:Value) (x:eu) (bl bn:Nat) (w:World) (hl:w.cell? ⟨bl,0,none⟩=some (.int .i64 last)) (hn:w.cell? ⟨bn,0,none⟩=some (.int .i64 per)):
  Calls Try.prog 141 #[.agg #[.int .i64 x.f0,.int .i64 x.f1,.int .i64 x.f2,.int .i64 x.f3,.int .i64 x.f4,.int .i64 x.f5],.pointer (some ⟨bl,0,none⟩),.pointer (some ⟨bn,0,none⟩)] w fun e w'=>e= .returned (.bool (oH per last x))∧Below w.heap.size w w':=by
 have sj:=Try.underlying36
 have hl':∀ o,(w.alloc o).cell? ⟨bl,0,none⟩=some (.int .i64 last):=fun o=>(World.cell?_alloc_lt _ _ _ (World.block_lt_of_cell? w _ hl)).trans hl
 have hn':∀ o,(w.alloc o).cell? ⟨bn,0,none⟩=some (.int .i64 per):=fun o=>(World.cell?_alloc_lt _ _ _ (World.block_lt_of_cell? w _ hn)).trans hn
 clear hl hn
 go_enter Try.func141,Try.ntmps141
 go_wp2_with (go_at_call 140;refine (wS _ _ _ _).mono ?_;rintro e w' ⟨rfl,⟨nd,rfl⟩⟩)
 all_goals
  go_ret
  refine ⟨congrArg (fun b=>Ending.returned (Value.bool b)) ?_,by repeat (first|exact Below.refl _ _|apply ae|apply ab|apply jl)⟩
  clear hl' hn' sj
  rw [Bool.eq_iff_iff]
  simp [oH,wrap64]
  omega
def fD (per:Int) (n:Nat) (acts:List eu):Bool:=
 decide (2≤per)&&decide (per≤7200)&&decide (n≤48)&&decide (acts.length≤512)&& !(acts.any (oH per ((n:Int) - 1)))
def fg.f (aI:Int) (aD:List (hO)) (au:List (eu)):Option (Bool):=some (fD aI aD.length au)
set_option maxHeartbeats 1000000 in
set_option maxRecDepth 100000 in
theorem fg.calls (aI:Int) (bh:Option Addr) (bi:Nat) (aD:List (hO)) (bu:Option Addr) (aW:Nat) (au:List (eu)) (r:Bool) (w:World) (eI:Kd.C oS w bh aD.length aD) (eS:aD.length≤bi) (eC:Kd.C nD w bu au.length au) (eT:au.length≤aW) (h:fg.f aI aD au=some r):
  Calls Try.prog 92 #[.agg #[.int .i64 aI,.slice bh aD.length bi,.slice bu au.length aW]] w fun e w'=>e= .returned (.bool r)∧Below w.heap.size w w':=by
 obtain rfl:=Option.some.inj h
 clear h
 have nu:=Try.underlying26
 have HR:=aa.mk eC
 have m1:=Kd.jZ eI
 have m2:=Kd.jZ eC
 clear eI eC eS eT
 have eg:∀ args W,(callFunc 141 args).run Try.prog W= .ok (.enter 141 args) W:=enters_of Try.func141 (by kernel_rfl) rfl
 have EG:=aa.mk eg
 clear eg
 go_enter Try.func92,Try.ntmps92
 go_wp2_with (first|(go_at_call 140;refine (wS _ _ _ _).mono ?_;rintro e w' ⟨rfl,⟨nd,rfl⟩⟩)|(go_at_call 138;refine (Bl (oH aI ((aD.length:Int) - 1)) 141 _ _ _ au _ EG.out ?hr ?hf).mono ?_;(case hr=>exact Kd.aN HR.out (by repeat (first|exact Below.refl _ _|apply ae|apply ab|apply jl)));(case hf=>intro W x hx hb;exact FE aI _ .nilIface .nilIface x _ _ W ((hb.cell (p:=⟨w.heap.size+1,0,none⟩) (by simp)).trans (by go_simp)) ((hb.cell (p:=⟨w.heap.size,0,none⟩) (by simp;omega)).trans (by go_simp)));rintro e w' ⟨rfl,hb⟩))
 all_goals
  go_ret
  refine ⟨congrArg (fun b=>Ending.returned (Value.bool b)) ?_, ?_⟩
  ·clear EG HR nu
   rw [Bool.eq_iff_iff]
   simp [fD]
   try omega
  first
   |(refine aE ?_ (by assumption);repeat (first|exact Below.refl _ _|apply ae|apply ab|apply jl))
   |(repeat (first|exact Below.refl _ _|apply ae|apply ab|apply jl))
end Go.Proofs.Ytbkjplomoegbdaa.PB
