/- Written by a program of this claim (the kit's print, with changes): Go functions as Lean functions, and the proofs that the calls come to just these; or the row of a law. No condition of its own. -/
import Derived.Test.YtbkjplomoegbdaaRows
import Derived.Test.YtbkjplomoegbdaaCcs26
import Derived.ProofKit
import Derived.OpenShut
import Derived.ShutString
import Derived.Test.YtbkjplomoegbdaaCcs27
namespace Go.Proofs.Ytbkjplomoegbdaa.Lm
open Go.RowKit
def codes:List Nat:=[104,97,114,110,101,115,115,32,101,101,100,98,102,55,97,53,49,51,100,102,98,54,98,99,102,57,57,56,53,53,55,57,55,99,53,50,48,52,50,55,100,51,52,52,101,54,102,55,48,54,52,101,53,102,50,52,48,101,55,57,57,98,54,55,101,54,97,100,98,101,100,50,32,99,117,116,32,97,116,32,114,97,105,108,112,108,97,110,47,114,97,105,108,112,108,97,110,108,97,119,49,54,46,83,105,109,112,108,101,120,67,117,116,83,112,108,105,116,115,32,114,97,105,108,112,108,97,110,47,114,97,105,108,112,108,97,110,108,97,119,49,50,46,67,121,99,108,101,115,83,117,109,115,32,114,97,105,108,112,108,97,110,47,114,97,105,108,112,108,97,110,108,97,119,49,50,46,67,121,99,108,101,115,80,101,114,105,111,100,105,99,105,116,121,32,114,97,105,108,112,108,97,110,47,114,97,105,108,112,108,97,110,108,97,119,49,50,46,67,121,99,108,101,115,67,108,111,115,101,100,86,97,108,117,101,115,32,114,97,105,108,112,108,97,110,47,114,97,105,108,112,108,97,110,108,97,119,49,54,46,83,105,109,112,108,101,120,69,120,97,109,112,108,101,115,32,114,97,105,108,112,108,97,110,47,114,97,105,108,112,108,97,110,108,97,119,49,54,46,83,105,109,112,108,101,120,77,111,118,101,84,105,103,104,116,101,110,115,32,114,97,105,108,112,108,97,110,47,114,97,105,108,112,108,97,110,108,97,119,49,53,46,66,111,117,110,100,73,115,76,111,119,101,114,32,114,97,105,108,112,108,97,110,47,114,97,105,108,112,108,97,110,108,97,119,49,53,46,66,111,117,110,100,80,97,114,116,115,65,100,100,32,114,97,105,108,112,108,97,110,47,114,97,105,108,112,108,97,110,108,97,119,49,53,46,66,111,117,110,100,80,97,99,107,73,115,76,111,119,101,114,32,114,97,105,108,112,108,97,110,47,114,97,105,108,112,108,97,110,108,97,119,49,53,46,66,111,117,110,100,73,110,102,101,97,115,105,98,108,101,32,114,97,105,108,112,108,97,110,47,114,97,105,108,112,108,97,110,108,97,119,49,53,46,66,111,117,110,100,75,101,101,112,115,67,121,99,108,101,115,32,114,97,105,108,112,108,97,110,47,114,97,105,108,112,108,97,110,108,97,119,49,54,46,83,105,109,112,108,101,120,73,109,112,114,111,118,101,115,32,114,97,105,108,112,108,97,110,47,114,97,105,108,112,108,97,110,108,97,119,49,54,46,83,105,109,112,108,101,120,75,101,101,112,115,65,114,103,117,109,101,110,116,115,32,114,97,105,108,112,108,97,110,47,114,97,105,108,112,108,97,110,108,97,119,49,54,46,83,105,109,112,108,101,120,82,97,119,32,114,97,105,108,112,108,97,110,47,114,97,105,108,112,108,97,110,108,97,119,49,54,46,83,105,109,112,108,101,120,71,101,110,101,114,97,116,101,100,32,114,97,105,108,112,108,97,110,47,114,97,105,108,112,108,97,110,108,97,119,49,54,46,83,105,109,112,108,101,120,87,105,100,101,32,114,97,105,108,112,108,97,110,47,114,97,105,108,112,108,97,110,108,97,119,49,54,46,83,105,109,112,108,101,120,69,110,100,115,76,111,99,97,108,108,121,32,114,97,105,108,112,108,97,110,47,114,97,105,108,112,108,97,110,108,97,119,49,53,46,66,111,117,110,100,69,120,97,109,112,108,101,115,32,114,97,105,108,112,108,97,110,47,114,97,105,108,112,108,97,110,108,97,119,49,53,46,66,111,117,110,100,82,97,119,32,114,97,105,108,112,108,97,110,47,114,97,105,108,112,108,97,110,108,97,119,49,53,46,66,111,117,110,100,71,101,110,101,114,97,116,101,100,32,114,97,105,108,112,108,97,110,47,114,97,105,108,112,108,97,110,108,97,119,49,53,46,66,111,117,110,100,80,97,99,107,73,115,67,104,101,99,107,101,100,32,114,97,105,108,112,108,97,110,47,114,97,105,108,112,108,97,110,108,97,119,49,53,46,66,111,117,110,100,80,97,99,107,73,115,77,97,120,105,109,97,108,32,114,97,105,108,112,108,97,110,47,114,97,105,108,112,108,97,110,108,97,119,49,50,46,67,121,99,108,101,115,67,111,109,112,111,110,101,110,116,115,32,114,97,105,108,112,108,97,110,47,114,97,105,108,112,108,97,110,108,97,119,49,50,46,67,121,99,108,101,115,69,120,97,109,112,108,101,115,32,114,97,105,108,112,108,97,110,47,114,97,105,108,112,108,97,110,108,97,119,49,50,46,67,121,99,108,101,115,84,114,101,101,73,115,76,101,97,115,116,32,114,97,105,108,112,108,97,110,47,114,97,105,108,112,108,97,110,108,97,119,49,50,46,67,121,99,108,101,115,80,111,116,101,110,116,105,97,108,115,73,110,118,101,114,116,84,101,110,115,105,111,110,115,32,114,97,105,108,112,108,97,110,47,114,97,105,108,112,108,97,110,108,97,119,49,50,46,67,121,99,108,101,115,70,111,114,101,115,116,115,32,114,97,105,108,112,108,97,110,47,114,97,105,108,112,108,97,110,108,97,119,49,50,46,67,121,99,108,101,115,82,97,119]
def signs:List Char:=codes.map Char.ofNat
theorem head:Try.prog.initOrder=String.ofList signs:=by kernel_rfl
theorem list:Try.prog.initOrder.toList=signs:=by rw [head,String.toList_ofList]
def word:List Char:=[99,117,116].map Char.ofNat
def rest:List (List Char):=[[97,116],[114,97,105,108,112,108,97,110,47,114,97,105,108,112,108,97,110,108,97,119,49,54,46,83,105,109,112,108,101,120,67,117,116,83,112,108,105,116,115],[114,97,105,108,112,108,97,110,47,114,97,105,108,112,108,97,110,108,97,119,49,50,46,67,121,99,108,101,115,83,117,109,115],[114,97,105,108,112,108,97,110,47,114,97,105,108,112,108,97,110,108,97,119,49,50,46,67,121,99,108,101,115,80,101,114,105,111,100,105,99,105,116,121],[114,97,105,108,112,108,97,110,47,114,97,105,108,112,108,97,110,108,97,119,49,50,46,67,121,99,108,101,115,67,108,111,115,101,100,86,97,108,117,101,115],[114,97,105,108,112,108,97,110,47,114,97,105,108,112,108,97,110,108,97,119,49,54,46,83,105,109,112,108,101,120,69,120,97,109,112,108,101,115],[114,97,105,108,112,108,97,110,47,114,97,105,108,112,108,97,110,108,97,119,49,54,46,83,105,109,112,108,101,120,77,111,118,101,84,105,103,104,116,101,110,115],[114,97,105,108,112,108,97,110,47,114,97,105,108,112,108,97,110,108,97,119,49,53,46,66,111,117,110,100,73,115,76,111,119,101,114],[114,97,105,108,112,108,97,110,47,114,97,105,108,112,108,97,110,108,97,119,49,53,46,66,111,117,110,100,80,97,114,116,115,65,100,100],[114,97,105,108,112,108,97,110,47,114,97,105,108,112,108,97,110,108,97,119,49,53,46,66,111,117,110,100,80,97,99,107,73,115,76,111,119,101,114],[114,97,105,108,112,108,97,110,47,114,97,105,108,112,108,97,110,108,97,119,49,53,46,66,111,117,110,100,73,110,102,101,97,115,105,98,108,101],[114,97,105,108,112,108,97,110,47,114,97,105,108,112,108,97,110,108,97,119,49,53,46,66,111,117,110,100,75,101,101,112,115,67,121,99,108,101,115],[114,97,105,108,112,108,97,110,47,114,97,105,108,112,108,97,110,108,97,119,49,54,46,83,105,109,112,108,101,120,73,109,112,114,111,118,101,115],[114,97,105,108,112,108,97,110,47,114,97,105,108,112,108,97,110,108,97,119,49,54,46,83,105,109,112,108,101,120,75,101,101,112,115,65,114,103,117,109,101,110,116,115],[114,97,105,108,112,108,97,110,47,114,97,105,108,112,108,97,110,108,97,119,49,54,46,83,105,109,112,108,101,120,82,97,119],[114,97,105,108,112,108,97,110,47,114,97,105,108,112,108,97,110,108,97,119,49,54,46,83,105,109,112,108,101,120,71,101,110,101,114,97,116,101,100],[114,97,105,108,112,108,97,110,47,114,97,105,108,112,108,97,110,108,97,119,49,54,46,83,105,109,112,108,101,120,87,105,100,101],[114,97,105,108,112,108,97,110,47,114,97,105,108,112,108,97,110,108,97,119,49,54,46,83,105,109,112,108,101,120,69,110,100,115,76,111,99,97,108,108,121],[114,97,105,108,112,108,97,110,47,114,97,105,108,112,108,97,110,108,97,119,49,53,46,66,111,117,110,100,69,120,97,109,112,108,101,115],[114,97,105,108,112,108,97,110,47,114,97,105,108,112,108,97,110,108,97,119,49,53,46,66,111,117,110,100,82,97,119],[114,97,105,108,112,108,97,110,47,114,97,105,108,112,108,97,110,108,97,119,49,53,46,66,111,117,110,100,71,101,110,101,114,97,116,101,100],[114,97,105,108,112,108,97,110,47,114,97,105,108,112,108,97,110,108,97,119,49,53,46,66,111,117,110,100,80,97,99,107,73,115,67,104,101,99,107,101,100],[114,97,105,108,112,108,97,110,47,114,97,105,108,112,108,97,110,108,97,119,49,53,46,66,111,117,110,100,80,97,99,107,73,115,77,97,120,105,109,97,108],[114,97,105,108,112,108,97,110,47,114,97,105,108,112,108,97,110,108,97,119,49,50,46,67,121,99,108,101,115,67,111,109,112,111,110,101,110,116,115],[114,97,105,108,112,108,97,110,47,114,97,105,108,112,108,97,110,108,97,119,49,50,46,67,121,99,108,101,115,69,120,97,109,112,108,101,115],[114,97,105,108,112,108,97,110,47,114,97,105,108,112,108,97,110,108,97,119,49,50,46,67,121,99,108,101,115,84,114,101,101,73,115,76,101,97,115,116],[114,97,105,108,112,108,97,110,47,114,97,105,108,112,108,97,110,108,97,119,49,50,46,67,121,99,108,101,115,80,111,116,101,110,116,105,97,108,115,73,110,118,101,114,116,84,101,110,115,105,111,110,115],[114,97,105,108,112,108,97,110,47,114,97,105,108,112,108,97,110,108,97,119,49,50,46,67,121,99,108,101,115,70,111,114,101,115,116,115],[114,97,105,108,112,108,97,110,47,114,97,105,108,112,108,97,110,108,97,119,49,50,46,67,121,99,108,101,115,82,97,119]].map fun w=>w.map Char.ofNat
theorem read:behindMainWord (wordsSigns Try.prog.initOrder.toList)=word :: rest:=by
 rw [list]
 kernel_rfl
theorem Ln (P:Program) (c:List Char) (r:List (List Char)) (h:behindMainWord (wordsSigns P.initOrder.toList)=c :: r) (h1:(c== "gc".toList||c== "spec".toList)=false) (h2:(c== "cut".toList)=true):P.make=some .cut:=by
 unfold Program.make
 rw [h]
 simp only [h1,h2,Bool.true_or,if_true,Bool.false_eq_true,if_false]
theorem Cs (P:Program) (c:List Char) (r:List (List Char)) (h:behindMainWord (wordsSigns P.initOrder.toList)=c :: r) (h3:((stripLifts liftWords (c :: r)).2.head? ==some "cut".toList)=true) (h4:P.laysLater=false) (h5:P.bearsReflect=false)
  (h6:(stripLifts liftWords (c :: r)).1=[]) (h7:P.doorFits []=true):P.mayEnter=true:=by
 unfold Program.mayEnter
 rw [h]
 simp only [h3,h4,h5,h6,h7,List.contains_nil,Bool.not_false,Bool.or_true,Bool.and_true]
theorem mayEnter:Try.prog.mayEnter=true:=Cs Try.prog word rest read (by kernel_rfl) (by kernel_rfl) (by kernel_rfl) (by kernel_rfl) (by kernel_rfl)
theorem liftsFinal:Try.prog.liftsFinal=false:=by
 unfold Program.liftsFinal Program.headLifts
 rw [list]
 kernel_rfl
theorem make:Try.prog.make=some .cut:=Ln Try.prog word rest read (by kernel_rfl) (by kernel_rfl)
end Go.Proofs.Ytbkjplomoegbdaa.Lm
namespace Go.Proofs.Ytbkjplomoegbdaa.cyclesSums
open Go.ChangeShapes Go.WideShapes Go.ChangeAt Go.RowKit
open Go.ChangeMaps (open_string shut_string)
set_option linter.unusedVariables false
theorem own:ownKnob Try.prog.godebug=none:=by kernel_rfl
theorem laidOut:laidOutB Try.prog=true:=by kernel_rfl
def IX (k:IntKind) (w:World) (a:Option Addr) (len cap:Nat) (zs:List Int):Prop:=
 (a=none∧len=0∧cap=0∧zs=[])∨
 ∃ x,a=some x∧len≤cap∧cap≤maxLen∧zs.length=cap∧(∀ i,i<zs.length→w.cell? (x.add i)=some (.int k (zs.getD i 0)))∧∀ n ∈ zs,(Lit.int k n).wf=true
set_option maxRecDepth 100000 in
theorem lifted (os:Os) (started:os.Started) (H:Type) (enc:TypeId × Value→H):
  ReturnsInHanded {} Try.checked os 4 .any (Rows.cyclesSumsSpec.pre6 enc Try.prog Try.f4 Rows.cyclesSumsRow.domain false) (Rows.cyclesSumsSpec.post enc Try.prog Try.f4 false true false false):=by
 refine returnsInHanded_of_change_sized (C:=Try.checked) own started (by kernel_rfl) Try.func4
  (ChangeSpec.witness6 (enc:=enc) (C:=Try.checked) false ⟨#[],#[.slice none 0 0,.slice none 0 0,.slice none 0 0,.int .i64 0,.int .i64 0,.int .i64 0],[]⟩ 8 (by kernel_rfl) (by kernel_rfl) (by kernel_rfl) (by kernel_rfl)) ?_
 intro W base args ds gs before Mp hW hcnd TG _
 have hsz:(DataW.weightsEach Try.prog (Try.f4.params.toList++Rows.cyclesSumsSpec.plain.varTypes Try.prog) (ds++gs)).all (·≤reachBytes)=true:=TG
 have hval:∀ (j:Nat) t v,Try.f4.params[j]? =some t→args[j]? =some v→Value.okWide Try.prog W .any base t v:=Mp
 have hW':=hW
 obtain ⟨p,q,hA0,hV,rfl,hfz,hnd⟩:=hW
 have hA:DataW.TrodAll enc Try.prog W 0 (fun _=>true) true Try.f4.params.toList args.toList ds p:=hA0
 rw [Try.params4] at hA hval hsz
 obtain ⟨v0,vs0,d0,ds0,p0,q0,hargs,rfl,rfl,h0,r0⟩:=trodAll_cons hA
 obtain ⟨v1,vs1,d1,ds1,p1,q1,rfl,rfl,rfl,h1,r1⟩:=trodAll_cons r0
 obtain ⟨v2,vs2,d2,ds2,p2,q2,rfl,rfl,rfl,h2,r2⟩:=trodAll_cons r1
 obtain ⟨v3,vs3,d3,ds3,p3,q3,rfl,rfl,rfl,h3,r3⟩:=trodAll_cons r2
 obtain ⟨v4,vs4,d4,ds4,p4,q4,rfl,rfl,rfl,h4,r4⟩:=trodAll_cons r3
 obtain ⟨v5,vs5,d5,ds5,p5,q5,rfl,rfl,rfl,h5,r5⟩:=trodAll_cons r4
 obtain ⟨rfl,rfl,rfl⟩:=trodAll_nil r5
 obtain rfl:args=#[v0,v1,v2,v3,v4,v5]:=by cases args;simp_all
 obtain ⟨rfl,rfl⟩:=trodVars_none hV
 obtain ⟨a0,Cj,Ck,rfl⟩:=okWide_slice Try.underlying22 (hval 0 22 v0 rfl rfl)
 have k0:=h0
 have lt0:∀ x ∈ p0,x.block<W.heap.size:=by obtain ⟨m,hm⟩:=k0;exact DataW.trod_lt m _ _ _ hm
 obtain ⟨z0,w0⟩:∃ zs,IX .i64 W a0 Cj Ck zs:=by
  obtain ⟨fuel,hf⟩:=h0
  rcases open_ints Try.underlying22 Try.underlying3 (by kernel_rfl) hf with ⟨hcs,_⟩|⟨x,l,c,zs,hcs,_,hl,hm,hz,_,hcell,hwz⟩
  ·simp [Value.cells] at hcs
   obtain ⟨rfl,rfl,rfl⟩:=hcs
   exact ⟨[],.inl ⟨rfl,rfl,rfl,rfl⟩⟩
  simp [Value.cells] at hcs
  obtain ⟨rfl,rfl,rfl⟩:=hcs
  exact ⟨zs,.inr ⟨_,rfl,hl,hm,by simpa using hz,hcell,hwz⟩⟩
 have y0:Cj*8≤140737488351232:=Go.Proofs.YtbkjplomoegbdaaW.bO.sY hsz (j:=0) (t:=22) rfl rfl Try.underlying22 Try.underlying3 (by kernel_rfl) (by kernel_rfl) h0
 obtain ⟨a1,Cl,Cm,rfl⟩:=okWide_slice Try.underlying22 (hval 1 22 v1 rfl rfl)
 have k1:=h1
 have lt1:∀ x ∈ p1,x.block<W.heap.size:=by obtain ⟨m,hm⟩:=k1;exact DataW.trod_lt m _ _ _ hm
 obtain ⟨z1,w1⟩:∃ zs,IX .i64 W a1 Cl Cm zs:=by
  obtain ⟨fuel,hf⟩:=h1
  rcases open_ints Try.underlying22 Try.underlying3 (by kernel_rfl) hf with ⟨hcs,_⟩|⟨x,l,c,zs,hcs,_,hl,hm,hz,_,hcell,hwz⟩
  ·simp [Value.cells] at hcs
   obtain ⟨rfl,rfl,rfl⟩:=hcs
   exact ⟨[],.inl ⟨rfl,rfl,rfl,rfl⟩⟩
  simp [Value.cells] at hcs
  obtain ⟨rfl,rfl,rfl⟩:=hcs
  exact ⟨zs,.inr ⟨_,rfl,hl,hm,by simpa using hz,hcell,hwz⟩⟩
 have y1:Cl*8≤140737488351232:=Go.Proofs.YtbkjplomoegbdaaW.bO.sY hsz (j:=1) (t:=22) rfl rfl Try.underlying22 Try.underlying3 (by kernel_rfl) (by kernel_rfl) h1
 obtain ⟨a2,Cn,Co,rfl⟩:=okWide_slice Try.underlying22 (hval 2 22 v2 rfl rfl)
 have k2:=h2
 have lt2:∀ x ∈ p2,x.block<W.heap.size:=by obtain ⟨m,hm⟩:=k2;exact DataW.trod_lt m _ _ _ hm
 obtain ⟨z2,w2⟩:∃ zs,IX .i64 W a2 Cn Co zs:=by
  obtain ⟨fuel,hf⟩:=h2
  rcases open_ints Try.underlying22 Try.underlying3 (by kernel_rfl) hf with ⟨hcs,_⟩|⟨x,l,c,zs,hcs,_,hl,hm,hz,_,hcell,hwz⟩
  ·simp [Value.cells] at hcs
   obtain ⟨rfl,rfl,rfl⟩:=hcs
   exact ⟨[],.inl ⟨rfl,rfl,rfl,rfl⟩⟩
  simp [Value.cells] at hcs
  obtain ⟨rfl,rfl,rfl⟩:=hcs
  exact ⟨zs,.inr ⟨_,rfl,hl,hm,by simpa using hz,hcell,hwz⟩⟩
 have y2:Cn*8≤140737488351232:=Go.Proofs.YtbkjplomoegbdaaW.bO.sY hsz (j:=2) (t:=22) rfl rfl Try.underlying22 Try.underlying3 (by kernel_rfl) (by kernel_rfl) h2
 obtain ⟨a3,rfl,rfl,rfl,w3⟩:=open_int Try.underlying3 (hval 3 3 v3 rfl rfl) h3
 obtain ⟨a4,rfl,rfl,rfl,w4⟩:=open_int Try.underlying3 (hval 4 3 v4 rfl rfl) h4
 obtain ⟨a5,rfl,rfl,rfl,w5⟩:=open_int Try.underlying3 (hval 5 3 v5 rfl rfl) h5
 clear hA0 Mp TG hsz
 refine (PB.ay.walk Pure.CyclesSums a0 Cj Ck z0 a1 Cl Cm z1 a2 Cn Co z2 a3 a4 a5 W w0 y0 w1 y1 w2 y2 w3 w4 w5).mono fun e W' ⟨he,bel⟩=> ?_
 subst he
 exact ⟨_,rfl,_,_,_,[],_,[],hW',trodAll_mk1 (shut_bool Try.underlying4 _),(trodAll_cons_mk (Below.trod laidOut (by kernel_rfl) (of_decide_eq_true (by kernel_rfl)) k0 bel lt0) (trodAll_cons_mk (Below.trod laidOut (by kernel_rfl) (of_decide_eq_true (by kernel_rfl)) k1 bel lt1) (trodAll_cons_mk (Below.trod laidOut (by kernel_rfl) (of_decide_eq_true (by kernel_rfl)) k2 bel lt2) (trodAll_cons_mk (shut_int Try.underlying3 w3) (trodAll_cons_mk (shut_int Try.underlying3 w4) (trodAll_cons_mk (shut_int Try.underlying3 w5) trodAll_mk0)))))),rfl,bel.frame _,fun h=>by cases h⟩
theorem joined:joinedFacts Try.prog 4 Try.f4 Rows.cyclesSumsSpec Rows.cyclesSumsRow=true:=by
 unfold joinedFacts
 rw [Lm.mayEnter,Lm.liftsFinal,Lm.make]
 kernel_rfl
theorem over:Rows.cyclesSumsRow.holds Try.pinned (OpenSpec.ofChange Rows.cyclesSumsSpec):=
 OpenClaim.holds_of_wide 4 Try.f4 rfl rfl rfl rfl rfl rfl rfl ⟨rfl,rfl,rfl,rfl,rfl⟩ rfl rfl rfl rfl rfl (by kernel_rfl) Try.func4 joined
  (of_decide_eq_true (by kernel_rfl)) (by unfold Func.isWrapper;first|(rw [if_pos (by decide+kernel)];kernel_rfl)|(rw [if_neg (by decide+kernel)];exact ⟨rfl,rfl⟩))
  (fun os started H enc _=>lifted os started H enc)
theorem proved:Rows.CyclesSumsSaid:=over
#print axioms proved
end Go.Proofs.Ytbkjplomoegbdaa.cyclesSums
namespace Go.Proofs.Ytbkjplomoegbdaa
theorem cyclesSums_holds:Rows.CyclesSumsSaid:=cyclesSums.proved
end Go.Proofs.Ytbkjplomoegbdaa
