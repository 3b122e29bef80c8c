/- Parts of the proof of CyclesSums, gathered by a program of this claim out of texts that it or the kit's print wrote: lemmas alone, no condition of their own. -/
import Derived.SizedLaws
import Derived.ChangeSlices
namespace Go.Proofs.YtbkjplomoegbdaaW.bO
open Go.ChangeShapes Go.WideShapes
theorem sY {H:Type} {enc:TypeId × Value→H} {P:Program} {W:World} {base:Nat} {spare:Nat→Bool} {held:Bool} {t e:TypeId} {k:IntKind} {a:Option Addr} {len cap:Nat} {d:DataW H} {ps:List MemPlace} {ts:List TypeId} {ds:List (DataW H)} {j:Nat}
  (hsz:(DataW.weightsEach P ts ds).all (·≤reachBytes)=true) (ht:ts[j]? =some t) (hd:ds[j]? =some d) (hu:P.underlying t=some (.slice e)) (he:P.underlying e=some (.int k)) (hc:P.cellsOf e=1) {B:Nat} (hB:P.bytesOf e=B)
  (h:DataW.Trod enc P W base spare held t (.slice a len cap) d ps):len*B≤140737488351232:=by
 obtain ⟨fuel,hf⟩:=h
 rcases open_ints hu he hc hf with ⟨hcs,_⟩|⟨x,l,c,zs,hcs,_,hl,_,hz,hx,_,_⟩
 ·simp [Value.cells] at hcs
  obtain ⟨rfl,rfl,rfl⟩:=hcs
  simp
 simp [Value.cells] at hcs
 obtain ⟨rfl,rfl,rfl⟩:=hcs
 obtain ⟨hx,_⟩:=Prod.mk.inj hx
 subst hx
 have z:=sized_slice hsz ht hd hu
 rw [hB] at z
 have I0:len≤zs.length:=by
  rw [hz]
  split
  ·exact hl
  exact Nat.le_refl _
 have h1:(lits (H:=H) k (zs.take len)).length+(lits (H:=H) k (zs.drop len)).length=zs.length:=by
  simp [lits]
  omega
 rw [h1] at z
 exact Nat.le_trans (Nat.mul_le_mul_right _ I0) z
end Go.Proofs.YtbkjplomoegbdaaW.bO
