/- The contract of network.Check: for every network the Go code returns 'netOk', and leaves all memory that was there as it was. -/
import Derived.Test.YtbkjplomoegbdaaHNet1
namespace Go.Proofs.Ytbkjplomoegbdaa.PB
open Go.RowKit Go.Proofs.YtbkjplomoegbdaaW.PrintWords Go.Proofs.YtbkjplomoegbdaaW.PrintLast Go.Proofs.YtbkjplomoegbdaaW.PrintMore
set_option linter.unusedVariables false
set_option linter.unusedSimpArgs false

def netOk (per : Int) (n : Nat) (acts : List S36) : Bool :=
  decide (2 ≤ per) && decide (per ≤ 7200) && decide (n ≤ 48) && decide (acts.length ≤ 512) && !(acts.any (badAct per ((n : Int) - 1)))
def network_Check.f (a0_0 : Int) (l0_1 : List (S97)) (l0_2 : List (S36)) : Option (Bool) := some (netOk a0_0 l0_1.length l0_2)

set_option maxHeartbeats 1000000 in
set_option maxRecDepth 100000 in
theorem network_Check.calls (a0_0 : Int) (A0_1 : Option Addr) (c0_1 : Nat) (l0_1 : List (S97)) (A0_2 : Option Addr) (c0_2 : Nat) (l0_2 : List (S36)) (r : Bool) (w : World) (hr0_1 : Kd.C k97 w A0_1 l0_1.length l0_1) (hc0_1 : l0_1.length ≤ c0_1) (hr0_2 : Kd.C k36 w A0_2 l0_2.length l0_2) (hc0_2 : l0_2.length ≤ c0_2) (h : network_Check.f a0_0 l0_1 l0_2 = some r) :
    Calls Try.prog 92 #[.agg #[.int .i64 a0_0, .slice A0_1 l0_1.length c0_1, .slice A0_2 l0_2.length c0_2]] w fun e w' => e = .returned (.bool r) ∧ Below w.heap.size w w' := by
  obtain rfl := Option.some.inj h
  clear h
  have hu26 := Try.underlying26
  have HR := Aside0.mk hr0_2
  have m1 := Kd.C_max hr0_1
  have m2 := Kd.C_max hr0_2
  clear hr0_1 hr0_2 hc0_1 hc0_2
  have eg : ∀ args W, (callFunc 141 args).run Try.prog W = .ok (.enter 141 args) W := enters_of Try.func141 (by kernel_rfl) rfl
  have EG := Aside0.mk eg
  clear eg
  go_enter Try.func92, Try.ntmps92
  go_wp2_with (first | (go_at_call 140; refine (within_b _ _ _ _).mono ?_; rintro e w' ⟨rfl, ⟨nd, rfl⟩⟩) | (go_at_call 138; refine (has36_below (badAct a0_0 ((l0_1.length : Int) - 1)) 141 _ _ _ l0_2 _ EG.out ?hr ?hf).mono ?_; (case hr => exact Kd.C_below HR.out (by repeat (first | exact Below.refl _ _ | apply below_alloc | apply pw_below_drewN | apply below_drew))); (case hf => intro W x hx hb; exact check_lit a0_0 _ .nilIface .nilIface x _ _ W ((hb.cell (p := ⟨w.heap.size + 1, 0, none⟩) (by simp)).trans (by go_simp)) ((hb.cell (p := ⟨w.heap.size, 0, none⟩) (by simp; omega)).trans (by go_simp))); rintro e w' ⟨rfl, hb⟩))
  all_goals
    go_ret
    refine ⟨congrArg (fun b => Ending.returned (Value.bool b)) ?_, ?_⟩
    · clear EG HR hu26
      rw [Bool.eq_iff_iff]
      simp [netOk]
      try omega
    · first
        | (refine below_step ?_ (by assumption); repeat (first | exact Below.refl _ _ | apply below_alloc | apply pw_below_drewN | apply below_drew))
        | (repeat (first | exact Below.refl _ _ | apply below_alloc | apply pw_below_drewN | apply below_drew))
end Go.Proofs.Ytbkjplomoegbdaa.PB
