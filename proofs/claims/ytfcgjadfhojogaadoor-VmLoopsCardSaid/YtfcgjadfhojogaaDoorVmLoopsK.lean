/- The row and the tied card of VmLoops: whatever its number is, the law answers true, and its input reads as it did. No condition but the laid table. -/
import Derived.Test.YtfcgjadfhojogaaDoorVmLw
import Derived.Test.YtfcgjadfhojogaaDoorVmRow
import Derived.Test.YtfcgjadfhojogaaDoorVmOp
import Derived.Test.YtfcgjadfhojogaaDoorTie
import Derived.Test.YtfcgjadfhojogaaDoorCards
import Derived.Stop.Joined
import Derived.SevenTiedAt
namespace Go.Proofs.YtfcgjadfhojogaaDoor
open Go.ChangeShapes Go.WideShapes Go.ChangeAt Go.RowKit
set_option linter.unusedVariables false

theorem Vm.loops_call (n : Int) (w : World) (ht : Vm.Table w) (h0 : 0 ≤ n) (h1 : n < 65536) :
    Calls Tryd.prog 7 #[.int .u16 n] w (Vm.Bool1 true w) := by
  have hk : n.tmod 1000 = ((n % 1000).toNat : Int) := by
    rw [Int.tmod_eq_emod_of_nonneg h0]
    omega
  have hm : (n % 1000).toNat < 1000 := by omega
  by_cases c : 2 + 7 * (((n % 1000).toNat : Nat) : Int) + 4 ≤ 2000
  · exact Vm.loops_fit n _ w ht h0 h1 hm hk c
  · exact Vm.loops_over n _ w ht h0 h1 hm hk c

set_option maxRecDepth 100000 in
theorem Vm.vmLoops_lifted (os : Os) (started : os.Started) (H : Type) (enc : TypeId × Value → H) :
    ReturnsInHanded {} Tryd.checked os 7 .any (fun w args => (Rows.vmLoopsSpec.pre enc Tryd.prog Tryd.f7 [] false w args ∧ laidMetH Tryd.prog [("underwood/vm.all", Rows.laid_underwood_vm_all)] w) ∧ sizedMet enc Tryd.prog Tryd.f7 (OpenSpec.ofChange Rows.vmLoopsSpec) false w args)
      (Rows.vmLoopsSpec.post enc Tryd.prog Tryd.f7 false true false false) := by
  refine returnsInHanded_of_change_and (C := Tryd.checked) (X := fun w _ => laidMetH Tryd.prog [("underwood/vm.all", Rows.laid_underwood_vm_all)] w) (fun _ _ _ hh h => h.of_heap hh) Tryd.own started (by kernel_rfl) Tryd.func7
    (ChangeSpec.witness_shaped (enc := enc) (C := Tryd.checked) (os := os) (X := fun w _ => laidMetH Tryd.prog [("underwood/vm.all", Rows.laid_underwood_vm_all)] w) false (World.doorLaid Tryd.prog 600 os) #[.int .u16 0] 8 rfl (World.shaped_of_RefB (by kernel_rfl) (by kernel_rfl)) (by kernel_rfl) (by kernel_rfl) (by kernel_rfl) (Vm.door_met os _)) ?_
  intro W base args ds gs before hval0 hW _ hsz0 hL _
  have hval : ∀ (j : Nat) t v, Tryd.f7.params[j]? = some t → args[j]? = some v → Value.okWide Tryd.prog W .any base t v := hval0
  have hW' := hW
  obtain ⟨p, q, hA0, hV, rfl, hfz, hnd⟩ := hW
  have hA : DataW.TrodAll enc Tryd.prog W 0 (fun _ => true) true Tryd.f7.params.toList args.toList ds p := hA0
  rw [Tryd.params7] at hA hval
  obtain ⟨v0, vs0, d0, ds0, p0, q0, hargs, rfl, rfl, h0, r0⟩ := trodAll_cons hA
  obtain ⟨rfl, rfl, rfl⟩ := trodAll_nil r0
  obtain rfl : args = #[v0] := by cases args; simp_all
  obtain ⟨rfl, rfl⟩ := trodVars_none hV
  obtain ⟨a0, rfl, rfl, rfl, w0⟩ := open_int Tryd.underlying57 (hval 0 57 v0 rfl rfl) h0
  have b0 : 0 ≤ a0 ∧ a0 ≤ 65535 := by simpa [Lit.wf, IntKind.min, IntKind.max, IntKind.signed, IntKind.bits] using w0
  clear hA0 hval0 hsz0
  refine (Vm.loops_call a0 W (Vm.of_laid hL) b0.1 (by omega)).mono fun e W' ⟨he, bel⟩ => ?_
  subst he
  exact ⟨_, rfl, _, _, _, [], _, [], hW', trodAll_mk1 (shut_bool Tryd.underlying4 _), (trodAll_cons_mk (shut_int Tryd.underlying57 w0) trodAll_mk0), rfl, bel.frame _, fun h => by cases h⟩

theorem vmLoops_holds : Rows.VmLoopsSaid :=
  OpenClaim.holds_of_wide 7 Tryd.f7 rfl rfl rfl rfl rfl rfl rfl ⟨rfl, rfl, rfl, rfl, rfl⟩ rfl rfl rfl rfl rfl (by kernel_rfl) Tryd.func7 (by kernel_rfl)
    (of_decide_eq_true (by kernel_rfl)) (by unfold Func.isWrapper; first | (rw [if_pos (by decide +kernel)]; kernel_rfl) | (rw [if_neg (by decide +kernel)]; exact ⟨rfl, rfl⟩))
    (fun os started H enc _ => Vm.vmLoops_lifted os started H enc)

theorem vmLoops_card : Rows.VmLoopsCardSaid :=
  Claim7.holds_tied_plain_at .later [] [.funcs] true (true, "c052a3dc6d1c2bd47fc17ba8612a48ac0a70453cdcadd922e840c4290b32e7ec") true
    vmLoops_holds (fun _ h => by cases h) (by kernel_rfl) (fun _ h => by cases h) vmLoops_row_tie rfl ⟨rfl, rfl⟩ (by kernel_rfl) rfl
    (fun f fn hf hfn => by
      obtain rfl : f = 7 := Option.some.inj ((show Tryd.prog.funcNamed "underwood/underwoodlaw08.VmLoops" = some 7 by kernel_rfl).symm.trans hf) |>.symm
      obtain rfl : fn = Tryd.f7 := (Option.some.inj (Tryd.func7.symm.trans hfn)).symm
      exact ⟨by kernel_rfl, fun j t ht => by
        rw [Tryd.params7] at ht
        have hm : t ∈ [57] := by simpa using Array.mem_of_getElem? ht
        have hall : ([57].all fun u => !Tryd.prog.wantsStandIn u) = true := by kernel_rfl
        exact (show Tryd.prog.wantsStandIn t = false by simpa using List.all_eq_true.1 hall t hm)⟩)
    (by kernel_rfl)
end Go.Proofs.YtfcgjadfhojogaaDoor
