/- The row and the tied card of VmAgain: whatever its three numbers are, the law answers true, and its input reads as it did. No condition but the laid table. -/
import Derived.Test.YtfcgjadfhojogaaDoorVmAw
import Derived.Test.YtfcgjadfhojogaaDoorVmRow
import Derived.Test.YtfcgjadfhojogaaDoorVmOp
import Derived.Test.YtfcgjadfhojogaaDoorTie
import Derived.Test.YtfcgjadfhojogaaDoorCards
import Derived.Stop.Joined
import Derived.SevenTiedAt
namespace Go.Proofs.YtfcgjadfhojogaaDoor
open Go.ChangeShapes Go.WideShapes Go.ChangeAt Go.RowKit
set_option linter.unusedVariables false

theorem Vm.again_call (a b dst : Int) (w : World) (ht : Vm.Table w) (ha0 : 0 ≤ a) (ha1 : a < 4294967296) (hb0 : 0 ≤ b) (hbb : b < 4294967296) (hd0 : 0 ≤ dst) (hd1 : dst < 256) :
    Calls Tryd.prog 5 #[.int .u32 a, .int .u32 b, .int .u8 dst] w (Vm.Bool1 true w) := by
  have hk : dst.tmod 2 = 0 ∨ dst.tmod 2 = 1 := by
    rw [Int.tmod_eq_emod_of_nonneg hd0]
    omega
  rcases hk with hk | hk
  · exact Vm.again_d0 a b dst w ht ha0 ha1 hb0 hbb hd0 hd1 hk
  · exact Vm.again_d1 a b dst w ht ha0 ha1 hb0 hbb hd0 hd1 hk

set_option maxRecDepth 100000 in
theorem Vm.vmAgain_lifted (os : Os) (started : os.Started) (H : Type) (enc : TypeId × Value → H) :
    ReturnsInHanded {} Tryd.checked os 5 .any (fun w args => (Rows.vmAgainSpec.pre enc Tryd.prog Tryd.f5 [] false w args ∧ laidMetH Tryd.prog [("underwood/vm.all", Rows.laid_underwood_vm_all)] w) ∧ sizedMet enc Tryd.prog Tryd.f5 (OpenSpec.ofChange Rows.vmAgainSpec) false w args)
      (Rows.vmAgainSpec.post enc Tryd.prog Tryd.f5 false true false false) := by
  refine returnsInHanded_of_change_and (C := Tryd.checked) (X := fun w _ => laidMetH Tryd.prog [("underwood/vm.all", Rows.laid_underwood_vm_all)] w) (fun _ _ _ hh h => h.of_heap hh) Tryd.own started (by kernel_rfl) Tryd.func5
    (ChangeSpec.witness_shaped (enc := enc) (C := Tryd.checked) (os := os) (X := fun w _ => laidMetH Tryd.prog [("underwood/vm.all", Rows.laid_underwood_vm_all)] w) false (World.doorLaid Tryd.prog 600 os) #[.int .u32 0, .int .u32 0, .int .u8 0] 8 rfl (World.shaped_of_RefB (by kernel_rfl) (by kernel_rfl)) (by kernel_rfl) (by kernel_rfl) (by kernel_rfl) (Vm.door_met os _)) ?_
  intro W base args ds gs before hval0 hW _ hsz0 hL _
  have hval : ∀ (j : Nat) t v, Tryd.f5.params[j]? = some t → args[j]? = some v → Value.okWide Tryd.prog W .any base t v := hval0
  have hW' := hW
  obtain ⟨p, q, hA0, hV, rfl, hfz, hnd⟩ := hW
  have hA : DataW.TrodAll enc Tryd.prog W 0 (fun _ => true) true Tryd.f5.params.toList args.toList ds p := hA0
  rw [Tryd.params5] at hA hval
  obtain ⟨v0, vs0, d0, ds0, p0, q0, hargs, rfl, rfl, h0, r0⟩ := trodAll_cons hA
  obtain ⟨v1, vs1, d1, ds1, p1, q1, rfl, rfl, rfl, h1, r1⟩ := trodAll_cons r0
  obtain ⟨v2, vs2, d2, ds2, p2, q2, rfl, rfl, rfl, h2, r2⟩ := trodAll_cons r1
  obtain ⟨rfl, rfl, rfl⟩ := trodAll_nil r2
  obtain rfl : args = #[v0, v1, v2] := by cases args; simp_all
  obtain ⟨rfl, rfl⟩ := trodVars_none hV
  obtain ⟨a0, rfl, rfl, rfl, w0⟩ := open_int Tryd.underlying44 (hval 0 44 v0 rfl rfl) h0
  have b0 : 0 ≤ a0 ∧ a0 ≤ 4294967295 := by simpa [Lit.wf, IntKind.min, IntKind.max, IntKind.signed, IntKind.bits] using w0
  obtain ⟨a1, rfl, rfl, rfl, w1⟩ := open_int Tryd.underlying44 (hval 1 44 v1 rfl rfl) h1
  have b1 : 0 ≤ a1 ∧ a1 ≤ 4294967295 := by simpa [Lit.wf, IntKind.min, IntKind.max, IntKind.signed, IntKind.bits] using w1
  obtain ⟨a2, rfl, rfl, rfl, w2⟩ := open_int Tryd.underlying5 (hval 2 5 v2 rfl rfl) h2
  have b2 : 0 ≤ a2 ∧ a2 ≤ 255 := by simpa [Lit.wf, IntKind.min, IntKind.max, IntKind.signed, IntKind.bits] using w2
  clear hA0 hval0 hsz0
  refine (Vm.again_call a0 a1 a2 W (Vm.of_laid hL) b0.1 (by omega) b1.1 (by omega) b2.1 (by omega)).mono fun e W' ⟨he, bel⟩ => ?_
  subst he
  exact ⟨_, rfl, _, _, _, [], _, [], hW', trodAll_mk1 (shut_bool Tryd.underlying4 _), (trodAll_cons_mk (shut_int Tryd.underlying44 w0) (trodAll_cons_mk (shut_int Tryd.underlying44 w1) (trodAll_cons_mk (shut_int Tryd.underlying5 w2) trodAll_mk0))), rfl, bel.frame _, fun h => by cases h⟩

theorem vmAgain_holds : Rows.VmAgainSaid :=
  OpenClaim.holds_of_wide 5 Tryd.f5 rfl rfl rfl rfl rfl rfl rfl ⟨rfl, rfl, rfl, rfl, rfl⟩ rfl rfl rfl rfl rfl (by kernel_rfl) Tryd.func5 (by kernel_rfl)
    (of_decide_eq_true (by kernel_rfl)) (by unfold Func.isWrapper; first | (rw [if_pos (by decide +kernel)]; kernel_rfl) | (rw [if_neg (by decide +kernel)]; exact ⟨rfl, rfl⟩))
    (fun os started H enc _ => Vm.vmAgain_lifted os started H enc)

theorem vmAgain_card : Rows.VmAgainCardSaid :=
  Claim7.holds_tied_plain_at .later [] [.funcs] true (true, "c052a3dc6d1c2bd47fc17ba8612a48ac0a70453cdcadd922e840c4290b32e7ec") true
    vmAgain_holds (fun _ h => by cases h) (by kernel_rfl) (fun _ h => by cases h) vmAgain_row_tie rfl ⟨rfl, rfl⟩ (by kernel_rfl) rfl
    (fun f fn hf hfn => by
      obtain rfl : f = 5 := Option.some.inj ((show Tryd.prog.funcNamed "underwood/underwoodlaw08.VmAgain" = some 5 by kernel_rfl).symm.trans hf) |>.symm
      obtain rfl : fn = Tryd.f5 := (Option.some.inj (Tryd.func5.symm.trans hfn)).symm
      exact ⟨by kernel_rfl, fun j t ht => by
        rw [Tryd.params5] at ht
        have hm : t ∈ [44, 5] := by simpa using Array.mem_of_getElem? ht
        have hall : ([44, 5].all fun u => !Tryd.prog.wantsStandIn u) = true := by kernel_rfl
        exact (show Tryd.prog.wantsStandIn t = false by simpa using List.all_eq_true.1 hall t hm)⟩)
    (by kernel_rfl)
end Go.Proofs.YtfcgjadfhojogaaDoor
