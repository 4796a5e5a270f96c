/- The row and the tied card of VmReckons: whatever its three numbers are, the law answers true, and its input reads as it did. No condition but the laid table. -/
import Derived.Test.YtfcgjadfhojogaaDoorVmXa
import Derived.Test.YtfcgjadfhojogaaDoorVmXb
import Derived.Test.YtfcgjadfhojogaaDoorVmXc
import Derived.Test.YtfcgjadfhojogaaDoorVmRow
import Derived.Test.YtfcgjadfhojogaaDoorTie
import Derived.Test.YtfcgjadfhojogaaDoorCards
import Derived.Stop.Joined
import Derived.SevenTiedAt
namespace Go.Proofs.YtfcgjadfhojogaaDoor
open Go.ChangeShapes Go.WideShapes Go.ChangeAt Go.RowKit
set_option linter.unusedVariables false

theorem Vm.reck_call (a b op : Int) (w : World) (ht : Vm.Table w) (ha0 : 0 ≤ a) (ha1 : a < 4294967296) (hb0 : 0 ≤ b) (hbb : b < 4294967296) (ho0 : 0 ≤ op) (ho1 : op < 256) :
    Calls Tryd.prog 6 #[.int .u32 a, .int .u32 b, .int .u8 op] w (Vm.Bool1 true w) := by
  have hk : op.tmod 6 = 0 ∨ op.tmod 6 = 1 ∨ op.tmod 6 = 2 ∨ op.tmod 6 = 3 ∨ op.tmod 6 = 4 ∨ op.tmod 6 = 5 := by
    rw [Int.tmod_eq_emod_of_nonneg ho0]
    omega
  rcases Int.lt_trichotomy a b with h | h | h
  · have d1 : decide (a < b) = true := decide_eq_true h
    have d2 : (a == b) = false := by simp; omega
    rcases hk with hk | hk | hk | hk | hk | hk
    · exact Vm.reck0_lt a b op w ht ha0 ha1 hb0 hbb ho0 ho1 hk d1 d2
    · exact Vm.reck1_lt a b op w ht ha0 ha1 hb0 hbb ho0 ho1 hk d1 d2
    · exact Vm.reck2_lt a b op w ht ha0 ha1 hb0 hbb ho0 ho1 hk d1 d2
    · exact Vm.reck3_lt a b op w ht ha0 ha1 hb0 hbb ho0 ho1 hk d1 d2
    · exact Vm.reck4_lt a b op w ht ha0 ha1 hb0 hbb ho0 ho1 hk d1 d2
    · exact Vm.reck5_lt a b op w ht ha0 ha1 hb0 hbb ho0 ho1 hk d1 d2
  · have d1 : decide (a < b) = false := decide_eq_false (by omega)
    have d2 : (a == b) = true := by simpa using h
    rcases hk with hk | hk | hk | hk | hk | hk
    · exact Vm.reck0_eq a b op w ht ha0 ha1 hb0 hbb ho0 ho1 hk d1 d2
    · exact Vm.reck1_eq a b op w ht ha0 ha1 hb0 hbb ho0 ho1 hk d1 d2
    · exact Vm.reck2_eq a b op w ht ha0 ha1 hb0 hbb ho0 ho1 hk d1 d2
    · exact Vm.reck3_eq a b op w ht ha0 ha1 hb0 hbb ho0 ho1 hk d1 d2
    · exact Vm.reck4_eq a b op w ht ha0 ha1 hb0 hbb ho0 ho1 hk d1 d2
    · exact Vm.reck5_eq a b op w ht ha0 ha1 hb0 hbb ho0 ho1 hk d1 d2
  · have d1 : decide (a < b) = false := decide_eq_false (by omega)
    have d2 : (a == b) = false := by simp; omega
    rcases hk with hk | hk | hk | hk | hk | hk
    · exact Vm.reck0_gt a b op w ht ha0 ha1 hb0 hbb ho0 ho1 hk d1 d2
    · exact Vm.reck1_gt a b op w ht ha0 ha1 hb0 hbb ho0 ho1 hk d1 d2
    · exact Vm.reck2_gt a b op w ht ha0 ha1 hb0 hbb ho0 ho1 hk d1 d2
    · exact Vm.reck3_gt a b op w ht ha0 ha1 hb0 hbb ho0 ho1 hk d1 d2
    · exact Vm.reck4_gt a b op w ht ha0 ha1 hb0 hbb ho0 ho1 hk d1 d2
    · exact Vm.reck5_gt a b op w ht ha0 ha1 hb0 hbb ho0 ho1 hk d1 d2

set_option maxRecDepth 100000 in
theorem Vm.reck_lifted (os : Os) (started : os.Started) (H : Type) (enc : TypeId × Value → H) :
    ReturnsInHanded {} Tryd.checked os 6 .any (fun w args => (Rows.vmReckonsSpec.pre enc Tryd.prog Tryd.f6 [] false w args ∧ laidMetH Tryd.prog [("underwood/vm.all", Rows.laid_underwood_vm_all)] w) ∧ sizedMet enc Tryd.prog Tryd.f6 (OpenSpec.ofChange Rows.vmReckonsSpec) false w args)
      (Rows.vmReckonsSpec.post enc Tryd.prog Tryd.f6 false true false false) := by
  refine returnsInHanded_of_change_and (C := Tryd.checked) (X := fun w _ => laidMetH Tryd.prog [("underwood/vm.all", Rows.laid_underwood_vm_all)] w) (fun _ _ _ hh h => h.of_heap hh) Tryd.own started (by kernel_rfl) Tryd.func6
    (ChangeSpec.witness_shaped (enc := enc) (C := Tryd.checked) (os := os) (X := fun w _ => laidMetH Tryd.prog [("underwood/vm.all", Rows.laid_underwood_vm_all)] w) false (World.doorLaid Tryd.prog 600 os) #[.int .u32 0, .int .u32 0, .int .u8 0] 8 rfl (World.shaped_of_RefB (by kernel_rfl) (by kernel_rfl)) (by kernel_rfl) (by kernel_rfl) (by kernel_rfl) (Vm.door_met os _)) ?_
  intro W base args ds gs before hval0 hW _ _ hL _
  have hval : ∀ (j : Nat) t v, Tryd.f6.params[j]? = some t → args[j]? = some v → Value.okWide Tryd.prog W .any base t v := hval0
  have hW' := hW
  obtain ⟨p, q, hA0, hV, rfl, hfz, hnd⟩ := hW
  have hA : DataW.TrodAll enc Tryd.prog W 0 (fun _ => true) true Tryd.f6.params.toList args.toList ds p := hA0
  rw [Tryd.params6] at hA hval
  obtain ⟨v0, v1, v2, d0, d1, d2, p0, p1, p2, rfl, rfl, rfl, h0, h1, h2⟩ := trodAll_three hA
  obtain ⟨rfl, rfl⟩ := trodVars_none hV
  obtain ⟨a, rfl, rfl, rfl, wa⟩ := open_int Tryd.underlying44 (hval 0 44 v0 rfl rfl) h0
  obtain ⟨b, rfl, rfl, rfl, wb⟩ := open_int Tryd.underlying44 (hval 1 44 v1 rfl rfl) h1
  obtain ⟨c, rfl, rfl, rfl, wc⟩ := open_int Tryd.underlying5 (hval 2 5 v2 rfl rfl) h2
  clear hA0 hval0
  simp only [List.append_nil] at hW'
  have ba : 0 ≤ a ∧ a ≤ 4294967295 := by simpa [Lit.wf, IntKind.min, IntKind.max, IntKind.signed, IntKind.bits] using wa
  have bb : 0 ≤ b ∧ b ≤ 4294967295 := by simpa [Lit.wf, IntKind.min, IntKind.max, IntKind.signed, IntKind.bits] using wb
  have bc : 0 ≤ c ∧ c ≤ 255 := by simpa [Lit.wf, IntKind.min, IntKind.max, IntKind.signed, IntKind.bits] using wc
  refine (Vm.reck_call a b c W (Vm.of_laid hL) ba.1 (by omega) bb.1 (by omega) bc.1 (by omega)).mono fun e W' ⟨he, hw⟩ => ?_
  subst he
  exact ⟨_, rfl, _, _, _, [], _, [], hW', trodAll_mk1 (shut_bool Tryd.underlying4 _), trodAll_mk3 (shut_int Tryd.underlying44 wa) (shut_int Tryd.underlying44 wb) (shut_int Tryd.underlying5 wc), rfl, hw.frame _, fun h => by cases h⟩

theorem vmReckons_holds : Rows.VmReckonsSaid :=
  OpenClaim.holds_of_wide 6 Tryd.f6 rfl rfl rfl rfl rfl rfl rfl ⟨rfl, rfl, rfl, rfl, rfl⟩ rfl rfl rfl rfl rfl (by kernel_rfl) Tryd.func6 (by kernel_rfl)
    (of_decide_eq_true (by kernel_rfl)) (by unfold Func.isWrapper; first | (rw [if_pos (by decide +kernel)]; kernel_rfl) | (rw [if_neg (by decide +kernel)]; exact ⟨rfl, rfl⟩))
    (fun os started H enc _ => Vm.reck_lifted os started H enc)

theorem vmReckons_card : Rows.VmReckonsCardSaid :=
  Claim7.holds_tied_plain_at .later [] [.funcs] true (true, "c052a3dc6d1c2bd47fc17ba8612a48ac0a70453cdcadd922e840c4290b32e7ec") true
    vmReckons_holds (fun _ h => by cases h) (by kernel_rfl) (fun _ h => by cases h) vmReckons_row_tie rfl ⟨rfl, rfl⟩ (by kernel_rfl) rfl
    (fun f fn hf hfn => by
      obtain rfl : f = 6 := Option.some.inj ((show Tryd.prog.funcNamed "underwood/underwoodlaw08.VmReckons" = some 6 by kernel_rfl).symm.trans hf) |>.symm
      obtain rfl : fn = Tryd.f6 := (Option.some.inj (Tryd.func6.symm.trans hfn)).symm
      exact ⟨by kernel_rfl, fun j t ht => by
        rw [Tryd.params6] at ht
        have hm : t ∈ [44, 5] := by simpa using Array.mem_of_getElem? ht
        have hall : ([44, 5].all fun u => !Tryd.prog.wantsStandIn u) = true := by kernel_rfl
        exact (show Tryd.prog.wantsStandIn t = false by simpa using List.all_eq_true.1 hall t hm)⟩)
    (by kernel_rfl)
end Go.Proofs.YtfcgjadfhojogaaDoor
