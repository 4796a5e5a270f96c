/- The row and the tied card of VmStarts: whatever its input is, the law answers true, and its input reads as it did. No condition but the laid table. -/
import Derived.Test.YtfcgjadfhojogaaDoorVmSw
import Derived.Test.YtfcgjadfhojogaaDoorVmRow
import Derived.Test.YtfcgjadfhojogaaDoorVmOp
import Derived.Test.YtfcgjadfhojogaaDoorTie
import Derived.Test.YtfcgjadfhojogaaDoorCards
import Derived.Stop.Joined
import Derived.SevenTiedAt
namespace Go.Proofs.YtfcgjadfhojogaaDoor
open Go.ChangeShapes Go.WideShapes Go.ChangeAt Go.RowKit
set_option linter.unusedVariables false

theorem Vm.i64r_of {n : Int} (h : Vm.i64ok n) : Vm.i64r n := by
  have : (Lit.int .i64 n).wf = true := h
  simp [Lit.wf, IntKind.min, IntKind.max, IntKind.signed, IntKind.bits] at this
  exact ⟨by omega, by omega⟩
theorem Vm.cS (t : TypeId) (h : Tryd.prog.cellsOf t = 1) : Tryd.prog.cellsOf t = 1 := h
theorem Vm.cut_two {cs : List Value} {i : Nat} {u v : Value} (h : (cs.drop i).take 2 = [u, v]) : cs[i]? = some u ∧ cs[i + 1]? = some v := by
  have h0 : (cs.drop i)[0]? = some u := by
    have := congrArg (fun l => l[0]?) h
    simpa [List.getElem?_take] using this
  have h1 : (cs.drop i)[1]? = some v := by
    have := congrArg (fun l => l[1]?) h
    simpa [List.getElem?_take] using this
  rw [List.getElem?_drop] at h0 h1
  exact ⟨by simpa using h0, h1⟩
theorem Vm.list_eleven {cs : List Value} {a0 a1 a2 a3 a4 a5 a6 a7 a8 a9 a10 : Value} (hl : cs.length = 11) (h0 : cs[0]? = some a0) (h1 : cs[1]? = some a1) (h2 : cs[2]? = some a2) (h3 : cs[3]? = some a3) (h4 : cs[4]? = some a4) (h5 : cs[5]? = some a5) (h6 : cs[6]? = some a6) (h7 : cs[7]? = some a7) (h8 : cs[8]? = some a8) (h9 : cs[9]? = some a9) (h10 : cs[10]? = some a10) :
    cs = [a0, a1, a2, a3, a4, a5, a6, a7, a8, a9, a10] := by
  match cs, hl with
  | [x0, x1, x2, x3, x4, x5, x6, x7, x8, x9, x10], _ =>
    simp at h0 h1 h2 h3 h4 h5 h6 h7 h8 h9 h10
    subst h0 h1 h2 h3 h4 h5 h6 h7 h8 h9 h10
    rfl
theorem Vm.list_six {cs : List Value} {a0 a1 a2 a3 a4 a5 : Value} (hl : cs.length = 6) (h0 : cs[0]? = some a0) (h1 : cs[1]? = some a1) (h2 : cs[2]? = some a2) (h3 : cs[3]? = some a3) (h4 : cs[4]? = some a4) (h5 : cs[5]? = some a5) : cs = [a0, a1, a2, a3, a4, a5] := by
  match cs, hl with
  | [x0, x1, x2, x3, x4, x5], _ =>
    simp at h0 h1 h2 h3 h4 h5
    subst h0 h1 h2 h3 h4 h5
    rfl
/-- A code, read. -/
theorem Vm.opens_code {H : Type} (enc : TypeId × Value → H) (W : World) (base : Nat) (sp : Nat → Bool) (held : Bool) (fuel : Nat) (cs : List Value) (x : DataW H × List MemPlace) (h : DataW.trod enc Tryd.prog W base sp held fuel 25 cs = some x) :
    ∃ (C : Vm.Cd) (Af : Option Addr) (cf : Nat) (Ac : Option Addr) (cc : Nat), cs = [.slice Af C.funs.length cf, .slice Ac C.cells.length cc, .int .i64 C.maps, .int .i64 C.stacks, .int .i64 C.chans, .int .i64 C.main] ∧ C.funs.length ≤ cf ∧ PVmStarts.k65.C W Af C.funs.length C.funs ∧ C.cells.length ≤ cc ∧ (YtfcgjadfhojogaaDoorW.PrintWords.Kd.int .i64).C W Ac C.cells.length C.cells := by
  obtain ⟨xs, n, _, _, hl, hx, hf⟩ := DataW.trod_struct Tryd.underlying25 h
  rw [show Tryd.prog.cellsOf 25 = 6 by kernel_rfl] at hl
  obtain ⟨a0, h0, w0⟩ := Vm.field_of Vm.opens_bodies hf hx (i := 0) _ rfl rfl
  obtain ⟨a1, h1, w1⟩ := Vm.field_of Vm.opens_ints hf hx (i := 1) _ rfl rfl
  obtain ⟨a2, h2, w2⟩ := Vm.field_of Vm.opens_i64 hf hx (i := 2) _ rfl rfl
  obtain ⟨a3, h3, w3⟩ := Vm.field_of Vm.opens_i64 hf hx (i := 3) _ rfl rfl
  obtain ⟨a4, h4, w4⟩ := Vm.field_of Vm.opens_i64 hf hx (i := 4) _ rfl rfl
  obtain ⟨a5, h5, w5⟩ := Vm.field_of Vm.opens_i64 hf hx (i := 5) _ rfl rfl
  rw [Vm.cI] at h2 h3 h4 h5
  rw [show Tryd.prog.cellsOf 22 = 1 by kernel_rfl] at h0
  rw [show Tryd.prog.cellsOf 23 = 1 by kernel_rfl] at h1
  obtain ⟨A0, c0, hA0, hc0, hC0⟩ := h0
  obtain ⟨A1, c1, hA1, hc1, hC1⟩ := h1
  exact ⟨⟨a0, a1, a2, a3, a4, a5⟩, A0, c0, A1, c1, Vm.list_six hl (Vm.cut_one hA0) (Vm.cut_one hA1) (Vm.cut_one h2) (Vm.cut_one h3) (Vm.cut_one h4) (Vm.cut_one h5), hc0, hC0, hc1, hC1⟩
theorem Vm.get_of_cut {cs l : List Value} {i n j : Nat} {v : Value} (h : (cs.drop i).take n = l) (hj : l[j]? = some v) : cs[i + j]? = some v := by
  subst h
  have hlt : j < n := by
    have := (List.getElem?_eq_some_iff.1 hj).1
    simp at this
    omega
  rw [List.getElem?_take, if_pos hlt, List.getElem?_drop] at hj
  exact hj
theorem Vm.opens_pair {H : Type} (enc : TypeId × Value → H) (W : World) (base : Nat) (sp : Nat → Bool) (held : Bool) (fuel : Nat) (cs : List Value) (x : DataW H × List MemPlace) (h : DataW.trod enc Tryd.prog W base sp held fuel 26 cs = some x) :
    ∃ z0 z1 : Int, cs = [.int .i64 z0, .int .i64 z1] ∧ Vm.i64ok z0 ∧ Vm.i64ok z1 := by
  obtain ⟨xs, n, _, _, hl, hx, hf⟩ := DataW.trod_array Tryd.underlying26 h
  rw [show Tryd.prog.cellsOf 26 = 2 by kernel_rfl] at hl
  have hf' : ∀ c, Tryd.prog.cellsOf 3 = c → ∀ i, i < 2 → DataW.trod enc Tryd.prog W base sp held n 3 ((cs.drop (i * c)).take c) = xs[i]? := by
    intro c e
    subst e
    exact hf
  have hf1 := hf' 1 Vm.cI
  have g0 := hf1 0 (by decide)
  have g1 := hf1 1 (by decide)
  obtain ⟨a0, h0, w0⟩ := Vm.opens_i64 enc W base sp held n _ _ (g0.trans (List.getElem?_eq_getElem (by omega)))
  obtain ⟨a1, h1, w1⟩ := Vm.opens_i64 enc W base sp held n _ _ (g1.trans (List.getElem?_eq_getElem (by omega)))
  have q0 : cs[0]? = some (.int .i64 a0) := Vm.cut_one h0
  have q1 : cs[1]? = some (.int .i64 a1) := Vm.cut_one h1
  exact ⟨a0, a1, Vm.list_two hl q0 q1, w0, w1⟩
theorem Vm.opens_with {H : Type} (enc : TypeId × Value → H) (W : World) (base : Nat) (sp : Nat → Bool) (held : Bool) (fuel : Nat) (cs : List Value) (x : DataW H × List MemPlace) (h : DataW.trod enc Tryd.prog W base sp held fuel 28 cs = some x) :
    ∃ (C : Vm.Cd) (fn z0 z1 : Int) (args path : List Int) (Af : Option Addr) (cf : Nat) (Ac : Option Addr) (cc : Nat) (Aa : Option Addr) (ca : Nat) (Ap : Option Addr) (cp : Nat),
      cs = [.slice Af C.funs.length cf, .slice Ac C.cells.length cc, .int .i64 C.maps, .int .i64 C.stacks, .int .i64 C.chans, .int .i64 C.main, .int .i64 fn, .slice Aa args.length ca, .int .i64 z0, .int .i64 z1, .slice Ap path.length cp] ∧
      C.funs.length ≤ cf ∧ PVmStarts.k65.C W Af C.funs.length C.funs ∧ C.cells.length ≤ cc ∧ (YtfcgjadfhojogaaDoorW.PrintWords.Kd.int .i64).C W Ac C.cells.length C.cells ∧ args.length ≤ ca ∧ (YtfcgjadfhojogaaDoorW.PrintWords.Kd.int .i64).C W Aa args.length args ∧ path.length ≤ cp ∧ (YtfcgjadfhojogaaDoorW.PrintWords.Kd.int .i64).C W Ap path.length path ∧ Vm.i64ok z0 ∧ Vm.i64ok z1 := by
  obtain ⟨xs, n, _, _, hl, hx, hf⟩ := DataW.trod_struct Tryd.underlying28 h
  rw [show Tryd.prog.cellsOf 28 = 11 by kernel_rfl] at hl
  have g0 := hf 0 _ rfl
  have g3 := hf 3 _ rfl
  obtain ⟨C, Af, cf, Ac, cc, e0, l1, r1, l2, r2⟩ := Vm.opens_code enc W base sp held n _ _ (g0.trans (List.getElem?_eq_getElem (by rw [hx]; decide)))
  obtain ⟨z0, z1, e3, w0, w1⟩ := Vm.opens_pair enc W base sp held n _ _ (g3.trans (List.getElem?_eq_getElem (by rw [hx]; decide)))
  obtain ⟨fn, h1, _⟩ := Vm.field_of Vm.opens_i64 hf hx (i := 1) _ rfl rfl
  obtain ⟨args, h2, _⟩ := Vm.field_of Vm.opens_ints hf hx (i := 2) _ rfl rfl
  obtain ⟨path, h4, _⟩ := Vm.field_of Vm.opens_ints hf hx (i := 4) _ rfl rfl
  rw [Vm.cI] at h1
  rw [show Tryd.prog.cellsOf 23 = 1 by kernel_rfl] at h2 h4
  obtain ⟨Aa, ca, hA, hca, hCa⟩ := h2
  obtain ⟨Ap, cp, hP, hcp, hCp⟩ := h4
  exact ⟨C, fn, z0, z1, args, path, Af, cf, Ac, cc, Aa, ca, Ap, cp, Vm.list_eleven hl (Vm.get_of_cut e0 (j := 0) rfl) (Vm.get_of_cut e0 (j := 1) rfl) (Vm.get_of_cut e0 (j := 2) rfl) (Vm.get_of_cut e0 (j := 3) rfl) (Vm.get_of_cut e0 (j := 4) rfl) (Vm.get_of_cut e0 (j := 5) rfl) (Vm.cut_one h1) (Vm.cut_one hA) (Vm.get_of_cut e3 (j := 0) rfl) (Vm.get_of_cut e3 (j := 1) rfl) (Vm.cut_one hP), l1, r1, l2, r2, hca, hCa, hcp, hCp, w0, w1⟩
theorem Vm.starts_call (C : Vm.Cd) (Af : Option Addr) (cf : Nat) (Ac : Option Addr) (cc : Nat) (fn : Int) (Aa : Option Addr) (ca : Nat) (args : List Int) (z0 z1 : Int) (Ap : Option Addr) (cp : Nat) (path : List Int) (w : World) (ht : Vm.Table w)
    (hC : Vm.CdAt w C (.agg #[.slice Af C.funs.length cf, .slice Ac C.cells.length cc, .int .i64 C.maps, .int .i64 C.stacks, .int .i64 C.chans, .int .i64 C.main])) (ha : (YtfcgjadfhojogaaDoorW.PrintWords.Kd.int .i64).C w Aa args.length args) (hca : args.length ≤ ca) (hp : (YtfcgjadfhojogaaDoorW.PrintWords.Kd.int .i64).C w Ap path.length path) (hcp : path.length ≤ cp) (hz : Vm.i64r z0 ∧ Vm.i64r z1) :
    Calls Tryd.prog 3 #[.agg #[.slice Af C.funs.length cf, .slice Ac C.cells.length cc, .int .i64 C.maps, .int .i64 C.stacks, .int .i64 C.chans, .int .i64 C.main, .int .i64 fn, .slice Aa args.length ca, .int .i64 z0, .int .i64 z1, .slice Ap path.length cp]] w (Vm.Bool1 true w) := by
  cases hs : Vm.smallB C Vm.frame0
  · exact Vm.starts_small C Af cf Ac cc fn Aa ca args z0 z1 Ap cp path w ht hC ha hca hp hcp hz hs
  · by_cases h1 : 30 < args.length
    · exact Vm.starts_args C Af cf Ac cc fn Aa ca args z0 z1 Ap cp path w ht hC ha hca hp hcp hz hs h1
    · by_cases h2 : 30 < path.length
      · exact Vm.starts_path C Af cf Ac cc fn Aa ca args z0 z1 Ap cp path w ht hC ha hca hp hcp hz hs h1 h2
      · exact Vm.starts_go C Af cf Ac cc fn Aa ca args z0 z1 Ap cp path w ht hC ha hca hp hcp hz hs h1 h2

set_option maxRecDepth 100000 in
theorem Vm.vmStarts_lifted (os : Os) (started : os.Started) (H : Type) (enc : TypeId × Value → H) :
    ReturnsInHanded {} Tryd.checked os 3 .any (fun w args => (Rows.vmStartsSpec.pre enc Tryd.prog Tryd.f3 [] false w args ∧ laidMetH Tryd.prog [("underwood/vm.all", Rows.laid_underwood_vm_all)] w) ∧ sizedMet enc Tryd.prog Tryd.f3 (OpenSpec.ofChange Rows.vmStartsSpec) false w args)
      (Rows.vmStartsSpec.post enc Tryd.prog Tryd.f3 false true false false) := by
  refine returnsInHanded_of_change_and (C := Tryd.checked) (X := fun w _ => laidMetH Tryd.prog [("underwood/vm.all", Rows.laid_underwood_vm_all)] w) (fun _ _ _ hh h => h.of_heap hh) Tryd.own started (by kernel_rfl) Tryd.func3
    (ChangeSpec.witness_shaped (enc := enc) (C := Tryd.checked) (os := os) (X := fun w _ => laidMetH Tryd.prog [("underwood/vm.all", Rows.laid_underwood_vm_all)] w) false (World.doorLaid Tryd.prog 600 os) #[.agg #[.slice none 0 0, .slice none 0 0, .int .i64 0, .int .i64 0, .int .i64 0, .int .i64 0, .int .i64 0, .slice none 0 0, .int .i64 0, .int .i64 0, .slice none 0 0]] 8 rfl (World.shaped_of_RefB (by kernel_rfl) (by kernel_rfl)) (by kernel_rfl) (by kernel_rfl) (by kernel_rfl) (Vm.door_met os _)) ?_
  intro W base args ds gs before hval0 hW _ hsz0 hL _
  have hval : ∀ (j : Nat) t v, Tryd.f3.params[j]? = some t → args[j]? = some v → Value.okWide Tryd.prog W .any base t v := hval0
  have hW' := hW
  obtain ⟨p, q, hA0, hV, rfl, hfz, hnd⟩ := hW
  have hA : DataW.TrodAll enc Tryd.prog W 0 (fun _ => true) true Tryd.f3.params.toList args.toList ds p := hA0
  rw [Tryd.params3] at hA hval
  obtain ⟨v0, vs0, d0, ds0, p0, q0, hargs, rfl, rfl, h0, r0⟩ := trodAll_cons hA
  obtain ⟨rfl, rfl, rfl⟩ := trodAll_nil r0
  obtain rfl : args = #[v0] := by cases args; simp_all
  obtain ⟨rfl, rfl⟩ := trodVars_none hV
  have k0 := h0
  have lt0 : ∀ x ∈ p0, x.block < W.heap.size := by obtain ⟨m, hm⟩ := k0; exact DataW.trod_lt m _ _ _ hm
  obtain ⟨cs0, rfl, hcz0⟩ := okWide_struct Tryd.underlying28 (hval 0 28 v0 rfl rfl)
  obtain ⟨fuel0, hf0⟩ := h0
  obtain ⟨C, fn, z0, z1, args, path, Af, cf, Ac, cc, Aa, ca, Ap, cp, hcs, l1, r1, l2, r2, l3, r3, l4, r4, e0, e1⟩ := Vm.opens_with enc W 0 (fun _ => true) true fuel0 _ _ hf0
  obtain rfl : cs0 = #[.slice Af C.funs.length cf, .slice Ac C.cells.length cc, .int .i64 C.maps, .int .i64 C.stacks, .int .i64 C.chans, .int .i64 C.main, .int .i64 fn, .slice Aa args.length ca, .int .i64 z0, .int .i64 z1, .slice Ap path.length cp] := by
    rw [← Array.toList_inj]
    exact hcs
  clear hf0 hcz0 hcs
  clear hA0 hval0 hsz0
  refine (Vm.starts_call C Af cf Ac cc fn Aa ca args z0 z1 Ap cp path W (Vm.of_laid hL) ⟨Af, cf, Ac, cc, rfl, l1, r1, l2, r2⟩ r3 l3 r4 l4 ⟨Vm.i64r_of e0, Vm.i64r_of e1⟩).mono fun e W' ⟨he, bel⟩ => ?_
  subst he
  exact ⟨_, rfl, _, _, _, [], _, [], hW', trodAll_mk1 (shut_bool Tryd.underlying4 _), (trodAll_cons_mk (Below.trod Vm.laidOut (by kernel_rfl) (of_decide_eq_true (by kernel_rfl)) k0 bel lt0) trodAll_mk0), rfl, bel.frame _, fun h => by cases h⟩

theorem vmStarts_holds : Rows.VmStartsSaid :=
  OpenClaim.holds_of_wide 3 Tryd.f3 rfl rfl rfl rfl rfl rfl rfl ⟨rfl, rfl, rfl, rfl, rfl⟩ rfl rfl rfl rfl rfl (by kernel_rfl) Tryd.func3 (by kernel_rfl)
    (of_decide_eq_true (by kernel_rfl)) (by unfold Func.isWrapper; first | (rw [if_pos (by decide +kernel)]; kernel_rfl) | (rw [if_neg (by decide +kernel)]; exact ⟨rfl, rfl⟩))
    (fun os started H enc _ => Vm.vmStarts_lifted os started H enc)

theorem vmStarts_card : Rows.VmStartsCardSaid :=
  Claim7.holds_tied_plain_at .later [] [.funcs] true (true, "c052a3dc6d1c2bd47fc17ba8612a48ac0a70453cdcadd922e840c4290b32e7ec") true
    vmStarts_holds (fun _ h => by cases h) (by kernel_rfl) (fun _ h => by cases h) vmStarts_row_tie rfl ⟨rfl, rfl⟩ (by kernel_rfl) rfl
    (fun f fn hf hfn => by
      obtain rfl : f = 3 := Option.some.inj ((show Tryd.prog.funcNamed "underwood/underwoodlaw08.VmStarts" = some 3 by kernel_rfl).symm.trans hf) |>.symm
      obtain rfl : fn = Tryd.f3 := (Option.some.inj (Tryd.func3.symm.trans hfn)).symm
      exact ⟨by kernel_rfl, fun j t ht => by
        rw [Tryd.params3] at ht
        have hm : t ∈ [28] := by simpa using Array.mem_of_getElem? ht
        have hall : ([28].all fun u => !Tryd.prog.wantsStandIn u) = true := by kernel_rfl
        exact (show Tryd.prog.wantsStandIn t = false by simpa using List.all_eq_true.1 hall t hm)⟩)
    (by kernel_rfl)
end Go.Proofs.YtfcgjadfhojogaaDoor
