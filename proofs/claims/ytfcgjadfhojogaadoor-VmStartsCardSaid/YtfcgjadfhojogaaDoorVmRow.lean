/- What the laid condition gives the walks: the table of instructions. -/
import Derived.Test.YtfcgjadfhojogaaDoorVmN
import Derived.Test.YtfcgjadfhojogaaDoorRows
import Derived.ProofKit
import Derived.LaidMore
import Derived.OpenShut
import Derived.SevenTiedAt
import Derived.Stop.Joined
import Derived.Test.YtfcgjadfhojogaaDoorCards
import Derived.Test.YtfcgjadfhojogaaDoorTie
namespace Go.Proofs.YtfcgjadfhojogaaDoor
open Go.ChangeShapes Go.WideShapes Go.ChangeAt Go.RowKit
set_option linter.unusedVariables false
theorem Vm.gAll : Tryd.prog.globalNamed "underwood/vm.all" = some 0 := by kernel_rfl
theorem Vm.tAll : (Tryd.prog.globals[0]?).map (·.type) = some 90 := by kernel_rfl
theorem Vm.cIns : Tryd.prog.cellsOf 89 = 1 := by kernel_rfl
theorem Vm.cFn : Tryd.prog.cellsOf 87 = 1 := by kernel_rfl
theorem Vm.cAll : Tryd.prog.cellsOf 90 = 20 := by kernel_rfl

theorem Vm.row_func {W : World} {m : Nat} {v : Value} {y : DataW (List UInt8) × List MemPlace} {b : UInt8} {r : List UInt8} {f0 : FuncId}
    (h : DataW.trod (funcToken Tryd.prog) Tryd.prog W 0 (fun _ => true) true m 89 [v] = some y) (hy : y.1 = .agg [.held (b :: r)])
    (hone : ((List.range Tryd.prog.funcs.size).filter fun f => (Tryd.prog.funcs[f]?).any (·.name.toUTF8.data.toList == b :: r)) = [f0]) : v = .func (.func f0) #[] #[] := by
  obtain ⟨xs, n, rfl, rfl, _, hl, hel⟩ := DataW.trod_struct Tryd.underlying89 h
  have h0 : DataW.trod (funcToken Tryd.prog) Tryd.prog W 0 (fun _ => true) true n 87 (([v].drop 0).take (Tryd.prog.cellsOf 87)) = xs[0]? := hel 0 _ rfl
  rw [Vm.cFn] at h0
  obtain ⟨x, rfl⟩ : ∃ x, xs = [x] := by
    match xs, hl with
    | [x], _ => exact ⟨x, rfl⟩
  have hx : x.1 = .held (b :: r) := by simpa using hy
  have h1 : DataW.trod (funcToken Tryd.prog) Tryd.prog W 0 (fun _ => true) true n 87 [v] = some (.held (b :: r), x.2) := by
    rw [← hx]
    simpa using h0
  exact func_of_trod Tryd.underlying87 hone h1

theorem Vm.of_laid {W : World} (h : laidMetH Tryd.prog [("underwood/vm.all", Rows.laid_underwood_vm_all)] W) : Vm.Table W := by
  obtain ⟨g, t, cs, fuel, p, hg, ht, hv, hd⟩ := h.funcs (List.mem_singleton.2 rfl)
  obtain rfl := Option.some.inj (Vm.gAll.symm.trans hg)
  obtain rfl := Option.some.inj (Vm.tAll.symm.trans ht)
  obtain ⟨xs, m, rfl, hx, hl, hn, hel⟩ := DataW.trod_array Tryd.underlying90 hd
  rw [Vm.cAll] at hl
  rw [Vm.cIns] at hel
  simp only [Prod.mk.injEq] at hx
  have hx1 : xs.map (·.1) = [.agg [.nil], .agg [.held [117, 110, 100, 101, 114, 119, 111, 111, 100, 47, 118, 109, 46, 97, 108, 108, 36, 49]], .agg [.held [117, 110, 100, 101, 114, 119, 111, 111, 100, 47, 118, 109, 46, 97, 108, 108, 36, 50]], .agg [.held [117, 110, 100, 101, 114, 119, 111, 111, 100, 47, 118, 109, 46, 97, 108, 108, 36, 51]], .agg [.held [117, 110, 100, 101, 114, 119, 111, 111, 100, 47, 118, 109, 46, 97, 108, 108, 36, 52]], .agg [.held [117, 110, 100, 101, 114, 119, 111, 111, 100, 47, 118, 109, 46, 97, 108, 108, 36, 53]], .agg [.held [117, 110, 100, 101, 114, 119, 111, 111, 100, 47, 118, 109, 46, 97, 108, 108, 36, 54]], .agg [.held [117, 110, 100, 101, 114, 119, 111, 111, 100, 47, 118, 109, 46, 97, 108, 108, 36, 55]], .agg [.held [117, 110, 100, 101, 114, 119, 111, 111, 100, 47, 118, 109, 46, 97, 108, 108, 36, 56]], .agg [.held [117, 110, 100, 101, 114, 119, 111, 111, 100, 47, 118, 109, 46, 97, 108, 108, 36, 57]], .agg [.held [117, 110, 100, 101, 114, 119, 111, 111, 100, 47, 118, 109, 46, 97, 108, 108, 36, 49, 48]], .agg [.held [40, 42, 117, 110, 100, 101, 114, 119, 111, 111, 100, 47, 118, 109, 46, 114, 117, 110, 41, 46, 99, 97, 108, 108]], .agg [.held [117, 110, 100, 101, 114, 119, 111, 111, 100, 47, 118, 109, 46, 97, 108, 108, 36, 49, 49]], .agg [.held [40, 42, 117, 110, 100, 101, 114, 119, 111, 111, 100, 47, 118, 109, 46, 114, 117, 110, 41, 46, 115, 112, 97, 119, 110]], .agg [.held [117, 110, 100, 101, 114, 119, 111, 111, 100, 47, 118, 109, 46, 97, 108, 108, 36, 49, 50]], .agg [.held [117, 110, 100, 101, 114, 119, 111, 111, 100, 47, 118, 109, 46, 97, 108, 108, 36, 49, 51]], .agg [.held [117, 110, 100, 101, 114, 119, 111, 111, 100, 47, 118, 109, 46, 97, 108, 108, 36, 49, 52]], .agg [.held [117, 110, 100, 101, 114, 119, 111, 111, 100, 47, 118, 109, 46, 97, 108, 108, 36, 49, 53]], .agg [.held [117, 110, 100, 101, 114, 119, 111, 111, 100, 47, 118, 109, 46, 97, 108, 108, 36, 49, 54]], .agg [.held [117, 110, 100, 101, 114, 119, 111, 111, 100, 47, 118, 109, 46, 97, 108, 108, 36, 49, 55]]] := (DataW.agg.inj (hx.1.symm.trans (by kernel_rfl)))
  have hat : ∀ i, i < 20 → ∀ b r f0, (xs.map (·.1))[i]? = some (.agg [.held (b :: r)]) → ((List.range Tryd.prog.funcs.size).filter fun f => (Tryd.prog.funcs[f]?).any (·.name.toUTF8.data.toList == b :: r)) = [f0] →
      W.cell? ⟨0, i, none⟩ = some (.func (.func f0) #[] #[]) := by
    intro i hi b r f0 hb hone
    have he := hel i hi
    rw [Nat.mul_one] at he
    obtain ⟨y, hy, hy1⟩ : ∃ y, xs[i]? = some y ∧ y.1 = .agg [.held (b :: r)] := by
      rw [List.getElem?_map] at hb
      cases hq : xs[i]? with
      | none => rw [hq] at hb; cases hb
      | some y => rw [hq] at hb; exact ⟨y, rfl, by simpa using hb⟩
    rw [hy] at he
    obtain ⟨v, hv1⟩ : ∃ v, cs.toList[i]? = some v := ⟨_, List.getElem?_eq_getElem (by omega)⟩
    have hcut : (cs.toList.drop i).take 1 = [v] := by
      obtain ⟨hlt, rfl⟩ := List.getElem?_eq_some_iff.1 hv1
      rw [List.drop_eq_getElem_cons hlt]
      rfl
    rw [hcut] at he
    have := Vm.row_func he hy1 hone
    subst this
    have hw := World.var?_cell Vm.gAll hv i
    rw [hw]
    simpa using hv1
  rw [hx1] at hat
  intro k hk
  match k, hk with
  | 0, _ => exact hat 1 (by decide) _ _ _ rfl (by kernel_rfl)
  | 1, _ => exact hat 2 (by decide) _ _ _ rfl (by kernel_rfl)
  | 2, _ => exact hat 3 (by decide) _ _ _ rfl (by kernel_rfl)
  | 3, _ => exact hat 4 (by decide) _ _ _ rfl (by kernel_rfl)
  | 4, _ => exact hat 5 (by decide) _ _ _ rfl (by kernel_rfl)
  | 5, _ => exact hat 6 (by decide) _ _ _ rfl (by kernel_rfl)
  | 6, _ => exact hat 7 (by decide) _ _ _ rfl (by kernel_rfl)
  | 7, _ => exact hat 8 (by decide) _ _ _ rfl (by kernel_rfl)
  | 8, _ => exact hat 9 (by decide) _ _ _ rfl (by kernel_rfl)
  | 9, _ => exact hat 10 (by decide) _ _ _ rfl (by kernel_rfl)
  | 10, _ => exact hat 11 (by decide) _ _ _ rfl (by kernel_rfl)
  | 11, _ => exact hat 12 (by decide) _ _ _ rfl (by kernel_rfl)
  | 12, _ => exact hat 13 (by decide) _ _ _ rfl (by kernel_rfl)
  | 13, _ => exact hat 14 (by decide) _ _ _ rfl (by kernel_rfl)
  | 14, _ => exact hat 15 (by decide) _ _ _ rfl (by kernel_rfl)
  | 15, _ => exact hat 16 (by decide) _ _ _ rfl (by kernel_rfl)
  | 16, _ => exact hat 17 (by decide) _ _ _ rfl (by kernel_rfl)
  | 17, _ => exact hat 18 (by decide) _ _ _ rfl (by kernel_rfl)
  | 18, _ => exact hat 19 (by decide) _ _ _ rfl (by kernel_rfl)
  | k + 19, h => exact absurd h (by omega)
theorem Tryd.own : ownKnob Tryd.prog.godebug = none := by kernel_rfl
theorem Vm.door_met (os : Os) (args : Array Value) : laidMetH Tryd.prog [("underwood/vm.all", Rows.laid_underwood_vm_all)] ((World.doorLaid Tryd.prog 600 os).forCall (fun _ _ => 0) ⟨#[], args, []⟩).memory :=
  laidMetH_of_parts3 (fuel := 8) (laidMet_of_run' 8 (by kernel_rfl) (by kernel_rfl)) (by kernel_rfl) (by kernel_rfl)

end Go.Proofs.YtfcgjadfhojogaaDoor
