/- The deferred closure of vm.Next: it catches what falls. -/
import Derived.Test.YtfcgjadfhojogaaDoorVmN
import Derived.Defers
import Derived.Recover
namespace Go.Proofs.YtfcgjadfhojogaaDoor.Vm
open Go.RowKit Go.Proofs.YtfcgjadfhojogaaDoorW.PrintWords Go.Proofs.YtfcgjadfhojogaaDoorW.PrintLast Go.Proofs.YtfcgjadfhojogaaDoorW.PrintMore Go.Proofs.YtfcgjadfhojogaaDoor.PVmStarts
set_option linter.unusedVariables false
set_option linter.unusedSimpArgs false

theorem catch_idle (pf po pa pe : Value) (w : World) :
    CallsD Tryd.prog 35 #[pf, po, pa, pe] .returning w fun e u' w' => e = .returned (.tuple #[]) ∧ u' = .returning ∧ w' = w := by
  refine callsD_of_wpS Tryd.func35 rfl fun c₀ cs hu => ?_
  apply wpS_seq
  apply wpS_region
  simp [wpOpsS, go_sem, recoverD, hu, Tryd.ntmps35, Exit.thenS]
  refine wpS_of_wp ?_
  go_wp2
  cases c₀
  simp_all [bodyPostS, results, Tryd.results35]

theorem sets10 {w : World} {g : Nat} {t : TypeId} {z0 z1 z2 z3 z4 z5 z6 z7 z8 z9 : Value} (h : w.heap[g]? = some (.cells #[z0, z1, z2, z3, z4, z5, z6, z7, z8, z9] t (0, 0))) (v0 v1 v2 v3 v4 v5 v6 v7 v8 v9 : Value) :
    ((((((((((w.setCell ⟨g, 0, none⟩ v0).setCell ⟨g, 1, none⟩ v1).setCell ⟨g, 2, none⟩ v2).setCell ⟨g, 3, none⟩ v3).setCell ⟨g, 4, none⟩ v4).setCell ⟨g, 5, none⟩ v5).setCell ⟨g, 6, none⟩ v6).setCell ⟨g, 7, none⟩ v7).setCell ⟨g, 8, none⟩ v8).setCell ⟨g, 9, none⟩ v9).heap[g]? = some (.cells #[v0, v1, v2, v3, v4, v5, v6, v7, v8, v9] t (0, 0)) := by
  have := (blk_set (blk_set (blk_set (blk_set (blk_set (blk_set (blk_set (blk_set (blk_set (blk_set h 0 v0) 1 v1) 2 v2) 3 v3) 4 v4) 5 v5) 6 v6) 7 v7) 8 v8) 9 v9)
  simpa using this
theorem only10 (w : World) (g : Nat) (v0 v1 v2 v3 v4 v5 v6 v7 v8 v9 : Value) : OnlyB g w ((((((((((w.setCell ⟨g, 0, none⟩ v0).setCell ⟨g, 1, none⟩ v1).setCell ⟨g, 2, none⟩ v2).setCell ⟨g, 3, none⟩ v3).setCell ⟨g, 4, none⟩ v4).setCell ⟨g, 5, none⟩ v5).setCell ⟨g, 6, none⟩ v6).setCell ⟨g, 7, none⟩ v7).setCell ⟨g, 8, none⟩ v8).setCell ⟨g, 9, none⟩ v9) := ((((((((((OnlyB.refl _ _).set _ _).set _ _).set _ _).set _ _).set _ _).set _ _).set _ _).set _ _).set _ _).set _ _

theorem sets8 {w : World} {g : Nat} {t : TypeId} {z0 z1 z2 z3 z4 z5 z6 z7 : Value} (h : w.heap[g]? = some (.cells #[z0, z1, z2, z3, z4, z5, z6, z7] t (0, 0))) (v0 v1 v2 v3 v4 v5 v6 v7 : Value) :
    ((((((((w.setCell ⟨g, 0, none⟩ v0).setCell ⟨g, 1, none⟩ v1).setCell ⟨g, 2, none⟩ v2).setCell ⟨g, 3, none⟩ v3).setCell ⟨g, 4, none⟩ v4).setCell ⟨g, 5, none⟩ v5).setCell ⟨g, 6, none⟩ v6).setCell ⟨g, 7, none⟩ v7).heap[g]? = some (.cells #[v0, v1, v2, v3, v4, v5, v6, v7] t (0, 0)) := by
  have := (blk_set (blk_set (blk_set (blk_set (blk_set (blk_set (blk_set (blk_set h 0 v0) 1 v1) 2 v2) 3 v3) 4 v4) 5 v5) 6 v6) 7 v7)
  simpa using this
theorem only8 (w : World) (g : Nat) (v0 v1 v2 v3 v4 v5 v6 v7 : Value) : OnlyB g w ((((((((w.setCell ⟨g, 0, none⟩ v0).setCell ⟨g, 1, none⟩ v1).setCell ⟨g, 2, none⟩ v2).setCell ⟨g, 3, none⟩ v3).setCell ⟨g, 4, none⟩ v4).setCell ⟨g, 5, none⟩ v5).setCell ⟨g, 6, none⟩ v6).setCell ⟨g, 7, none⟩ v7) := ((((((((OnlyB.refl _ _).set _ _).set _ _).set _ _).set _ _).set _ _).set _ _).set _ _).set _ _

theorem OnlyB.drew {b : Nat} {w w' : World} (h : OnlyB b w w') : OnlyB b w w'.drew := ⟨h.far, h.size, h.os, h.tape, h.output⟩
/-- The three results have been written. -/
structure Wrote (w w' : World) (bo ba be : Nat) (cf ca : Array Value) (x : Int) : Prop where
  out : w'.heap[bo]? = some (Obj.cells cf 33 (0, 0))
  ask : w'.heap[ba]? = some (Obj.cells ca 46 (0, 0))
  err : w'.heap[be]? = some (Obj.cells #[.int .i64 x] 34 (0, 0))
  far : ∀ k, k ≠ bo → k ≠ ba → k ≠ be → w'.heap[k]? = w.heap[k]?
  size : w.heap.size ≤ w'.heap.size
  os : w'.os = w.os
  tape : w'.tape = w.tape
  output : w'.output = w.output
theorem Wrote.of {w w1 w2 w3 w4 : World} {bo ba be : Nat} {cf ca : Array Value} {x : Int} (n1 : bo ≠ ba) (n2 : bo ≠ be) (n3 : ba ≠ be) (h1 : OnlyB bo w w1) (h2 : OnlyB ba w1 w2) (h3 : OnlyB be w2 w3) (hd : w4 = w3.drew)
    (o1 : w1.heap[bo]? = some (Obj.cells cf 33 (0, 0))) (o2 : w2.heap[ba]? = some (Obj.cells ca 46 (0, 0))) (o3 : w3.heap[be]? = some (Obj.cells #[.int .i64 x] 34 (0, 0))) : Wrote w w4 bo ba be cf ca x := by
  subst hd
  exact ⟨(h3.far bo n2).trans ((h2.far bo n1).trans o1), (h3.far ba n3).trans o2, o3, fun k k1 k2 k3 => (h3.far k k3).trans ((h2.far k k2).trans (h1.far k k1)), Nat.le_trans h1.size (Nat.le_trans h2.size h3.size), h3.os.trans (h2.os.trans h1.os), h3.tape.trans (h2.tape.trans h1.tape), h3.output.trans (h2.output.trans h1.output)⟩

theorem wrote_all {w : World} {bo ba be : Nat} {z0 z1 z2 z3 z4 z5 z6 z7 z8 z9 y0 y1 y2 y3 y4 y5 y6 y7 e0 : Value} (n1 : bo ≠ ba) (n2 : bo ≠ be) (n3 : ba ≠ be)
    (ho : w.heap[bo]? = some (Obj.cells #[z0, z1, z2, z3, z4, z5, z6, z7, z8, z9] 33 (0, 0))) (ha : w.heap[ba]? = some (Obj.cells #[y0, y1, y2, y3, y4, y5, y6, y7] 46 (0, 0))) (he : w.heap[be]? = some (Obj.cells #[e0] 34 (0, 0)))
    (v0 v1 v2 v3 v4 v5 v6 v7 v8 v9 a0 a1 a2 a3 a4 a5 a6 a7 : Value) (x : Int) : Wrote w (((((((((((((((((((w.setCell ⟨bo, 0, none⟩ v0).setCell ⟨bo, 1, none⟩ v1).setCell ⟨bo, 2, none⟩ v2).setCell ⟨bo, 3, none⟩ v3).setCell ⟨bo, 4, none⟩ v4).setCell ⟨bo, 5, none⟩ v5).setCell ⟨bo, 6, none⟩ v6).setCell ⟨bo, 7, none⟩ v7).setCell ⟨bo, 8, none⟩ v8).setCell ⟨bo, 9, none⟩ v9).setCell ⟨ba, 0, none⟩ a0).setCell ⟨ba, 1, none⟩ a1).setCell ⟨ba, 2, none⟩ a2).setCell ⟨ba, 3, none⟩ a3).setCell ⟨ba, 4, none⟩ a4).setCell ⟨ba, 5, none⟩ a5).setCell ⟨ba, 6, none⟩ a6).setCell ⟨ba, 7, none⟩ a7).setCell ⟨be, 0, none⟩ (.int .i64 x)).drew bo ba be #[v0, v1, v2, v3, v4, v5, v6, v7, v8, v9] #[a0, a1, a2, a3, a4, a5, a6, a7] x := by
  have s1 := sets10 ho v0 v1 v2 v3 v4 v5 v6 v7 v8 v9
  have t1 := only10 w bo v0 v1 v2 v3 v4 v5 v6 v7 v8 v9
  generalize hw1 : ((((((((((w.setCell ⟨bo, 0, none⟩ v0).setCell ⟨bo, 1, none⟩ v1).setCell ⟨bo, 2, none⟩ v2).setCell ⟨bo, 3, none⟩ v3).setCell ⟨bo, 4, none⟩ v4).setCell ⟨bo, 5, none⟩ v5).setCell ⟨bo, 6, none⟩ v6).setCell ⟨bo, 7, none⟩ v7).setCell ⟨bo, 8, none⟩ v8).setCell ⟨bo, 9, none⟩ v9) = w1 at *
  have s2 := sets8 ((t1.far ba n1.symm).trans ha) a0 a1 a2 a3 a4 a5 a6 a7
  have t2 := only8 w1 ba a0 a1 a2 a3 a4 a5 a6 a7
  generalize hw2 : ((((((((w1.setCell ⟨ba, 0, none⟩ a0).setCell ⟨ba, 1, none⟩ a1).setCell ⟨ba, 2, none⟩ a2).setCell ⟨ba, 3, none⟩ a3).setCell ⟨ba, 4, none⟩ a4).setCell ⟨ba, 5, none⟩ a5).setCell ⟨ba, 6, none⟩ a6).setCell ⟨ba, 7, none⟩ a7) = w2 at *
  have s3 := blk_set ((t2.far be n3.symm).trans ((t1.far be n2.symm).trans he)) 0 (.int .i64 x)
  exact Wrote.of n1 n2 n3 t1 t2 ((OnlyB.refl be _).set 0 (.int .i64 x)) rfl s1 s2 (by simpa using s3)

theorem Wrote.undrew {w W : World} {bo ba be : Nat} {cf ca : Array Value} {x : Int} (h : Wrote w W.drew bo ba be cf ca x) : Wrote w W bo ba be cf ca x := ⟨h.out, h.ask, h.err, h.far, h.size, h.os, h.tape, h.output⟩
theorem Wrote.below {B : Nat} {w0 w W : World} {bo ba be : Nat} {cf ca : Array Value} {x : Int} (h : Wrote w W bo ba be cf ca x) (hb : Below B w0 w) (l1 : B ≤ bo) (l2 : B ≤ ba) (l3 : B ≤ be) : Below B w0 W :=
  ⟨h.os.trans hb.os, h.tape.trans hb.tape, h.output.trans hb.output, Nat.le_trans hb.size h.size, fun k hk => (h.far k (by omega) (by omega) (by omega)).trans (hb.block k hk)⟩
def frArr (F : Fr) (Ap : Option Addr) (cp : Nat) (vl vs : Value) (Ak : Option Addr) (ck : Nat) : Array Value :=
  #[.int .i64 F.task, .slice Ap F.path.length cp, .int .i64 F.fn, .int .i64 F.pc, vl, vs, .slice Ak F.kids.length ck, .int .i64 F.many, .int .i64 F.spent, .bool F.fail]
def akArr (K : Ak) (va : Value) : Array Value := #[.int .i64 K.kind, .int .i64 K.a, .int .i64 K.b, .int .i64 K.okind, .int .i64 K.oobj, .int .i64 K.oa, .int .i64 K.ob, va]
def zFr : Array Value := #[.int .i64 0, .slice none 0 0, .int .i64 0, .int .i64 0, .slice none 0 0, .slice none 0 0, .slice none 0 0, .int .i64 0, .int .i64 0, .bool false]
def zAk : Array Value := #[.int .i64 0, .int .i64 0, .int .i64 0, .int .i64 0, .int .i64 0, .int .i64 0, .int .i64 0, .slice none 0 0]

set_option maxHeartbeats 4000000 in
set_option maxRecDepth 100000 in
theorem catch_panics (bf bo ba be : Nat) (x : Int) (F : Fr) (Ap : Option Addr) (cp : Nat) (Al : Option Addr) (cl : Nat) (As : Option Addr) (cs0 : Nat) (Ak : Option Addr) (ck : Nat) (w : World)
    (hf : w.heap[bf]? = some (.cells (frArr F Ap cp (.slice Al F.loc.length cl) (.slice As F.stk.length cs0) Ak ck) 33 (0, 0))) (ho : w.heap[bo]? = some (.cells zFr 33 (0, 0))) (ha : w.heap[ba]? = some (.cells zAk 46 (0, 0))) (he : w.heap[be]? = some (.cells #[.int .i64 0] 34 (0, 0)))
    (n0 : bf ≠ bo) :
    CallsD Tryd.prog 35 #[.pointer (some ⟨bf, 0, none⟩), .pointer (some ⟨bo, 0, none⟩), .pointer (some ⟨ba, 0, none⟩), .pointer (some ⟨be, 0, none⟩)] (.panicking [{ v := .iface 34 (.int .i64 x), recovered := false }]) w
      fun e u' w' => e = .returned (.tuple #[]) ∧ u' = .panicking [{ v := .iface 34 (.int .i64 x), recovered := true }] ∧ Wrote w w' bo ba be (frArr F Ap cp (.slice Al F.loc.length cl) (.slice As F.stk.length cs0) Ak ck) zAk x := by
  have n1 : bo ≠ ba := blk_ne ho ha (by decide)
  have n2 : bo ≠ be := blk_ne ho he (by decide)
  have n3 : ba ≠ be := blk_ne ha he (by decide)
  refine callsD_of_wpS Tryd.func35 rfl fun c₀ cs hu => ?_
  apply wpS_seq
  apply wpS_region
  simp [wpOpsS, go_sem, recoverD, hu, Tryd.ntmps35, Exit.thenS]
  refine wpS_of_wp ?_
  go_upto_region 2 with (fail)
  change Code.wp _ _ _ { tmps := #[.pointer (some ⟨bf, 0, none⟩), .pointer (some ⟨bo, 0, none⟩), .pointer (some ⟨ba, 0, none⟩), .pointer (some ⟨be, 0, none⟩), .iface 34 (.int .i64 x), .iface 34 (.int .i64 x), .iface 34 (.int .i64 x), .bool true, undef, undef, undef, undef], defers := [] } _
  have qf := blk_cells hf
  unfold frArr at qf
  have qo := blk_cells ho
  unfold zFr at qo
  have qa := blk_cells ha
  unfold zAk at qa
  have qe := blk_cells he
  have fo : ∀ i, w.frozen? ⟨bo, i, none⟩ = false := blk_frozen ho
  have fa : ∀ i, w.frozen? ⟨ba, i, none⟩ = false := blk_frozen ha
  have fe : ∀ i, w.frozen? ⟨be, i, none⟩ = false := blk_frozen he
  have HO := Aside0.mk ho
  have HA := Aside0.mk ha
  have HE := Aside0.mk he
  have hta : ∀ w, (Instr.typeAssert (.iface 34 (.int .i64 x)) 20 34 false).run Tryd.prog w = .ok (.int .i64 x) w := fun w => by kernel_rfl
  clear hf ho ha he
  go_region
  refine ⟨rfl, .panicking [{ v := .iface 34 (.int .i64 x), recovered := true }], rfl, .tuple #[], by simp [results, Tryd.results35], rfl, rfl, ?_⟩
  exact wrote_all n1 n2 n3 HO.out HA.out HE.out _ _ _ _ _ _ _ _ _ _ _ _ _ _ _ _ _ _ _

end Go.Proofs.YtfcgjadfhojogaaDoor.Vm
