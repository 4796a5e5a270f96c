/- VmStarts: the walk. -/
import Derived.Test.YtfcgjadfhojogaaDoorVmSt
import Derived.Test.YtfcgjadfhojogaaDoorVmTo
import Derived.Deep.RegionHeld3
namespace Go.Proofs.YtfcgjadfhojogaaDoor.Vm
open Go.RowKit Go.Proofs.YtfcgjadfhojogaaDoorW.PrintWords Go.Proofs.YtfcgjadfhojogaaDoorW.PrintLast Go.Proofs.YtfcgjadfhojogaaDoorW.PrintMore Go.Proofs.YtfcgjadfhojogaaDoor.PVmStarts
set_option linter.unusedVariables false
set_option linter.unusedSimpArgs false

theorem small_locals {C : Cd} {F : Fr} (h : smallB C F = true) (fn : Int) (h0 : 0 ≤ fn) (h1 : fn < (C.funs.length : Int)) : (rd_T65 C.funs fn).f1 < 1000000 := by
  unfold smallB at h
  rw [Bool.and_eq_true] at h
  have hi : fn.toNat < C.funs.length := by omega
  have hx : rd_T65 C.funs fn = C.funs[fn.toNat] := by simp [rd_T65, List.getD_eq_getElem?_getD, List.getElem?_eq_getElem hi]
  have := List.all_eq_true.1 h.2 C.funs[fn.toNat] (List.getElem_mem _)
  rw [hx]
  simp only [smallF, Bool.not_eq_true', Bool.or_eq_false_iff, decide_eq_false_iff_not] at this
  omega
theorem start_small {C : Cd} {F : Fr} (h : smallB C F = true) (fn : Int) (args : List Int) (task : Int) (path : List Int) (ha : args.length ≤ 30) (hp : path.length ≤ 30) :
    (startF C fn args task path).1.path.length < 1000000 ∧ (startF C fn args task path).1.loc.length < 1000000 ∧ (startF C fn args task path).1.stk.length < 1000000 ∧ (startF C fn args task path).1.kids.length < 1000000 := by
  unfold startF
  by_cases c : okStart C fn args task = true
  · rw [if_pos c]
    have hk : 0 ≤ fn ∧ fn < (C.funs.length : Int) := by
      unfold okStart at c
      rw [Bool.and_eq_true, decide_eq_true_eq] at c
      exact ⟨c.1.1, c.1.2.1⟩
    have := small_locals h fn hk.1 hk.2
    refine ⟨by show path.length < _; omega, ?_, by show ([] : List Int).length < _; decide, by show ([] : List S74).length < _; decide⟩
    show (args ++ List.replicate _ 0).length < _
    simp
    omega
  · rw [if_neg c]
    refine ⟨?_, ?_, ?_, ?_⟩ <;> (show ([] : List _).length < _; decide)
def i64r (n : Int) : Prop := -9223372036854775808 ≤ n ∧ n ≤ 9223372036854775807

set_option maxHeartbeats 40000000 in
set_option maxRecDepth 100000 in
theorem starts_small (C : Cd) (Af : Option Addr) (cf : Nat) (Ac : Option Addr) (cc : Nat) (fn : Int) (Aa : Option Addr) (ca : Nat) (args : List Int) (z0 z1 : Int) (Ap : Option Addr) (cp : Nat) (path : List Int) (w : World) (ht : Table w) (hC : CdAt w C (.agg #[.slice Af C.funs.length cf, .slice Ac C.cells.length cc, .int .i64 C.maps, .int .i64 C.stacks, .int .i64 C.chans, .int .i64 C.main])) (ha : (Kd.int .i64).C w Aa args.length args) (hca : args.length ≤ ca) (hp : (Kd.int .i64).C w Ap path.length path) (hcp : path.length ≤ cp) (hz : i64r z0 ∧ i64r z1) (hs : smallB C frame0 = false) :
    Calls Tryd.prog 3 #[.agg #[.slice Af C.funs.length cf, .slice Ac C.cells.length cc, .int .i64 C.maps, .int .i64 C.stacks, .int .i64 C.chans, .int .i64 C.main, .int .i64 fn, .slice Aa args.length ca, .int .i64 z0, .int .i64 z1, .slice Ap path.length cp]] w (Bool1 true w) := by
  have HT := Aside0.mk ht
  have HC := Aside0.mk hC
  have HA := Aside0.mk ha
  have HP := Aside0.mk hp
  have HCA := Aside0.mk (And.intro hca hcp)
  have HZ := Aside0.mk hz
  have la := ha.2.1
  have lp := hp.2.1
  clear ht hC ha hp hca hcp hz
  go_enter Tryd.func3, Tryd.ntmps3
  go_upto_region 1 with (fail)
  refine nameW ?_
  intro w1 hw1
  obtain ⟨b1, hb1, hsz1⟩ := one_box hw1
  clear hw1
  have HB := Aside0.mk hb1
  have BW := Aside0.mk b1
  have q1 := blk_cells b1
  clear b1 hb1 hsz1
  have HX : Aside0 True := ⟨trivial⟩
  go_upto_region 2 with (fail)
  refine nameW ?_
  intro w2 hw2
  obtain ⟨b2, hb2, hsz2⟩ := one_box hw2
  clear hw2 q1
  have BC := Aside0.mk b2
  replace BW := Aside0.mk (blk_below BW.out hb2)
  replace HB := Aside0.mk (below_step HB.out hb2)
  have q1 := blk_cells BW.out
  generalize w1.heap.size = kc at *
  clear b2 hb2 hsz2
  go_upto_region 5 with (fail)
  refine nameW ?_
  intro w3 hw3
  obtain ⟨b3, hb3, hsz3⟩ := one_box hw3
  clear hw3 q1
  have BZ := Aside0.mk b3
  replace BW := Aside0.mk (blk_below BW.out hb3)
  replace BC := Aside0.mk (blk_below BC.out hb3)
  replace HB := Aside0.mk (below_step HB.out hb3)
  have q1 := blk_cells BW.out
  generalize w2.heap.size = kz at *
  clear b3 hb3 hsz3
  have hsh := shown_call w3 (HT.out.below HB.out)
  go_upto_region 7 with ((with_reducible refine hsh.mono ?_); rintro e w4 ⟨rfl, hb4⟩)
  clear q1 hsh
  replace BC := Aside0.mk (blk_below BC.out hb4)
  replace BZ := Aside0.mk (blk_below BZ.out hb4)
  replace HB := Aside0.mk (below_step HB.out hb4)
  clear BW hb4
  have qc := blk_cells BC.out
  have hsm : Calls Tryd.prog 11 #[.agg #[.slice Af C.funs.length cf, .slice Ac C.cells.length cc, .int .i64 C.maps, .int .i64 C.stacks, .int .i64 C.chans, .int .i64 C.main], .agg #[.int .i64 0, .slice none 0 0, .int .i64 0, .int .i64 0, .slice none 0 0, .slice none 0 0, .slice none 0 0, .int .i64 0, .int .i64 0, .bool false]] w4 (Bool1 (smallB C frame0) w4) := small_call (HC.out.below HB.out) (zero_at w4)
  rw [hs] at hsm
  go_wp2_with ((with_reducible refine hsm.mono ?_); rintro e w5 ⟨rfl, hb5⟩)
  go_ret
  exact ⟨rfl, below_step HB.out hb5⟩

set_option maxHeartbeats 40000000 in
set_option maxRecDepth 100000 in
theorem starts_args (C : Cd) (Af : Option Addr) (cf : Nat) (Ac : Option Addr) (cc : Nat) (fn : Int) (Aa : Option Addr) (ca : Nat) (args : List Int) (z0 z1 : Int) (Ap : Option Addr) (cp : Nat) (path : List Int) (w : World) (ht : Table w) (hC : CdAt w C (.agg #[.slice Af C.funs.length cf, .slice Ac C.cells.length cc, .int .i64 C.maps, .int .i64 C.stacks, .int .i64 C.chans, .int .i64 C.main])) (ha : (Kd.int .i64).C w Aa args.length args) (hca : args.length ≤ ca) (hp : (Kd.int .i64).C w Ap path.length path) (hcp : path.length ≤ cp) (hz : i64r z0 ∧ i64r z1) (hs : smallB C frame0 = true) (h1 : 30 < args.length) :
    Calls Tryd.prog 3 #[.agg #[.slice Af C.funs.length cf, .slice Ac C.cells.length cc, .int .i64 C.maps, .int .i64 C.stacks, .int .i64 C.chans, .int .i64 C.main, .int .i64 fn, .slice Aa args.length ca, .int .i64 z0, .int .i64 z1, .slice Ap path.length cp]] w (Bool1 true w) := by
  have HT := Aside0.mk ht
  have HC := Aside0.mk hC
  have HA := Aside0.mk ha
  have HP := Aside0.mk hp
  have HCA := Aside0.mk (And.intro hca hcp)
  have HZ := Aside0.mk hz
  have la := ha.2.1
  have lp := hp.2.1
  clear ht hC ha hp hca hcp hz
  go_enter Tryd.func3, Tryd.ntmps3
  go_upto_region 1 with (fail)
  refine nameW ?_
  intro w1 hw1
  obtain ⟨b1, hb1, hsz1⟩ := one_box hw1
  clear hw1
  have HB := Aside0.mk hb1
  have BW := Aside0.mk b1
  have q1 := blk_cells b1
  clear b1 hb1 hsz1
  have HX : Aside0 True := ⟨trivial⟩
  go_upto_region 2 with (fail)
  refine nameW ?_
  intro w2 hw2
  obtain ⟨b2, hb2, hsz2⟩ := one_box hw2
  clear hw2 q1
  have BC := Aside0.mk b2
  replace BW := Aside0.mk (blk_below BW.out hb2)
  replace HB := Aside0.mk (below_step HB.out hb2)
  have q1 := blk_cells BW.out
  generalize w1.heap.size = kc at *
  clear b2 hb2 hsz2
  go_upto_region 5 with (fail)
  refine nameW ?_
  intro w3 hw3
  obtain ⟨b3, hb3, hsz3⟩ := one_box hw3
  clear hw3 q1
  have BZ := Aside0.mk b3
  replace BW := Aside0.mk (blk_below BW.out hb3)
  replace BC := Aside0.mk (blk_below BC.out hb3)
  replace HB := Aside0.mk (below_step HB.out hb3)
  have q1 := blk_cells BW.out
  generalize w2.heap.size = kz at *
  clear b3 hb3 hsz3
  have hsh := shown_call w3 (HT.out.below HB.out)
  go_upto_region 7 with ((with_reducible refine hsh.mono ?_); rintro e w4 ⟨rfl, hb4⟩)
  clear q1 hsh
  replace BC := Aside0.mk (blk_below BC.out hb4)
  replace BZ := Aside0.mk (blk_below BZ.out hb4)
  replace HB := Aside0.mk (below_step HB.out hb4)
  clear BW hb4
  have qc := blk_cells BC.out
  have hsm : Calls Tryd.prog 11 #[.agg #[.slice Af C.funs.length cf, .slice Ac C.cells.length cc, .int .i64 C.maps, .int .i64 C.stacks, .int .i64 C.chans, .int .i64 C.main], .agg #[.int .i64 0, .slice none 0 0, .int .i64 0, .int .i64 0, .slice none 0 0, .slice none 0 0, .slice none 0 0, .int .i64 0, .int .i64 0, .bool false]] w4 (Bool1 (smallB C frame0) w4) := small_call (HC.out.below HB.out) (zero_at w4)
  rw [hs] at hsm
  have d1 : decide ((30 : Int) < (args.length : Int)) = true := decide_eq_true (by omega)
  go_wp2_with ((with_reducible refine hsm.mono ?_); rintro e w5 ⟨rfl, hb5⟩)
  go_ret
  exact ⟨rfl, below_step HB.out hb5⟩

set_option maxHeartbeats 40000000 in
set_option maxRecDepth 100000 in
theorem starts_path (C : Cd) (Af : Option Addr) (cf : Nat) (Ac : Option Addr) (cc : Nat) (fn : Int) (Aa : Option Addr) (ca : Nat) (args : List Int) (z0 z1 : Int) (Ap : Option Addr) (cp : Nat) (path : List Int) (w : World) (ht : Table w) (hC : CdAt w C (.agg #[.slice Af C.funs.length cf, .slice Ac C.cells.length cc, .int .i64 C.maps, .int .i64 C.stacks, .int .i64 C.chans, .int .i64 C.main])) (ha : (Kd.int .i64).C w Aa args.length args) (hca : args.length ≤ ca) (hp : (Kd.int .i64).C w Ap path.length path) (hcp : path.length ≤ cp) (hz : i64r z0 ∧ i64r z1) (hs : smallB C frame0 = true) (h1 : ¬ 30 < args.length) (h2 : 30 < path.length) :
    Calls Tryd.prog 3 #[.agg #[.slice Af C.funs.length cf, .slice Ac C.cells.length cc, .int .i64 C.maps, .int .i64 C.stacks, .int .i64 C.chans, .int .i64 C.main, .int .i64 fn, .slice Aa args.length ca, .int .i64 z0, .int .i64 z1, .slice Ap path.length cp]] w (Bool1 true w) := by
  have HT := Aside0.mk ht
  have HC := Aside0.mk hC
  have HA := Aside0.mk ha
  have HP := Aside0.mk hp
  have HCA := Aside0.mk (And.intro hca hcp)
  have HZ := Aside0.mk hz
  have la := ha.2.1
  have lp := hp.2.1
  clear ht hC ha hp hca hcp hz
  go_enter Tryd.func3, Tryd.ntmps3
  go_upto_region 1 with (fail)
  refine nameW ?_
  intro w1 hw1
  obtain ⟨b1, hb1, hsz1⟩ := one_box hw1
  clear hw1
  have HB := Aside0.mk hb1
  have BW := Aside0.mk b1
  have q1 := blk_cells b1
  clear b1 hb1 hsz1
  have HX : Aside0 True := ⟨trivial⟩
  go_upto_region 2 with (fail)
  refine nameW ?_
  intro w2 hw2
  obtain ⟨b2, hb2, hsz2⟩ := one_box hw2
  clear hw2 q1
  have BC := Aside0.mk b2
  replace BW := Aside0.mk (blk_below BW.out hb2)
  replace HB := Aside0.mk (below_step HB.out hb2)
  have q1 := blk_cells BW.out
  generalize w1.heap.size = kc at *
  clear b2 hb2 hsz2
  go_upto_region 5 with (fail)
  refine nameW ?_
  intro w3 hw3
  obtain ⟨b3, hb3, hsz3⟩ := one_box hw3
  clear hw3 q1
  have BZ := Aside0.mk b3
  replace BW := Aside0.mk (blk_below BW.out hb3)
  replace BC := Aside0.mk (blk_below BC.out hb3)
  replace HB := Aside0.mk (below_step HB.out hb3)
  have q1 := blk_cells BW.out
  generalize w2.heap.size = kz at *
  clear b3 hb3 hsz3
  have hsh := shown_call w3 (HT.out.below HB.out)
  go_upto_region 7 with ((with_reducible refine hsh.mono ?_); rintro e w4 ⟨rfl, hb4⟩)
  clear q1 hsh
  replace BC := Aside0.mk (blk_below BC.out hb4)
  replace BZ := Aside0.mk (blk_below BZ.out hb4)
  replace HB := Aside0.mk (below_step HB.out hb4)
  clear BW hb4
  have qc := blk_cells BC.out
  have hsm : Calls Tryd.prog 11 #[.agg #[.slice Af C.funs.length cf, .slice Ac C.cells.length cc, .int .i64 C.maps, .int .i64 C.stacks, .int .i64 C.chans, .int .i64 C.main], .agg #[.int .i64 0, .slice none 0 0, .int .i64 0, .int .i64 0, .slice none 0 0, .slice none 0 0, .slice none 0 0, .int .i64 0, .int .i64 0, .bool false]] w4 (Bool1 (smallB C frame0) w4) := small_call (HC.out.below HB.out) (zero_at w4)
  rw [hs] at hsm
  have d1 : decide ((30 : Int) < (args.length : Int)) = false := decide_eq_false (by omega)
  have d2 : decide ((30 : Int) < (path.length : Int)) = true := decide_eq_true (by omega)
  go_wp2_with ((with_reducible refine hsm.mono ?_); rintro e w5 ⟨rfl, hb5⟩)
  go_ret
  exact ⟨rfl, below_step HB.out hb5⟩

set_option maxHeartbeats 40000000 in
set_option maxRecDepth 100000 in
theorem starts_go (C : Cd) (Af : Option Addr) (cf : Nat) (Ac : Option Addr) (cc : Nat) (fn : Int) (Aa : Option Addr) (ca : Nat) (args : List Int) (z0 z1 : Int) (Ap : Option Addr) (cp : Nat) (path : List Int) (w : World) (ht : Table w) (hC : CdAt w C (.agg #[.slice Af C.funs.length cf, .slice Ac C.cells.length cc, .int .i64 C.maps, .int .i64 C.stacks, .int .i64 C.chans, .int .i64 C.main])) (ha : (Kd.int .i64).C w Aa args.length args) (hca : args.length ≤ ca) (hp : (Kd.int .i64).C w Ap path.length path) (hcp : path.length ≤ cp) (hz : i64r z0 ∧ i64r z1) (hs : smallB C frame0 = true) (h1 : ¬ 30 < args.length) (h2 : ¬ 30 < path.length) :
    Calls Tryd.prog 3 #[.agg #[.slice Af C.funs.length cf, .slice Ac C.cells.length cc, .int .i64 C.maps, .int .i64 C.stacks, .int .i64 C.chans, .int .i64 C.main, .int .i64 fn, .slice Aa args.length ca, .int .i64 z0, .int .i64 z1, .slice Ap path.length cp]] w (Bool1 true w) := by
  have HT := Aside0.mk ht
  have HC := Aside0.mk hC
  have HA := Aside0.mk ha
  have HP := Aside0.mk hp
  have HCA := Aside0.mk (And.intro hca hcp)
  have HZ := Aside0.mk hz
  have la := ha.2.1
  have lp := hp.2.1
  clear ht hC ha hp hca hcp hz
  go_enter Tryd.func3, Tryd.ntmps3
  go_upto_region 1 with (fail)
  refine nameW ?_
  intro w1 hw1
  obtain ⟨b1, hb1, hsz1⟩ := one_box hw1
  clear hw1
  have HB := Aside0.mk hb1
  have BW := Aside0.mk b1
  have q1 := blk_cells b1
  clear b1 hb1 hsz1
  have HX : Aside0 True := ⟨trivial⟩
  go_upto_region 2 with (fail)
  refine nameW ?_
  intro w2 hw2
  obtain ⟨b2, hb2, hsz2⟩ := one_box hw2
  clear hw2 q1
  have BC := Aside0.mk b2
  replace BW := Aside0.mk (blk_below BW.out hb2)
  replace HB := Aside0.mk (below_step HB.out hb2)
  have q1 := blk_cells BW.out
  generalize w1.heap.size = kc at *
  clear b2 hb2 hsz2
  go_upto_region 5 with (fail)
  refine nameW ?_
  intro w3 hw3
  obtain ⟨b3, hb3, hsz3⟩ := one_box hw3
  clear hw3 q1
  have BZ := Aside0.mk b3
  replace BW := Aside0.mk (blk_below BW.out hb3)
  replace BC := Aside0.mk (blk_below BC.out hb3)
  replace HB := Aside0.mk (below_step HB.out hb3)
  have q1 := blk_cells BW.out
  generalize w2.heap.size = kz at *
  clear b3 hb3 hsz3
  have hsh := shown_call w3 (HT.out.below HB.out)
  go_upto_region 7 with ((with_reducible refine hsh.mono ?_); rintro e w4 ⟨rfl, hb4⟩)
  clear q1 hsh
  replace BC := Aside0.mk (blk_below BC.out hb4)
  replace BZ := Aside0.mk (blk_below BZ.out hb4)
  replace HB := Aside0.mk (below_step HB.out hb4)
  clear BW hb4
  have qc := blk_cells BC.out
  have hsm : Calls Tryd.prog 11 #[.agg #[.slice Af C.funs.length cf, .slice Ac C.cells.length cc, .int .i64 C.maps, .int .i64 C.stacks, .int .i64 C.chans, .int .i64 C.main], .agg #[.int .i64 0, .slice none 0 0, .int .i64 0, .int .i64 0, .slice none 0 0, .slice none 0 0, .slice none 0 0, .int .i64 0, .int .i64 0, .bool false]] w4 (Bool1 (smallB C frame0) w4) := small_call (HC.out.below HB.out) (zero_at w4)
  rw [hs] at hsm
  have d1 : decide ((30 : Int) < (args.length : Int)) = false := decide_eq_false (by omega)
  have d2 : decide ((30 : Int) < (path.length : Int)) = false := decide_eq_false (by omega)
  have HS := Aside0.mk (And.intro hs (And.intro h1 h2))
  go_upto_region 9 with ((with_reducible refine hsm.mono ?_); rintro e w5 ⟨rfl, hb5⟩)
  clear hsm qc d1 d2
  replace BC := Aside0.mk (blk_below BC.out hb5)
  replace BZ := Aside0.mk (blk_below BZ.out hb5)
  replace HB := Aside0.mk (below_step HB.out hb5)
  clear hb5
  have qc := blk_cells BC.out
  have qz := blk_cells BZ.out
  have hst : Calls Tryd.prog 12 #[.agg #[.slice Af C.funs.length cf, .slice Ac C.cells.length cc, .int .i64 C.maps, .int .i64 C.stacks, .int .i64 C.chans, .int .i64 C.main], .int .i64 fn, .slice Aa args.length ca, .int .i64 z0, .slice Ap path.length cp] w5 (Framed (startF C fn args z0 path) w5) := start_call C _ fn Aa ca args z0 Ap cp path w5 (HC.out.below HB.out) (Kd.C_below HA.out HB.out) (Kd.C_below HP.out HB.out) (by omega) (small_locals HS.out.1 fn)
  generalize hS : startF C fn args z0 path = S at *
  have HSS := Aside0.mk hS
  have HSS := Aside0.mk hS
  clear hS
  go_upto_region 10 with ((with_reducible refine hst.mono ?_); rintro e w6 ⟨vf, rfl, hF, hb6⟩; have HF := Aside0.mk hF; obtain ⟨fp, fpc, fl, flc, fs, fsc, fk, fkc, rfl, _, _, _, _⟩ := hF; have HBN := Aside0.mk hb6)
  clear hst qc qz hb6
  refine nameW ?_
  intro w7 hw7
  obtain ⟨bf, hbf, hszf⟩ := one_box hw7
  clear hw7
  have hst := below_step HBN.out hbf
  replace BC := Aside0.mk (blk_below BC.out hst)
  replace BZ := Aside0.mk (blk_below BZ.out hst)
  replace HB := Aside0.mk (below_step HB.out hst)
  replace HF := Aside0.mk (HF.out.below hbf)
  have BF := Aside0.mk bf
  clear hst bf hbf hszf HBN
  generalize w6.heap.size = kf at *
  have qc := blk_cells BC.out
  have qz := blk_cells BZ.out
  have hst : Calls Tryd.prog 13 #[.agg #[.slice Af C.funs.length cf, .slice Ac C.cells.length cc, .int .i64 C.maps, .int .i64 C.stacks, .int .i64 C.chans, .int .i64 C.main], .int .i64 fn, .slice Aa args.length ca, .int .i64 z0, .slice Ap path.length cp] w7 (Framed S w7) := by
    rw [← HSS.out]
    exact refstart_call C _ fn Aa ca args z0 Ap cp path w7 (HC.out.below HB.out) (Kd.C_below HA.out HB.out) HCA.out.1 (Kd.C_below HP.out HB.out) HCA.out.2 (by omega) (by omega) (small_locals HS.out.1 fn)
  go_upto_region 11 with ((with_reducible refine hst.mono ?_); rintro e w8 ⟨vf, rfl, hG, hb8⟩; have HG := Aside0.mk hG; obtain ⟨mp, mpc, ml, mlc, ms, msc, mk, mkc, rfl, _, _, _, _⟩ := hG; have HBN := Aside0.mk hb8)
  clear hst qc qz hb8
  refine nameW ?_
  intro w9 hw9
  obtain ⟨bg, hbg, hszg⟩ := one_box hw9
  clear hw9
  have hst := below_step HBN.out hbg
  replace BC := Aside0.mk (blk_below BC.out hst)
  replace BZ := Aside0.mk (blk_below BZ.out hst)
  replace HB := Aside0.mk (below_step HB.out hst)
  replace HF := Aside0.mk (HF.out.below hst)
  replace BF := Aside0.mk (blk_below BF.out hst)
  replace HG := Aside0.mk (HG.out.below hbg)
  have BG := Aside0.mk bg
  clear hst bg hbg hszg HBN
  generalize w8.heap.size = kg at *
  have qz := blk_cells BZ.out
  go_upto_region 12 with (fail)
  refine nameW ?_
  intro wa hwa
  obtain ⟨bo, hst, hszo⟩ := one_box hwa
  clear hwa qz
  replace BZ := Aside0.mk (blk_below BZ.out hst)
  replace HB := Aside0.mk (below_step HB.out hst)
  replace HF := Aside0.mk (HF.out.below hst)
  replace BF := Aside0.mk (blk_below BF.out hst)
  replace HG := Aside0.mk (HG.out.below hst)
  replace BG := Aside0.mk (blk_below BG.out hst)
  have BO := Aside0.mk bo
  clear hst bo hszo
  generalize w9.heap.size = ko at *
  have qz := blk_cells BZ.out
  go_upto_region 13 with (fail)
  refine nameW ?_
  intro wb hwb
  obtain ⟨bp, hst, hszo⟩ := one_box hwb
  clear hwb qz
  replace BZ := Aside0.mk (blk_below BZ.out hst)
  replace HB := Aside0.mk (below_step HB.out hst)
  replace HF := Aside0.mk (HF.out.below hst)
  replace BF := Aside0.mk (blk_below BF.out hst)
  replace HG := Aside0.mk (HG.out.below hst)
  replace BG := Aside0.mk (blk_below BG.out hst)
  replace BO := Aside0.mk (blk_below BO.out hst)
  have BP := Aside0.mk bp
  clear hst bp hszo
  generalize wa.heap.size = kp at *
  have qp := blk_cells BP.out
  have hch : Calls Tryd.prog 14 #[.agg #[.int .i64 0, .slice Ap path.length cp, .int .i64 0, .int .i64 0, .slice none 0 0, .slice none 0 0, .slice none 0 0, .int .i64 z1, .int .i64 0, .bool false]] wb (Row1 (path ++ [z1]) wb) :=
    child_call ⟨0, path, 0, 0, [], [], [], z1, 0, false⟩ _ wb ⟨Ap, cp, none, 0, none, 0, none, 0, rfl, ⟨HCA.out.2, Kd.C_below HP.out HB.out⟩, ⟨Nat.le_refl 0, Kd.C_nil _ _⟩, ⟨Nat.le_refl 0, Kd.C_nil _ _⟩, ⟨Nat.le_refl 0, Kd.C_nil _ _⟩⟩ (by show path.length < _; omega)
  go_upto_region 14 with ((with_reducible refine hch.mono ?_); rintro e wc ⟨vl, rfl, hL, hst⟩; obtain ⟨La, lc, rfl, hL1, hL2⟩ := Kd.R_reads hL; have HST := Aside0.mk hst; generalize hn : (path ++ [z1]).length = n at *; have hnI : (n : Int) = (path.length : Int) + 1 := (by rw [← hn]; simp); have HL := Aside0.mk hL2; clear hn)
  clear hch qp hL hL2 hst
  replace BZ := Aside0.mk (blk_below BZ.out HST.out)
  replace HB := Aside0.mk (below_step HB.out HST.out)
  replace HF := Aside0.mk (HF.out.below HST.out)
  replace BF := Aside0.mk (blk_below BF.out HST.out)
  replace HG := Aside0.mk (HG.out.below HST.out)
  replace BG := Aside0.mk (blk_below BG.out HST.out)
  replace BO := Aside0.mk (blk_below BO.out HST.out)
  clear BP HST
  obtain ⟨ad, rfl, hl⟩ := Kd.at_int HL.out (path.length : Int) (by omega) (by omega)
  have hlz : rd (path ++ [z1]) (path.length : Int) = z1 := by simp [rd]
  rw [hlz, Int.toNat_natCast] at hl
  have hz1 : wc.cell? ⟨kz, 1, none⟩ = some (.int .i64 z1) := blk_cells BZ.out 1
  have hll : (path ++ [z1]).length = path.length + 1 := by simp
  have HLL := Aside0.mk hll
  clear hlz hll
  have lp30 : (path.length : Int) ≤ 30 := by omega
  have hp0 : (0 : Int) ≤ (path.length : Int) := by omega
  have hp1 : (path.length : Int) < (n : Int) := by omega
  have hp2 : (path.length : Int) < (path.length : Int) + 1 := by omega
  have hp3 : path.length < n := by omega
  have hwr : IntKind.i64.wrap ((path.length : Int) + 1) = (path.length : Int) + 1 := IntWalk.i64_in _ (by omega)
  go_region_held3 (fun W => W.cell? (ad.add path.length) = some (.int .i64 z1) ∧ W.cell? ⟨kz, 1, none⟩ = some (.int .i64 z1)) (first | exact ⟨hl, hz1⟩ | go_keep) (first | fail "no")
  all_goals
    refine nameEnd ?_
    intro wd hwd
    have hst : Below wc.heap.size wc wd := by rw [hwd]; exact below_drew (Below.refl _ _)
    clear hwd hl hz1
    have HST := Aside0.mk hst
    replace BZ := Aside0.mk (blk_below BZ.out HST.out)
    replace HB := Aside0.mk (below_step HB.out HST.out)
    replace HF := Aside0.mk (HF.out.below HST.out)
    replace BF := Aside0.mk (blk_below BF.out HST.out)
    replace HG := Aside0.mk (HG.out.below HST.out)
    replace BG := Aside0.mk (blk_below BG.out HST.out)
    replace BO := Aside0.mk (blk_below BO.out HST.out)
    replace HL := Aside0.mk (Kd.C_below HL.out HST.out)
    clear HST hst
    go_wp2
    go_loopg [16] path.length (fun gg s16 wr => ∃ kk : Nat, kk ≤ path.length ∧ path.length - kk ≤ gg ∧ s16 = .int .i64 kk ∧ Aside0 (Below wd.heap.size wd wr))
    case atStart => exact ⟨0, Nat.zero_le _, by omega, rfl, ⟨Below.refl _ _⟩⟩
    case round =>
      obtain ⟨kk, hkk, hg, rfl, HR⟩ := hrel
      by_cases hlt : kk < path.length
      · have hltz : (kk : Int) < (path.length : Int) := by omega
        have hK0 : (0 : Int) ≤ (kk : Int) := by omega
        obtain ⟨ap, e1, hcp⟩ := Kd.at_int (Kd.C_below HP.out (below_step HB.out HR.out)) (kk : Int) hK0 hltz
        obtain ⟨al, e2, hcl⟩ := Kd.at_int (Kd.C_below HL.out HR.out) (kk : Int) hK0 (by omega)
        have hrd : rd (path ++ [z1]) (kk : Int) = rd path (kk : Int) := by simp [rd, List.getD_eq_getElem?_getD, List.getElem?_append_left hlt]
        rw [hrd] at hcl
        rw [Int.toNat_natCast] at hcp hcl
        subst e1
        injection e2 with e2
        subst e2
        have hlw : (kk : Int) < (path.length : Int) + 1 := by omega
        have hln : (kk : Int) < (n : Int) := by omega
        clear hrd
        generalize rd path (kk : Int) = x at *
        go_upto_region 19 with (fail)
        go_region_held3 (fun W => W.cell? (ap.add kk) = some (.int .i64 x) ∧ W.cell? (ad.add kk) = some (.int .i64 x)) (first | exact ⟨hcp, hcl⟩ | go_keep) (first | fail "no")
        all_goals
          refine nameEnd ?_
          intro we hwe
          have HR2 : Aside0 (Below wd.heap.size wd we) := ⟨by rw [hwe]; exact below_drew HR.out⟩
          clear hwe hcp hcl
          go_wp2
          go_roundg (path.length - (kk + 1))
          case measure => omega
          case rel => exact ⟨kk + 1, by omega, by omega, by go_num, HR2⟩
      · have hltz : ¬ (kk : Int) < (path.length : Int) := by omega
        go_upto_region 21 with (fail)
        have BF2 := Aside0.mk (blk_below BF.out HR.out)
        have BG2 := Aside0.mk (blk_below BG.out HR.out)
        have BZ2 := Aside0.mk (blk_below BZ.out HR.out)
        have BO2 := Aside0.mk (blk_below BO.out HR.out)
        have HF2 := Aside0.mk (HF.out.below HR.out)
        have HG2 := Aside0.mk (HG.out.below HR.out)
        have HB2 := Aside0.mk (below_step HB.out HR.out)
        have HSM := Aside0.mk (by have := start_small HS.out.1 fn args z0 path (by omega) (by omega); rwa [HSS.out] at this)
        clear BF BG BZ BO HF HG HB HR HL HC HA HP HT
        have keepS : ∀ W, Below wr.heap.size wr W → (Below wr.heap.size wr W ∧ (∀ i, W.cell? ⟨kf, i, none⟩ = (#[.int .i64 S.1.task, .slice fp S.1.path.length fpc, .int .i64 S.1.fn, .int .i64 S.1.pc, .slice fl S.1.loc.length flc, .slice fs S.1.stk.length fsc, .slice fk S.1.kids.length fkc, .int .i64 S.1.many, .int .i64 S.1.spent, .bool S.1.fail] : Array Value)[i]?) ∧ (∀ i, W.cell? ⟨kg, i, none⟩ = (#[.int .i64 S.1.task, .slice mp S.1.path.length mpc, .int .i64 S.1.fn, .int .i64 S.1.pc, .slice ml S.1.loc.length mlc, .slice ms S.1.stk.length msc, .slice mk S.1.kids.length mkc, .int .i64 S.1.many, .int .i64 S.1.spent, .bool S.1.fail] : Array Value)[i]?) ∧ (∀ i, W.cell? ⟨kz, i, none⟩ = (#[.int .i64 z0, .int .i64 z1] : Array Value)[i]?) ∧ (∀ i, W.cell? ⟨ko, i, none⟩ = (#[.int .i64 z1, .int .i64 0, .int .i64 0, .int .i64 0] : Array Value)[i]?)) := fun W h => ⟨h, blk_cells (blk_below BF2.out h), blk_cells (blk_below BG2.out h), blk_cells (blk_below BZ2.out h), blk_cells (blk_below BO2.out h)⟩
        have hsame : ∀ W, Below wr.heap.size wr W → Calls Tryd.prog 15 #[.agg #[.int .i64 S.1.task, .slice fp S.1.path.length fpc, .int .i64 S.1.fn, .int .i64 S.1.pc, .slice fl S.1.loc.length flc, .slice fs S.1.stk.length fsc, .slice fk S.1.kids.length fkc, .int .i64 S.1.many, .int .i64 S.1.spent, .bool S.1.fail], .agg #[.int .i64 S.1.task, .slice mp S.1.path.length mpc, .int .i64 S.1.fn, .int .i64 S.1.pc, .slice ml S.1.loc.length mlc, .slice ms S.1.stk.length msc, .slice mk S.1.kids.length mkc, .int .i64 S.1.many, .int .i64 S.1.spent, .bool S.1.fail]] W (fun e w' => e = .returned (.bool true) ∧ Below wr.heap.size wr w') := fun W h => (same_call (HF2.out.below h) (HG2.out.below h) HSM.out.1 HSM.out.2.1 HSM.out.2.2.1 HSM.out.2.2.2).mono fun e w' q => ⟨q.1, below_step h q.2⟩
        have hkey : ∀ W, Below wr.heap.size wr W → Calls Tryd.prog 16 #[.int .i64 z0] W (fun e w' => e = .returned (.int .i64 (keyI z0)) ∧ Below wr.heap.size wr w') := fun W h => (key_call z0 W HZ.out.1.1 HZ.out.1.2).mono fun e w' q => ⟨q.1, by rw [q.2]; exact h⟩
        have hrkey : ∀ W, Below wr.heap.size wr W → Calls Tryd.prog 17 #[.int .i64 z0] W (fun e w' => e = .returned (.int .i64 (keyI z0)) ∧ Below wr.heap.size wr w') := fun W h => (refkey_call z0 W HZ.out.1.1 HZ.out.1.2).mono fun e w' q => ⟨q.1, below_step h q.2.below⟩
        have hval : ∀ (b : Bool) W, Below wr.heap.size wr W → Calls Tryd.prog 18 #[.agg #[.int .i64 z1, .int .i64 0, .int .i64 0, .int .i64 0], .int .i64 z0, .bool b] W (fun e w' => e = .returned (.int .i64 (valI z1 z0 b)) ∧ Below wr.heap.size wr w') := fun b W h => (value_call z1 0 0 0 z0 b W HZ.out.1.1 HZ.out.1.2).mono fun e w' q => ⟨q.1, below_step h q.2⟩
        have hrval : ∀ (b : Bool) W, Below wr.heap.size wr W → Calls Tryd.prog 19 #[.agg #[.int .i64 z1, .int .i64 0, .int .i64 0, .int .i64 0], .int .i64 z0, .bool b] W (fun e w' => e = .returned (.int .i64 (valI z1 z0 b)) ∧ Below wr.heap.size wr w') := fun b W h => (refvalue_call z1 0 0 0 z0 b W HZ.out.1.1 HZ.out.1.2).mono fun e w' q => ⟨q.1, below_step h q.2⟩
        have hb0 : Below wr.heap.size wr wr.drew := below_drew (Below.refl _ _)
        generalize keyI z0 = ky at *
        skip
        go_region_held3 (fun W => (Below wr.heap.size wr W ∧ (∀ i, W.cell? ⟨kf, i, none⟩ = (#[.int .i64 S.1.task, .slice fp S.1.path.length fpc, .int .i64 S.1.fn, .int .i64 S.1.pc, .slice fl S.1.loc.length flc, .slice fs S.1.stk.length fsc, .slice fk S.1.kids.length fkc, .int .i64 S.1.many, .int .i64 S.1.spent, .bool S.1.fail] : Array Value)[i]?) ∧ (∀ i, W.cell? ⟨kg, i, none⟩ = (#[.int .i64 S.1.task, .slice mp S.1.path.length mpc, .int .i64 S.1.fn, .int .i64 S.1.pc, .slice ml S.1.loc.length mlc, .slice ms S.1.stk.length msc, .slice mk S.1.kids.length mkc, .int .i64 S.1.many, .int .i64 S.1.spent, .bool S.1.fail] : Array Value)[i]?) ∧ (∀ i, W.cell? ⟨kz, i, none⟩ = (#[.int .i64 z0, .int .i64 z1] : Array Value)[i]?) ∧ (∀ i, W.cell? ⟨ko, i, none⟩ = (#[.int .i64 z1, .int .i64 0, .int .i64 0, .int .i64 0] : Array Value)[i]?))) (first | exact keepS _ hbX | exact keepS _ hb0 | assumption)
          (first
            | ((with_reducible refine (hsame _ (by first | exact hbX | exact hb0)).mono ?_); rintro e wx ⟨rfl, hbX⟩)
            | ((with_reducible refine (hkey _ (by first | exact hbX | exact hb0)).mono ?_); rintro e wx ⟨rfl, hbX⟩)
            | ((with_reducible refine (hrkey _ (by first | exact hbX | exact hb0)).mono ?_); rintro e wx ⟨rfl, hbX⟩)
            | ((with_reducible refine (hval _ _ (by first | exact hbX | exact hb0)).mono ?_); rintro e wx ⟨rfl, hbX⟩)
            | ((with_reducible refine (hrval _ _ (by first | exact hbX | exact hb0)).mono ?_); rintro e wx ⟨rfl, hbX⟩)
            | fail "no")
        all_goals
          have HE := Aside0.mk (below_step HB2.out hbX)
          go_wp2
          go_ret
          exact ⟨rfl, HE.out⟩

end Go.Proofs.YtfcgjadfhojogaaDoor.Vm
