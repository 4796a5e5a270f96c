/- VmReckons: the walk. -/
import Derived.Test.YtfcgjadfhojogaaDoorVmW
namespace Go.Proofs.YtfcgjadfhojogaaDoor.Vm
open Go.RowKit Go.Proofs.YtfcgjadfhojogaaDoorW.PrintWords Go.Proofs.YtfcgjadfhojogaaDoorW.PrintLast Go.Proofs.YtfcgjadfhojogaaDoorW.PrintMore Go.Proofs.YtfcgjadfhojogaaDoor.PVmStarts
set_option linter.unusedVariables false
set_option linter.unusedSimpArgs false

set_option maxHeartbeats 40000000 in
set_option maxRecDepth 100000 in
theorem reck2_lt (a b op : Int) (w : World) (ht : Table w) (ha0 : 0 ≤ a) (ha1 : a < 4294967296) (hb0 : 0 ≤ b) (hbb : b < 4294967296) (ho0 : 0 ≤ op) (ho1 : op < 256) (hk : op.tmod 6 = 2) (d1 : decide (a < b) = true) (d2 : (a == b) = false) :
    Calls Tryd.prog 6 #[.int .u32 a, .int .u32 b, .int .u8 op] w (Bool1 true w) := by
  have HT := Aside0.mk ht
  have hsh := shown_call w ht
  have HV : Aside0 (isV a = true ∧ isV b = true) := ⟨by rw [isV_iff]; exact ⟨ha0, ha1⟩, by rw [isV_iff]; exact ⟨hb0, hbb⟩⟩
  have hval : reckR 8 a b = a * b % 4294967296 := by simp only [reckR]; rfl
  have HR := Aside0.mk hval
  clear ht hval
  go_enter Tryd.func6, Tryd.ntmps6
  go_upto_region 3 with ((with_reducible refine hsh.mono ?_); rintro e w1 ⟨rfl, hb1⟩)
  refine nameW ?_
  intro w2 hw2
  obtain ⟨b2, hb2, hsz2⟩ := one_box hw2
  clear hw2 hsh
  have HB2 := Aside0.mk (below_step hb1 hb2)
  have BO := Aside0.mk b2
  clear b2 hb2 hb1 hsz2
  generalize w1.heap.size = bo at *
  go_upto_region 11 with (fail)
  refine nameW ?_
  intro w3 hw3
  obtain ⟨b3, hb3, hsz3⟩ := one_box hw3
  clear hw3
  have HB3 := Aside0.mk (below_step HB2.out hb3)
  have BO3 := Aside0.mk (blk_below BO.out hb3)
  have BW3 := Aside0.mk b3
  have qo := blk_cells BO3.out
  clear b3 hb3 hsz3
  generalize w2.heap.size = bw at *
  have hpl : Calls Tryd.prog 24 #[.slice (some ⟨w3.heap.size, 0, none⟩) 5 5, .int .i64 0] (w3.alloc (.cells #[.int .i64 1, .int .i64 a, .int .i64 0, .int .i64 0, .int .i64 1, .int .i64 b, .int .i64 0, .int .i64 0, .int .i64 8, .int .i64 0, .int .i64 0, .int .i64 0, .int .i64 5, .int .i64 1, .int .i64 0, .int .i64 0, .int .i64 17, .int .i64 0, .int .i64 0, .int .i64 0] 53)) (Coded (plainC (reckL 8 a b) 0) w3) :=
    lit_plain w3 (reckL 8 a b) 0 5 _ rfl rfl (by simp [reckL])
  go_upto_region 12 with ((with_reducible refine hpl.mono ?_); rintro e w4 ⟨vc, rfl, hC, hb4⟩; have HC := Aside0.mk hC; obtain ⟨cf, cfc, cc, ccc, rfl, _, _, _, _⟩ := hC; have HB4 := Aside0.mk hb4)
  refine nameW ?_
  intro w5 hw5
  obtain ⟨b5, hb5, hsz5⟩ := one_box hw5
  clear hw5 hpl hb4 qo
  have HS5 := Aside0.mk (below_step HB4.out hb5)
  have HC5 := Aside0.mk (HC.out.below hb5)
  have HB5 := Aside0.mk (below_step HB3.out HS5.out)
  have BW5 := Aside0.mk (blk_below BW3.out HS5.out)
  have q5 := blk_cells b5
  have B5 := Aside0.mk b5
  generalize w4.heap.size = bc at *
  have hst : Calls Tryd.prog 12 #[.agg #[.slice cf (plainC (reckL 8 a b) 0).funs.length cfc, .slice cc (plainC (reckL 8 a b) 0).cells.length ccc, .int .i64 (plainC (reckL 8 a b) 0).maps, .int .i64 (plainC (reckL 8 a b) 0).stacks, .int .i64 (plainC (reckL 8 a b) 0).chans, .int .i64 (plainC (reckL 8 a b) 0).main], .int .i64 0, .slice none 0 0, .int .i64 3, .slice none 0 0] w5 (Framed (reckF 3 0 0 [], 0) w5) := by
    have := start_call (plainC (reckL 8 a b) 0) _ 0 none 0 [] 3 none 0 [] w5 HC5.out (Kd.C_nil _ _) (Kd.C_nil _ _) (by decide) (fun _ _ => (show (0 : Int) < 1000000 by decide))
    rw [reck_start] at this
    exact this
  clear b5 hb5 hsz5
  go_upto_region 13 with ((with_reducible refine hst.mono ?_); rintro e w6 ⟨vf, rfl, hF, hb6⟩; have HF := Aside0.mk hF; obtain ⟨fp, fpc, fl, flc, fs, fsc, fk, fkc, rfl, _, _, _, _⟩ := hF; have HB6 := Aside0.mk hb6)
  refine nameW ?_
  intro w7 hw7
  obtain ⟨b7, hb7, hsz7⟩ := one_box hw7
  clear hw7 hst hsz7 q5
  have HS7 := Aside0.mk (below_step HB6.out hb7)
  have HC7 := Aside0.mk (HC5.out.below HS7.out)
  have HF7 := Aside0.mk (HF.out.below hb7)
  have HB7 := Aside0.mk (below_step HB5.out HS7.out)
  have BC7 := Aside0.mk (blk_below B5.out HS7.out)
  have BW7 := Aside0.mk (blk_below BW5.out HS7.out)
  have q3 := blk_cells BC7.out
  have q5 := blk_cells b7
  have hn1 : Calls Tryd.prog 21 #[.agg #[.slice cf (plainC (reckL 8 a b) 0).funs.length cfc, .slice cc (plainC (reckL 8 a b) 0).cells.length ccc, .int .i64 (plainC (reckL 8 a b) 0).maps, .int .i64 (plainC (reckL 8 a b) 0).stacks, .int .i64 (plainC (reckL 8 a b) 0).chans, .int .i64 (plainC (reckL 8 a b) 0).main], .agg #[.int .i64 (reckF 3 0 0 []).task, .slice fp (reckF 3 0 0 []).path.length fpc, .int .i64 (reckF 3 0 0 []).fn, .int .i64 (reckF 3 0 0 []).pc, .slice fl (reckF 3 0 0 []).loc.length flc, .slice fs (reckF 3 0 0 []).stk.length fsc, .slice fk (reckF 3 0 0 []).kids.length fkc, .int .i64 (reckF 3 0 0 []).many, .int .i64 (reckF 3 0 0 []).spent, .bool (reckF 3 0 0 []).fail]] w7 (Said (reckF 3 4 4 []) { noAk with kind := 2, a := 1, b := a * b % 4294967296 } 0 w7) := by
    have := next_call (plainC (reckL 8 a b) 0) (reckF 3 0 0 []) _ _ w7 HC7.out HF7.out (HT.out.below HB7.out) (by decide)
    rw [if_pos (reck_right _ _ _), reck_next _ _ _ _ HV.out.1 HV.out.2 (by decide) HR.out] at this
    exact this
  generalize w6.heap.size = bf at *
  clear b7 hb7 hb6
  go_upto_region 14 with ((with_reducible refine hn1.mono ?_); rintro e w8 ⟨vg, vk, rfl, hG, hK, hb8⟩; obtain ⟨gp, gpc, gl, glc, gs, gsc, gk, gkc, rfl, _, _, _, _⟩ := hG; obtain ⟨Aa, ca, rfl, _, _⟩ := hK; have HB8 := Aside0.mk hb8)
  refine nameW ?_
  intro w9 hw9
  obtain ⟨b9, ba9, hb9, hsz9⟩ := two_boxes hw9
  clear hw9 hn1 hsz9 q3 q5
  have HB9 := Aside0.mk (below_step HB7.out (below_step HB8.out hb9))
  have BW9 := blk_below BW7.out (below_step HB8.out hb9)
  generalize w8.heap.size + 1 = ba at *
  generalize w8.heap.size = bg at *
  have r8 : w9.cell? ⟨bg, 8, none⟩ = some (.int .i64 4) := blk_cells b9 8
  have r3 : w9.cell? ⟨bg, 3, none⟩ = some (.int .i64 4) := blk_cells b9 3
  have r0 : w9.cell? ⟨ba, 0, none⟩ = some (.int .i64 2) := blk_cells ba9 0
  have r1 : w9.cell? ⟨ba, 1, none⟩ = some (.int .i64 1) := blk_cells ba9 1
  have r2 : w9.cell? ⟨ba, 2, none⟩ = some (.int .i64 (a * b % 4294967296)) := blk_cells ba9 2
  have rw : w9.cell? ⟨bw, 2, none⟩ = some (.int .i64 (a * b % 4294967296)) := blk_cells BW9 2
  clear b9 ba9 BW9 hb9 hb8
  go_region
  go_wp2
  go_ret
  exact ⟨rfl, below_drew HB9.out⟩
set_option maxHeartbeats 40000000 in
set_option maxRecDepth 100000 in
theorem reck2_eq (a b op : Int) (w : World) (ht : Table w) (ha0 : 0 ≤ a) (ha1 : a < 4294967296) (hb0 : 0 ≤ b) (hbb : b < 4294967296) (ho0 : 0 ≤ op) (ho1 : op < 256) (hk : op.tmod 6 = 2) (d1 : decide (a < b) = false) (d2 : (a == b) = true) :
    Calls Tryd.prog 6 #[.int .u32 a, .int .u32 b, .int .u8 op] w (Bool1 true w) := by
  have HT := Aside0.mk ht
  have hsh := shown_call w ht
  have HV : Aside0 (isV a = true ∧ isV b = true) := ⟨by rw [isV_iff]; exact ⟨ha0, ha1⟩, by rw [isV_iff]; exact ⟨hb0, hbb⟩⟩
  have hval : reckR 8 a b = a * b % 4294967296 := by simp only [reckR]; rfl
  have HR := Aside0.mk hval
  clear ht hval
  go_enter Tryd.func6, Tryd.ntmps6
  go_upto_region 3 with ((with_reducible refine hsh.mono ?_); rintro e w1 ⟨rfl, hb1⟩)
  refine nameW ?_
  intro w2 hw2
  obtain ⟨b2, hb2, hsz2⟩ := one_box hw2
  clear hw2 hsh
  have HB2 := Aside0.mk (below_step hb1 hb2)
  have BO := Aside0.mk b2
  clear b2 hb2 hb1 hsz2
  generalize w1.heap.size = bo at *
  go_upto_region 11 with (fail)
  refine nameW ?_
  intro w3 hw3
  obtain ⟨b3, hb3, hsz3⟩ := one_box hw3
  clear hw3
  have HB3 := Aside0.mk (below_step HB2.out hb3)
  have BO3 := Aside0.mk (blk_below BO.out hb3)
  have BW3 := Aside0.mk b3
  have qo := blk_cells BO3.out
  clear b3 hb3 hsz3
  generalize w2.heap.size = bw at *
  have hpl : Calls Tryd.prog 24 #[.slice (some ⟨w3.heap.size, 0, none⟩) 5 5, .int .i64 0] (w3.alloc (.cells #[.int .i64 1, .int .i64 a, .int .i64 0, .int .i64 0, .int .i64 1, .int .i64 b, .int .i64 0, .int .i64 0, .int .i64 8, .int .i64 0, .int .i64 0, .int .i64 0, .int .i64 5, .int .i64 1, .int .i64 0, .int .i64 0, .int .i64 17, .int .i64 0, .int .i64 0, .int .i64 0] 53)) (Coded (plainC (reckL 8 a b) 0) w3) :=
    lit_plain w3 (reckL 8 a b) 0 5 _ rfl rfl (by simp [reckL])
  go_upto_region 12 with ((with_reducible refine hpl.mono ?_); rintro e w4 ⟨vc, rfl, hC, hb4⟩; have HC := Aside0.mk hC; obtain ⟨cf, cfc, cc, ccc, rfl, _, _, _, _⟩ := hC; have HB4 := Aside0.mk hb4)
  refine nameW ?_
  intro w5 hw5
  obtain ⟨b5, hb5, hsz5⟩ := one_box hw5
  clear hw5 hpl hb4 qo
  have HS5 := Aside0.mk (below_step HB4.out hb5)
  have HC5 := Aside0.mk (HC.out.below hb5)
  have HB5 := Aside0.mk (below_step HB3.out HS5.out)
  have BW5 := Aside0.mk (blk_below BW3.out HS5.out)
  have q5 := blk_cells b5
  have B5 := Aside0.mk b5
  generalize w4.heap.size = bc at *
  have hst : Calls Tryd.prog 12 #[.agg #[.slice cf (plainC (reckL 8 a b) 0).funs.length cfc, .slice cc (plainC (reckL 8 a b) 0).cells.length ccc, .int .i64 (plainC (reckL 8 a b) 0).maps, .int .i64 (plainC (reckL 8 a b) 0).stacks, .int .i64 (plainC (reckL 8 a b) 0).chans, .int .i64 (plainC (reckL 8 a b) 0).main], .int .i64 0, .slice none 0 0, .int .i64 3, .slice none 0 0] w5 (Framed (reckF 3 0 0 [], 0) w5) := by
    have := start_call (plainC (reckL 8 a b) 0) _ 0 none 0 [] 3 none 0 [] w5 HC5.out (Kd.C_nil _ _) (Kd.C_nil _ _) (by decide) (fun _ _ => (show (0 : Int) < 1000000 by decide))
    rw [reck_start] at this
    exact this
  clear b5 hb5 hsz5
  go_upto_region 13 with ((with_reducible refine hst.mono ?_); rintro e w6 ⟨vf, rfl, hF, hb6⟩; have HF := Aside0.mk hF; obtain ⟨fp, fpc, fl, flc, fs, fsc, fk, fkc, rfl, _, _, _, _⟩ := hF; have HB6 := Aside0.mk hb6)
  refine nameW ?_
  intro w7 hw7
  obtain ⟨b7, hb7, hsz7⟩ := one_box hw7
  clear hw7 hst hsz7 q5
  have HS7 := Aside0.mk (below_step HB6.out hb7)
  have HC7 := Aside0.mk (HC5.out.below HS7.out)
  have HF7 := Aside0.mk (HF.out.below hb7)
  have HB7 := Aside0.mk (below_step HB5.out HS7.out)
  have BC7 := Aside0.mk (blk_below B5.out HS7.out)
  have BW7 := Aside0.mk (blk_below BW5.out HS7.out)
  have q3 := blk_cells BC7.out
  have q5 := blk_cells b7
  have hn1 : Calls Tryd.prog 21 #[.agg #[.slice cf (plainC (reckL 8 a b) 0).funs.length cfc, .slice cc (plainC (reckL 8 a b) 0).cells.length ccc, .int .i64 (plainC (reckL 8 a b) 0).maps, .int .i64 (plainC (reckL 8 a b) 0).stacks, .int .i64 (plainC (reckL 8 a b) 0).chans, .int .i64 (plainC (reckL 8 a b) 0).main], .agg #[.int .i64 (reckF 3 0 0 []).task, .slice fp (reckF 3 0 0 []).path.length fpc, .int .i64 (reckF 3 0 0 []).fn, .int .i64 (reckF 3 0 0 []).pc, .slice fl (reckF 3 0 0 []).loc.length flc, .slice fs (reckF 3 0 0 []).stk.length fsc, .slice fk (reckF 3 0 0 []).kids.length fkc, .int .i64 (reckF 3 0 0 []).many, .int .i64 (reckF 3 0 0 []).spent, .bool (reckF 3 0 0 []).fail]] w7 (Said (reckF 3 4 4 []) { noAk with kind := 2, a := 1, b := a * b % 4294967296 } 0 w7) := by
    have := next_call (plainC (reckL 8 a b) 0) (reckF 3 0 0 []) _ _ w7 HC7.out HF7.out (HT.out.below HB7.out) (by decide)
    rw [if_pos (reck_right _ _ _), reck_next _ _ _ _ HV.out.1 HV.out.2 (by decide) HR.out] at this
    exact this
  generalize w6.heap.size = bf at *
  clear b7 hb7 hb6
  go_upto_region 14 with ((with_reducible refine hn1.mono ?_); rintro e w8 ⟨vg, vk, rfl, hG, hK, hb8⟩; obtain ⟨gp, gpc, gl, glc, gs, gsc, gk, gkc, rfl, _, _, _, _⟩ := hG; obtain ⟨Aa, ca, rfl, _, _⟩ := hK; have HB8 := Aside0.mk hb8)
  refine nameW ?_
  intro w9 hw9
  obtain ⟨b9, ba9, hb9, hsz9⟩ := two_boxes hw9
  clear hw9 hn1 hsz9 q3 q5
  have HB9 := Aside0.mk (below_step HB7.out (below_step HB8.out hb9))
  have BW9 := blk_below BW7.out (below_step HB8.out hb9)
  generalize w8.heap.size + 1 = ba at *
  generalize w8.heap.size = bg at *
  have r8 : w9.cell? ⟨bg, 8, none⟩ = some (.int .i64 4) := blk_cells b9 8
  have r3 : w9.cell? ⟨bg, 3, none⟩ = some (.int .i64 4) := blk_cells b9 3
  have r0 : w9.cell? ⟨ba, 0, none⟩ = some (.int .i64 2) := blk_cells ba9 0
  have r1 : w9.cell? ⟨ba, 1, none⟩ = some (.int .i64 1) := blk_cells ba9 1
  have r2 : w9.cell? ⟨ba, 2, none⟩ = some (.int .i64 (a * b % 4294967296)) := blk_cells ba9 2
  have rw : w9.cell? ⟨bw, 2, none⟩ = some (.int .i64 (a * b % 4294967296)) := blk_cells BW9 2
  clear b9 ba9 BW9 hb9 hb8
  go_region
  go_wp2
  go_ret
  exact ⟨rfl, below_drew HB9.out⟩
set_option maxHeartbeats 40000000 in
set_option maxRecDepth 100000 in
theorem reck2_gt (a b op : Int) (w : World) (ht : Table w) (ha0 : 0 ≤ a) (ha1 : a < 4294967296) (hb0 : 0 ≤ b) (hbb : b < 4294967296) (ho0 : 0 ≤ op) (ho1 : op < 256) (hk : op.tmod 6 = 2) (d1 : decide (a < b) = false) (d2 : (a == b) = false) :
    Calls Tryd.prog 6 #[.int .u32 a, .int .u32 b, .int .u8 op] w (Bool1 true w) := by
  have HT := Aside0.mk ht
  have hsh := shown_call w ht
  have HV : Aside0 (isV a = true ∧ isV b = true) := ⟨by rw [isV_iff]; exact ⟨ha0, ha1⟩, by rw [isV_iff]; exact ⟨hb0, hbb⟩⟩
  have hval : reckR 8 a b = a * b % 4294967296 := by simp only [reckR]; rfl
  have HR := Aside0.mk hval
  clear ht hval
  go_enter Tryd.func6, Tryd.ntmps6
  go_upto_region 3 with ((with_reducible refine hsh.mono ?_); rintro e w1 ⟨rfl, hb1⟩)
  refine nameW ?_
  intro w2 hw2
  obtain ⟨b2, hb2, hsz2⟩ := one_box hw2
  clear hw2 hsh
  have HB2 := Aside0.mk (below_step hb1 hb2)
  have BO := Aside0.mk b2
  clear b2 hb2 hb1 hsz2
  generalize w1.heap.size = bo at *
  go_upto_region 11 with (fail)
  refine nameW ?_
  intro w3 hw3
  obtain ⟨b3, hb3, hsz3⟩ := one_box hw3
  clear hw3
  have HB3 := Aside0.mk (below_step HB2.out hb3)
  have BO3 := Aside0.mk (blk_below BO.out hb3)
  have BW3 := Aside0.mk b3
  have qo := blk_cells BO3.out
  clear b3 hb3 hsz3
  generalize w2.heap.size = bw at *
  have hpl : Calls Tryd.prog 24 #[.slice (some ⟨w3.heap.size, 0, none⟩) 5 5, .int .i64 0] (w3.alloc (.cells #[.int .i64 1, .int .i64 a, .int .i64 0, .int .i64 0, .int .i64 1, .int .i64 b, .int .i64 0, .int .i64 0, .int .i64 8, .int .i64 0, .int .i64 0, .int .i64 0, .int .i64 5, .int .i64 1, .int .i64 0, .int .i64 0, .int .i64 17, .int .i64 0, .int .i64 0, .int .i64 0] 53)) (Coded (plainC (reckL 8 a b) 0) w3) :=
    lit_plain w3 (reckL 8 a b) 0 5 _ rfl rfl (by simp [reckL])
  go_upto_region 12 with ((with_reducible refine hpl.mono ?_); rintro e w4 ⟨vc, rfl, hC, hb4⟩; have HC := Aside0.mk hC; obtain ⟨cf, cfc, cc, ccc, rfl, _, _, _, _⟩ := hC; have HB4 := Aside0.mk hb4)
  refine nameW ?_
  intro w5 hw5
  obtain ⟨b5, hb5, hsz5⟩ := one_box hw5
  clear hw5 hpl hb4 qo
  have HS5 := Aside0.mk (below_step HB4.out hb5)
  have HC5 := Aside0.mk (HC.out.below hb5)
  have HB5 := Aside0.mk (below_step HB3.out HS5.out)
  have BW5 := Aside0.mk (blk_below BW3.out HS5.out)
  have q5 := blk_cells b5
  have B5 := Aside0.mk b5
  generalize w4.heap.size = bc at *
  have hst : Calls Tryd.prog 12 #[.agg #[.slice cf (plainC (reckL 8 a b) 0).funs.length cfc, .slice cc (plainC (reckL 8 a b) 0).cells.length ccc, .int .i64 (plainC (reckL 8 a b) 0).maps, .int .i64 (plainC (reckL 8 a b) 0).stacks, .int .i64 (plainC (reckL 8 a b) 0).chans, .int .i64 (plainC (reckL 8 a b) 0).main], .int .i64 0, .slice none 0 0, .int .i64 3, .slice none 0 0] w5 (Framed (reckF 3 0 0 [], 0) w5) := by
    have := start_call (plainC (reckL 8 a b) 0) _ 0 none 0 [] 3 none 0 [] w5 HC5.out (Kd.C_nil _ _) (Kd.C_nil _ _) (by decide) (fun _ _ => (show (0 : Int) < 1000000 by decide))
    rw [reck_start] at this
    exact this
  clear b5 hb5 hsz5
  go_upto_region 13 with ((with_reducible refine hst.mono ?_); rintro e w6 ⟨vf, rfl, hF, hb6⟩; have HF := Aside0.mk hF; obtain ⟨fp, fpc, fl, flc, fs, fsc, fk, fkc, rfl, _, _, _, _⟩ := hF; have HB6 := Aside0.mk hb6)
  refine nameW ?_
  intro w7 hw7
  obtain ⟨b7, hb7, hsz7⟩ := one_box hw7
  clear hw7 hst hsz7 q5
  have HS7 := Aside0.mk (below_step HB6.out hb7)
  have HC7 := Aside0.mk (HC5.out.below HS7.out)
  have HF7 := Aside0.mk (HF.out.below hb7)
  have HB7 := Aside0.mk (below_step HB5.out HS7.out)
  have BC7 := Aside0.mk (blk_below B5.out HS7.out)
  have BW7 := Aside0.mk (blk_below BW5.out HS7.out)
  have q3 := blk_cells BC7.out
  have q5 := blk_cells b7
  have hn1 : Calls Tryd.prog 21 #[.agg #[.slice cf (plainC (reckL 8 a b) 0).funs.length cfc, .slice cc (plainC (reckL 8 a b) 0).cells.length ccc, .int .i64 (plainC (reckL 8 a b) 0).maps, .int .i64 (plainC (reckL 8 a b) 0).stacks, .int .i64 (plainC (reckL 8 a b) 0).chans, .int .i64 (plainC (reckL 8 a b) 0).main], .agg #[.int .i64 (reckF 3 0 0 []).task, .slice fp (reckF 3 0 0 []).path.length fpc, .int .i64 (reckF 3 0 0 []).fn, .int .i64 (reckF 3 0 0 []).pc, .slice fl (reckF 3 0 0 []).loc.length flc, .slice fs (reckF 3 0 0 []).stk.length fsc, .slice fk (reckF 3 0 0 []).kids.length fkc, .int .i64 (reckF 3 0 0 []).many, .int .i64 (reckF 3 0 0 []).spent, .bool (reckF 3 0 0 []).fail]] w7 (Said (reckF 3 4 4 []) { noAk with kind := 2, a := 1, b := a * b % 4294967296 } 0 w7) := by
    have := next_call (plainC (reckL 8 a b) 0) (reckF 3 0 0 []) _ _ w7 HC7.out HF7.out (HT.out.below HB7.out) (by decide)
    rw [if_pos (reck_right _ _ _), reck_next _ _ _ _ HV.out.1 HV.out.2 (by decide) HR.out] at this
    exact this
  generalize w6.heap.size = bf at *
  clear b7 hb7 hb6
  go_upto_region 14 with ((with_reducible refine hn1.mono ?_); rintro e w8 ⟨vg, vk, rfl, hG, hK, hb8⟩; obtain ⟨gp, gpc, gl, glc, gs, gsc, gk, gkc, rfl, _, _, _, _⟩ := hG; obtain ⟨Aa, ca, rfl, _, _⟩ := hK; have HB8 := Aside0.mk hb8)
  refine nameW ?_
  intro w9 hw9
  obtain ⟨b9, ba9, hb9, hsz9⟩ := two_boxes hw9
  clear hw9 hn1 hsz9 q3 q5
  have HB9 := Aside0.mk (below_step HB7.out (below_step HB8.out hb9))
  have BW9 := blk_below BW7.out (below_step HB8.out hb9)
  generalize w8.heap.size + 1 = ba at *
  generalize w8.heap.size = bg at *
  have r8 : w9.cell? ⟨bg, 8, none⟩ = some (.int .i64 4) := blk_cells b9 8
  have r3 : w9.cell? ⟨bg, 3, none⟩ = some (.int .i64 4) := blk_cells b9 3
  have r0 : w9.cell? ⟨ba, 0, none⟩ = some (.int .i64 2) := blk_cells ba9 0
  have r1 : w9.cell? ⟨ba, 1, none⟩ = some (.int .i64 1) := blk_cells ba9 1
  have r2 : w9.cell? ⟨ba, 2, none⟩ = some (.int .i64 (a * b % 4294967296)) := blk_cells ba9 2
  have rw : w9.cell? ⟨bw, 2, none⟩ = some (.int .i64 (a * b % 4294967296)) := blk_cells BW9 2
  clear b9 ba9 BW9 hb9 hb8
  go_region
  go_wp2
  go_ret
  exact ⟨rfl, below_drew HB9.out⟩
set_option maxHeartbeats 40000000 in
set_option maxRecDepth 100000 in
theorem reck3_lt (a b op : Int) (w : World) (ht : Table w) (ha0 : 0 ≤ a) (ha1 : a < 4294967296) (hb0 : 0 ≤ b) (hbb : b < 4294967296) (ho0 : 0 ≤ op) (ho1 : op < 256) (hk : op.tmod 6 = 3) (d1 : decide (a < b) = true) (d2 : (a == b) = false) :
    Calls Tryd.prog 6 #[.int .u32 a, .int .u32 b, .int .u8 op] w (Bool1 true w) := by
  have HT := Aside0.mk ht
  have hsh := shown_call w ht
  have HV : Aside0 (isV a = true ∧ isV b = true) := ⟨by rw [isV_iff]; exact ⟨ha0, ha1⟩, by rw [isV_iff]; exact ⟨hb0, hbb⟩⟩
  have hval : reckR 9 a b = 1 := by simp [reckR, d1, bitI]
  have HR := Aside0.mk hval
  clear ht hval
  go_enter Tryd.func6, Tryd.ntmps6
  go_upto_region 3 with ((with_reducible refine hsh.mono ?_); rintro e w1 ⟨rfl, hb1⟩)
  refine nameW ?_
  intro w2 hw2
  obtain ⟨b2, hb2, hsz2⟩ := one_box hw2
  clear hw2 hsh
  have HB2 := Aside0.mk (below_step hb1 hb2)
  have BO := Aside0.mk b2
  clear b2 hb2 hb1 hsz2
  generalize w1.heap.size = bo at *
  go_upto_region 11 with (fail)
  refine nameW ?_
  intro w3 hw3
  obtain ⟨b3, hb3, hsz3⟩ := one_box hw3
  clear hw3
  have HB3 := Aside0.mk (below_step HB2.out hb3)
  have BO3 := Aside0.mk (blk_below BO.out hb3)
  have BW3 := Aside0.mk b3
  have qo := blk_cells BO3.out
  clear b3 hb3 hsz3
  generalize w2.heap.size = bw at *
  have hpl : Calls Tryd.prog 24 #[.slice (some ⟨w3.heap.size, 0, none⟩) 5 5, .int .i64 0] (w3.alloc (.cells #[.int .i64 1, .int .i64 a, .int .i64 0, .int .i64 0, .int .i64 1, .int .i64 b, .int .i64 0, .int .i64 0, .int .i64 9, .int .i64 0, .int .i64 0, .int .i64 0, .int .i64 5, .int .i64 1, .int .i64 0, .int .i64 0, .int .i64 17, .int .i64 0, .int .i64 0, .int .i64 0] 53)) (Coded (plainC (reckL 9 a b) 0) w3) :=
    lit_plain w3 (reckL 9 a b) 0 5 _ rfl rfl (by simp [reckL])
  go_upto_region 12 with ((with_reducible refine hpl.mono ?_); rintro e w4 ⟨vc, rfl, hC, hb4⟩; have HC := Aside0.mk hC; obtain ⟨cf, cfc, cc, ccc, rfl, _, _, _, _⟩ := hC; have HB4 := Aside0.mk hb4)
  refine nameW ?_
  intro w5 hw5
  obtain ⟨b5, hb5, hsz5⟩ := one_box hw5
  clear hw5 hpl hb4 qo
  have HS5 := Aside0.mk (below_step HB4.out hb5)
  have HC5 := Aside0.mk (HC.out.below hb5)
  have HB5 := Aside0.mk (below_step HB3.out HS5.out)
  have BW5 := Aside0.mk (blk_below BW3.out HS5.out)
  have q5 := blk_cells b5
  have B5 := Aside0.mk b5
  generalize w4.heap.size = bc at *
  have hst : Calls Tryd.prog 12 #[.agg #[.slice cf (plainC (reckL 9 a b) 0).funs.length cfc, .slice cc (plainC (reckL 9 a b) 0).cells.length ccc, .int .i64 (plainC (reckL 9 a b) 0).maps, .int .i64 (plainC (reckL 9 a b) 0).stacks, .int .i64 (plainC (reckL 9 a b) 0).chans, .int .i64 (plainC (reckL 9 a b) 0).main], .int .i64 0, .slice none 0 0, .int .i64 3, .slice none 0 0] w5 (Framed (reckF 3 0 0 [], 0) w5) := by
    have := start_call (plainC (reckL 9 a b) 0) _ 0 none 0 [] 3 none 0 [] w5 HC5.out (Kd.C_nil _ _) (Kd.C_nil _ _) (by decide) (fun _ _ => (show (0 : Int) < 1000000 by decide))
    rw [reck_start] at this
    exact this
  clear b5 hb5 hsz5
  go_upto_region 13 with ((with_reducible refine hst.mono ?_); rintro e w6 ⟨vf, rfl, hF, hb6⟩; have HF := Aside0.mk hF; obtain ⟨fp, fpc, fl, flc, fs, fsc, fk, fkc, rfl, _, _, _, _⟩ := hF; have HB6 := Aside0.mk hb6)
  refine nameW ?_
  intro w7 hw7
  obtain ⟨b7, hb7, hsz7⟩ := one_box hw7
  clear hw7 hst hsz7 q5
  have HS7 := Aside0.mk (below_step HB6.out hb7)
  have HC7 := Aside0.mk (HC5.out.below HS7.out)
  have HF7 := Aside0.mk (HF.out.below hb7)
  have HB7 := Aside0.mk (below_step HB5.out HS7.out)
  have BC7 := Aside0.mk (blk_below B5.out HS7.out)
  have BW7 := Aside0.mk (blk_below BW5.out HS7.out)
  have q3 := blk_cells BC7.out
  have q5 := blk_cells b7
  have hn1 : Calls Tryd.prog 21 #[.agg #[.slice cf (plainC (reckL 9 a b) 0).funs.length cfc, .slice cc (plainC (reckL 9 a b) 0).cells.length ccc, .int .i64 (plainC (reckL 9 a b) 0).maps, .int .i64 (plainC (reckL 9 a b) 0).stacks, .int .i64 (plainC (reckL 9 a b) 0).chans, .int .i64 (plainC (reckL 9 a b) 0).main], .agg #[.int .i64 (reckF 3 0 0 []).task, .slice fp (reckF 3 0 0 []).path.length fpc, .int .i64 (reckF 3 0 0 []).fn, .int .i64 (reckF 3 0 0 []).pc, .slice fl (reckF 3 0 0 []).loc.length flc, .slice fs (reckF 3 0 0 []).stk.length fsc, .slice fk (reckF 3 0 0 []).kids.length fkc, .int .i64 (reckF 3 0 0 []).many, .int .i64 (reckF 3 0 0 []).spent, .bool (reckF 3 0 0 []).fail]] w7 (Said (reckF 3 4 4 []) { noAk with kind := 2, a := 1, b := 1 } 0 w7) := by
    have := next_call (plainC (reckL 9 a b) 0) (reckF 3 0 0 []) _ _ w7 HC7.out HF7.out (HT.out.below HB7.out) (by decide)
    rw [if_pos (reck_right _ _ _), reck_next _ _ _ _ HV.out.1 HV.out.2 (by decide) HR.out] at this
    exact this
  generalize w6.heap.size = bf at *
  clear b7 hb7 hb6
  go_upto_region 14 with ((with_reducible refine hn1.mono ?_); rintro e w8 ⟨vg, vk, rfl, hG, hK, hb8⟩; obtain ⟨gp, gpc, gl, glc, gs, gsc, gk, gkc, rfl, _, _, _, _⟩ := hG; obtain ⟨Aa, ca, rfl, _, _⟩ := hK; have HB8 := Aside0.mk hb8)
  refine nameW ?_
  intro w9 hw9
  obtain ⟨b9, ba9, hb9, hsz9⟩ := two_boxes hw9
  clear hw9 hn1 hsz9 q3 q5
  have HB9 := Aside0.mk (below_step HB7.out (below_step HB8.out hb9))
  have BW9 := blk_below BW7.out (below_step HB8.out hb9)
  generalize w8.heap.size + 1 = ba at *
  generalize w8.heap.size = bg at *
  have r8 : w9.cell? ⟨bg, 8, none⟩ = some (.int .i64 4) := blk_cells b9 8
  have r3 : w9.cell? ⟨bg, 3, none⟩ = some (.int .i64 4) := blk_cells b9 3
  have r0 : w9.cell? ⟨ba, 0, none⟩ = some (.int .i64 2) := blk_cells ba9 0
  have r1 : w9.cell? ⟨ba, 1, none⟩ = some (.int .i64 1) := blk_cells ba9 1
  have r2 : w9.cell? ⟨ba, 2, none⟩ = some (.int .i64 (1)) := blk_cells ba9 2
  have rw : w9.cell? ⟨bw, 3, none⟩ = some (.int .i64 (1)) := blk_cells BW9 3
  clear b9 ba9 BW9 hb9 hb8
  go_region
  go_wp2
  go_ret
  exact ⟨rfl, below_drew HB9.out⟩
set_option maxHeartbeats 40000000 in
set_option maxRecDepth 100000 in
theorem reck3_eq (a b op : Int) (w : World) (ht : Table w) (ha0 : 0 ≤ a) (ha1 : a < 4294967296) (hb0 : 0 ≤ b) (hbb : b < 4294967296) (ho0 : 0 ≤ op) (ho1 : op < 256) (hk : op.tmod 6 = 3) (d1 : decide (a < b) = false) (d2 : (a == b) = true) :
    Calls Tryd.prog 6 #[.int .u32 a, .int .u32 b, .int .u8 op] w (Bool1 true w) := by
  have HT := Aside0.mk ht
  have hsh := shown_call w ht
  have HV : Aside0 (isV a = true ∧ isV b = true) := ⟨by rw [isV_iff]; exact ⟨ha0, ha1⟩, by rw [isV_iff]; exact ⟨hb0, hbb⟩⟩
  have hval : reckR 9 a b = 0 := by simp [reckR, d1, bitI]
  have HR := Aside0.mk hval
  clear ht hval
  go_enter Tryd.func6, Tryd.ntmps6
  go_upto_region 3 with ((with_reducible refine hsh.mono ?_); rintro e w1 ⟨rfl, hb1⟩)
  refine nameW ?_
  intro w2 hw2
  obtain ⟨b2, hb2, hsz2⟩ := one_box hw2
  clear hw2 hsh
  have HB2 := Aside0.mk (below_step hb1 hb2)
  have BO := Aside0.mk b2
  clear b2 hb2 hb1 hsz2
  generalize w1.heap.size = bo at *
  go_upto_region 11 with (fail)
  refine nameW ?_
  intro w3 hw3
  obtain ⟨b3, hb3, hsz3⟩ := one_box hw3
  clear hw3
  have HB3 := Aside0.mk (below_step HB2.out hb3)
  have BO3 := Aside0.mk (blk_below BO.out hb3)
  have BW3 := Aside0.mk b3
  have qo := blk_cells BO3.out
  clear b3 hb3 hsz3
  generalize w2.heap.size = bw at *
  have hpl : Calls Tryd.prog 24 #[.slice (some ⟨w3.heap.size, 0, none⟩) 5 5, .int .i64 0] (w3.alloc (.cells #[.int .i64 1, .int .i64 a, .int .i64 0, .int .i64 0, .int .i64 1, .int .i64 b, .int .i64 0, .int .i64 0, .int .i64 9, .int .i64 0, .int .i64 0, .int .i64 0, .int .i64 5, .int .i64 1, .int .i64 0, .int .i64 0, .int .i64 17, .int .i64 0, .int .i64 0, .int .i64 0] 53)) (Coded (plainC (reckL 9 a b) 0) w3) :=
    lit_plain w3 (reckL 9 a b) 0 5 _ rfl rfl (by simp [reckL])
  go_upto_region 12 with ((with_reducible refine hpl.mono ?_); rintro e w4 ⟨vc, rfl, hC, hb4⟩; have HC := Aside0.mk hC; obtain ⟨cf, cfc, cc, ccc, rfl, _, _, _, _⟩ := hC; have HB4 := Aside0.mk hb4)
  refine nameW ?_
  intro w5 hw5
  obtain ⟨b5, hb5, hsz5⟩ := one_box hw5
  clear hw5 hpl hb4 qo
  have HS5 := Aside0.mk (below_step HB4.out hb5)
  have HC5 := Aside0.mk (HC.out.below hb5)
  have HB5 := Aside0.mk (below_step HB3.out HS5.out)
  have BW5 := Aside0.mk (blk_below BW3.out HS5.out)
  have q5 := blk_cells b5
  have B5 := Aside0.mk b5
  generalize w4.heap.size = bc at *
  have hst : Calls Tryd.prog 12 #[.agg #[.slice cf (plainC (reckL 9 a b) 0).funs.length cfc, .slice cc (plainC (reckL 9 a b) 0).cells.length ccc, .int .i64 (plainC (reckL 9 a b) 0).maps, .int .i64 (plainC (reckL 9 a b) 0).stacks, .int .i64 (plainC (reckL 9 a b) 0).chans, .int .i64 (plainC (reckL 9 a b) 0).main], .int .i64 0, .slice none 0 0, .int .i64 3, .slice none 0 0] w5 (Framed (reckF 3 0 0 [], 0) w5) := by
    have := start_call (plainC (reckL 9 a b) 0) _ 0 none 0 [] 3 none 0 [] w5 HC5.out (Kd.C_nil _ _) (Kd.C_nil _ _) (by decide) (fun _ _ => (show (0 : Int) < 1000000 by decide))
    rw [reck_start] at this
    exact this
  clear b5 hb5 hsz5
  go_upto_region 13 with ((with_reducible refine hst.mono ?_); rintro e w6 ⟨vf, rfl, hF, hb6⟩; have HF := Aside0.mk hF; obtain ⟨fp, fpc, fl, flc, fs, fsc, fk, fkc, rfl, _, _, _, _⟩ := hF; have HB6 := Aside0.mk hb6)
  refine nameW ?_
  intro w7 hw7
  obtain ⟨b7, hb7, hsz7⟩ := one_box hw7
  clear hw7 hst hsz7 q5
  have HS7 := Aside0.mk (below_step HB6.out hb7)
  have HC7 := Aside0.mk (HC5.out.below HS7.out)
  have HF7 := Aside0.mk (HF.out.below hb7)
  have HB7 := Aside0.mk (below_step HB5.out HS7.out)
  have BC7 := Aside0.mk (blk_below B5.out HS7.out)
  have BW7 := Aside0.mk (blk_below BW5.out HS7.out)
  have q3 := blk_cells BC7.out
  have q5 := blk_cells b7
  have hn1 : Calls Tryd.prog 21 #[.agg #[.slice cf (plainC (reckL 9 a b) 0).funs.length cfc, .slice cc (plainC (reckL 9 a b) 0).cells.length ccc, .int .i64 (plainC (reckL 9 a b) 0).maps, .int .i64 (plainC (reckL 9 a b) 0).stacks, .int .i64 (plainC (reckL 9 a b) 0).chans, .int .i64 (plainC (reckL 9 a b) 0).main], .agg #[.int .i64 (reckF 3 0 0 []).task, .slice fp (reckF 3 0 0 []).path.length fpc, .int .i64 (reckF 3 0 0 []).fn, .int .i64 (reckF 3 0 0 []).pc, .slice fl (reckF 3 0 0 []).loc.length flc, .slice fs (reckF 3 0 0 []).stk.length fsc, .slice fk (reckF 3 0 0 []).kids.length fkc, .int .i64 (reckF 3 0 0 []).many, .int .i64 (reckF 3 0 0 []).spent, .bool (reckF 3 0 0 []).fail]] w7 (Said (reckF 3 4 4 []) { noAk with kind := 2, a := 1, b := 0 } 0 w7) := by
    have := next_call (plainC (reckL 9 a b) 0) (reckF 3 0 0 []) _ _ w7 HC7.out HF7.out (HT.out.below HB7.out) (by decide)
    rw [if_pos (reck_right _ _ _), reck_next _ _ _ _ HV.out.1 HV.out.2 (by decide) HR.out] at this
    exact this
  generalize w6.heap.size = bf at *
  clear b7 hb7 hb6
  go_upto_region 14 with ((with_reducible refine hn1.mono ?_); rintro e w8 ⟨vg, vk, rfl, hG, hK, hb8⟩; obtain ⟨gp, gpc, gl, glc, gs, gsc, gk, gkc, rfl, _, _, _, _⟩ := hG; obtain ⟨Aa, ca, rfl, _, _⟩ := hK; have HB8 := Aside0.mk hb8)
  refine nameW ?_
  intro w9 hw9
  obtain ⟨b9, ba9, hb9, hsz9⟩ := two_boxes hw9
  clear hw9 hn1 hsz9 q3 q5
  have HB9 := Aside0.mk (below_step HB7.out (below_step HB8.out hb9))
  have BW9 := blk_below BW7.out (below_step HB8.out hb9)
  generalize w8.heap.size + 1 = ba at *
  generalize w8.heap.size = bg at *
  have r8 : w9.cell? ⟨bg, 8, none⟩ = some (.int .i64 4) := blk_cells b9 8
  have r3 : w9.cell? ⟨bg, 3, none⟩ = some (.int .i64 4) := blk_cells b9 3
  have r0 : w9.cell? ⟨ba, 0, none⟩ = some (.int .i64 2) := blk_cells ba9 0
  have r1 : w9.cell? ⟨ba, 1, none⟩ = some (.int .i64 1) := blk_cells ba9 1
  have r2 : w9.cell? ⟨ba, 2, none⟩ = some (.int .i64 (0)) := blk_cells ba9 2
  have rw : w9.cell? ⟨bw, 3, none⟩ = some (.int .i64 (0)) := blk_cells BW9 3
  clear b9 ba9 BW9 hb9 hb8
  go_region
  go_wp2
  go_ret
  exact ⟨rfl, below_drew HB9.out⟩
set_option maxHeartbeats 40000000 in
set_option maxRecDepth 100000 in
theorem reck3_gt (a b op : Int) (w : World) (ht : Table w) (ha0 : 0 ≤ a) (ha1 : a < 4294967296) (hb0 : 0 ≤ b) (hbb : b < 4294967296) (ho0 : 0 ≤ op) (ho1 : op < 256) (hk : op.tmod 6 = 3) (d1 : decide (a < b) = false) (d2 : (a == b) = false) :
    Calls Tryd.prog 6 #[.int .u32 a, .int .u32 b, .int .u8 op] w (Bool1 true w) := by
  have HT := Aside0.mk ht
  have hsh := shown_call w ht
  have HV : Aside0 (isV a = true ∧ isV b = true) := ⟨by rw [isV_iff]; exact ⟨ha0, ha1⟩, by rw [isV_iff]; exact ⟨hb0, hbb⟩⟩
  have hval : reckR 9 a b = 0 := by simp [reckR, d1, bitI]
  have HR := Aside0.mk hval
  clear ht hval
  go_enter Tryd.func6, Tryd.ntmps6
  go_upto_region 3 with ((with_reducible refine hsh.mono ?_); rintro e w1 ⟨rfl, hb1⟩)
  refine nameW ?_
  intro w2 hw2
  obtain ⟨b2, hb2, hsz2⟩ := one_box hw2
  clear hw2 hsh
  have HB2 := Aside0.mk (below_step hb1 hb2)
  have BO := Aside0.mk b2
  clear b2 hb2 hb1 hsz2
  generalize w1.heap.size = bo at *
  go_upto_region 11 with (fail)
  refine nameW ?_
  intro w3 hw3
  obtain ⟨b3, hb3, hsz3⟩ := one_box hw3
  clear hw3
  have HB3 := Aside0.mk (below_step HB2.out hb3)
  have BO3 := Aside0.mk (blk_below BO.out hb3)
  have BW3 := Aside0.mk b3
  have qo := blk_cells BO3.out
  clear b3 hb3 hsz3
  generalize w2.heap.size = bw at *
  have hpl : Calls Tryd.prog 24 #[.slice (some ⟨w3.heap.size, 0, none⟩) 5 5, .int .i64 0] (w3.alloc (.cells #[.int .i64 1, .int .i64 a, .int .i64 0, .int .i64 0, .int .i64 1, .int .i64 b, .int .i64 0, .int .i64 0, .int .i64 9, .int .i64 0, .int .i64 0, .int .i64 0, .int .i64 5, .int .i64 1, .int .i64 0, .int .i64 0, .int .i64 17, .int .i64 0, .int .i64 0, .int .i64 0] 53)) (Coded (plainC (reckL 9 a b) 0) w3) :=
    lit_plain w3 (reckL 9 a b) 0 5 _ rfl rfl (by simp [reckL])
  go_upto_region 12 with ((with_reducible refine hpl.mono ?_); rintro e w4 ⟨vc, rfl, hC, hb4⟩; have HC := Aside0.mk hC; obtain ⟨cf, cfc, cc, ccc, rfl, _, _, _, _⟩ := hC; have HB4 := Aside0.mk hb4)
  refine nameW ?_
  intro w5 hw5
  obtain ⟨b5, hb5, hsz5⟩ := one_box hw5
  clear hw5 hpl hb4 qo
  have HS5 := Aside0.mk (below_step HB4.out hb5)
  have HC5 := Aside0.mk (HC.out.below hb5)
  have HB5 := Aside0.mk (below_step HB3.out HS5.out)
  have BW5 := Aside0.mk (blk_below BW3.out HS5.out)
  have q5 := blk_cells b5
  have B5 := Aside0.mk b5
  generalize w4.heap.size = bc at *
  have hst : Calls Tryd.prog 12 #[.agg #[.slice cf (plainC (reckL 9 a b) 0).funs.length cfc, .slice cc (plainC (reckL 9 a b) 0).cells.length ccc, .int .i64 (plainC (reckL 9 a b) 0).maps, .int .i64 (plainC (reckL 9 a b) 0).stacks, .int .i64 (plainC (reckL 9 a b) 0).chans, .int .i64 (plainC (reckL 9 a b) 0).main], .int .i64 0, .slice none 0 0, .int .i64 3, .slice none 0 0] w5 (Framed (reckF 3 0 0 [], 0) w5) := by
    have := start_call (plainC (reckL 9 a b) 0) _ 0 none 0 [] 3 none 0 [] w5 HC5.out (Kd.C_nil _ _) (Kd.C_nil _ _) (by decide) (fun _ _ => (show (0 : Int) < 1000000 by decide))
    rw [reck_start] at this
    exact this
  clear b5 hb5 hsz5
  go_upto_region 13 with ((with_reducible refine hst.mono ?_); rintro e w6 ⟨vf, rfl, hF, hb6⟩; have HF := Aside0.mk hF; obtain ⟨fp, fpc, fl, flc, fs, fsc, fk, fkc, rfl, _, _, _, _⟩ := hF; have HB6 := Aside0.mk hb6)
  refine nameW ?_
  intro w7 hw7
  obtain ⟨b7, hb7, hsz7⟩ := one_box hw7
  clear hw7 hst hsz7 q5
  have HS7 := Aside0.mk (below_step HB6.out hb7)
  have HC7 := Aside0.mk (HC5.out.below HS7.out)
  have HF7 := Aside0.mk (HF.out.below hb7)
  have HB7 := Aside0.mk (below_step HB5.out HS7.out)
  have BC7 := Aside0.mk (blk_below B5.out HS7.out)
  have BW7 := Aside0.mk (blk_below BW5.out HS7.out)
  have q3 := blk_cells BC7.out
  have q5 := blk_cells b7
  have hn1 : Calls Tryd.prog 21 #[.agg #[.slice cf (plainC (reckL 9 a b) 0).funs.length cfc, .slice cc (plainC (reckL 9 a b) 0).cells.length ccc, .int .i64 (plainC (reckL 9 a b) 0).maps, .int .i64 (plainC (reckL 9 a b) 0).stacks, .int .i64 (plainC (reckL 9 a b) 0).chans, .int .i64 (plainC (reckL 9 a b) 0).main], .agg #[.int .i64 (reckF 3 0 0 []).task, .slice fp (reckF 3 0 0 []).path.length fpc, .int .i64 (reckF 3 0 0 []).fn, .int .i64 (reckF 3 0 0 []).pc, .slice fl (reckF 3 0 0 []).loc.length flc, .slice fs (reckF 3 0 0 []).stk.length fsc, .slice fk (reckF 3 0 0 []).kids.length fkc, .int .i64 (reckF 3 0 0 []).many, .int .i64 (reckF 3 0 0 []).spent, .bool (reckF 3 0 0 []).fail]] w7 (Said (reckF 3 4 4 []) { noAk with kind := 2, a := 1, b := 0 } 0 w7) := by
    have := next_call (plainC (reckL 9 a b) 0) (reckF 3 0 0 []) _ _ w7 HC7.out HF7.out (HT.out.below HB7.out) (by decide)
    rw [if_pos (reck_right _ _ _), reck_next _ _ _ _ HV.out.1 HV.out.2 (by decide) HR.out] at this
    exact this
  generalize w6.heap.size = bf at *
  clear b7 hb7 hb6
  go_upto_region 14 with ((with_reducible refine hn1.mono ?_); rintro e w8 ⟨vg, vk, rfl, hG, hK, hb8⟩; obtain ⟨gp, gpc, gl, glc, gs, gsc, gk, gkc, rfl, _, _, _, _⟩ := hG; obtain ⟨Aa, ca, rfl, _, _⟩ := hK; have HB8 := Aside0.mk hb8)
  refine nameW ?_
  intro w9 hw9
  obtain ⟨b9, ba9, hb9, hsz9⟩ := two_boxes hw9
  clear hw9 hn1 hsz9 q3 q5
  have HB9 := Aside0.mk (below_step HB7.out (below_step HB8.out hb9))
  have BW9 := blk_below BW7.out (below_step HB8.out hb9)
  generalize w8.heap.size + 1 = ba at *
  generalize w8.heap.size = bg at *
  have r8 : w9.cell? ⟨bg, 8, none⟩ = some (.int .i64 4) := blk_cells b9 8
  have r3 : w9.cell? ⟨bg, 3, none⟩ = some (.int .i64 4) := blk_cells b9 3
  have r0 : w9.cell? ⟨ba, 0, none⟩ = some (.int .i64 2) := blk_cells ba9 0
  have r1 : w9.cell? ⟨ba, 1, none⟩ = some (.int .i64 1) := blk_cells ba9 1
  have r2 : w9.cell? ⟨ba, 2, none⟩ = some (.int .i64 (0)) := blk_cells ba9 2
  have rw : w9.cell? ⟨bw, 3, none⟩ = some (.int .i64 (0)) := blk_cells BW9 3
  clear b9 ba9 BW9 hb9 hb8
  go_region
  go_wp2
  go_ret
  exact ⟨rfl, below_drew HB9.out⟩

end Go.Proofs.YtfcgjadfhojogaaDoor.Vm
