/- VmLoops: the walk. -/
import Derived.Test.YtfcgjadfhojogaaDoorVmLo
namespace Go.Proofs.YtfcgjadfhojogaaDoor.Vm
open Go.RowKit Go.Proofs.YtfcgjadfhojogaaDoorW.PrintWords Go.Proofs.YtfcgjadfhojogaaDoorW.PrintLast Go.Proofs.YtfcgjadfhojogaaDoorW.PrintMore Go.Proofs.YtfcgjadfhojogaaDoor.PVmStarts
set_option linter.unusedVariables false
set_option linter.unusedSimpArgs false

set_option maxHeartbeats 40000000 in
set_option maxRecDepth 100000 in
theorem loops_fit (n : Int) (m : Nat) (w : World) (ht : Table w) (h0 : 0 ≤ n) (h1 : n < 65536) (hm : m < 1000) (hk : n.tmod 1000 = (m : Int)) (c : 2 + 7 * (m : Int) + 4 ≤ 2000) :
    Calls Tryd.prog 7 #[.int .u16 n] w (Bool1 true w) := by
  have HT := Aside0.mk ht
  clear ht
  have hsh := shown_call w HT.out
  go_enter Tryd.func7, Tryd.ntmps7
  go_upto_region 3 with ((with_reducible refine hsh.mono ?_); rintro e w1 ⟨rfl, hb1⟩)
  clear hsh
  replace HT := Aside0.mk (HT.out.below hb1)
  have HB := Aside0.mk (hb1)
  clear hb1
  have hpl : Calls Tryd.prog 24 #[.slice (some ⟨w1.heap.size, 0, none⟩) 11 11, .int .i64 1] (w1.alloc (.cells #[.int .i64 1, .int .i64 m, .int .i64 0, .int .i64 0, .int .i64 3, .int .i64 0, .int .i64 0, .int .i64 0, .int .i64 2, .int .i64 0, .int .i64 0, .int .i64 0, .int .i64 16, .int .i64 9, .int .i64 0, .int .i64 0, .int .i64 2, .int .i64 0, .int .i64 0, .int .i64 0, .int .i64 1, .int .i64 1, .int .i64 0, .int .i64 0, .int .i64 7, .int .i64 0, .int .i64 0, .int .i64 0, .int .i64 3, .int .i64 0, .int .i64 0, .int .i64 0, .int .i64 15, .int .i64 2, .int .i64 0, .int .i64 0, .int .i64 1, .int .i64 5, .int .i64 0, .int .i64 0, .int .i64 17, .int .i64 0, .int .i64 0, .int .i64 0] 53)) (Coded (plainC (loopL m) 1) w1) :=
    lit_plain w1 (loopL m) 1 11 _ rfl rfl (by simp [loopL])
  go_upto_region 4 with ((with_reducible refine hpl.mono ?_); rintro e w2 ⟨vc, rfl, hC, hb2⟩; have HC := Aside0.mk hC; obtain ⟨cf, cfc, cc, ccc, rfl, _, _, _, _⟩ := hC)
  clear hpl
  refine nameW ?_
  intro w1 hw1
  obtain ⟨bc, hbc, hszc⟩ := one_box hw1
  clear hw1
  have HC := Aside0.mk (HC.out.below hbc)
  have HBc := Aside0.mk bc
  replace HT := Aside0.mk (HT.out.below (below_step hb2 hbc))
  replace HB := Aside0.mk (below_step HB.out (below_step hb2 hbc))
  clear hb2 hbc hszc bc
  generalize w2.heap.size = kc at *
  have qHBc := blk_cells HBc.out
  have hst : Calls Tryd.prog 12 #[.agg #[.slice cf (plainC (loopL m) 1).funs.length cfc, .slice cc (plainC (loopL m) 1).cells.length ccc, .int .i64 (plainC (loopL m) 1).maps, .int .i64 (plainC (loopL m) 1).stacks, .int .i64 (plainC (loopL m) 1).chans, .int .i64 (plainC (loopL m) 1).main], .int .i64 0, .slice none 0 0, .int .i64 1, .slice none 0 0] w1 (Framed ((lF 0 [] 0 0), 0) w1) := by
    have := start_call (plainC (loopL m) 1) _ 0 none 0 [] 1 none 0 [] w1 HC.out (Kd.C_nil _ _) (Kd.C_nil _ _) (by decide) (fun _ _ => (show (1 : Int) < 1000000 by decide))
    rw [loop_start] at this
    exact this
  go_upto_region 5 with ((with_reducible refine hst.mono ?_); rintro e w4 ⟨vf, rfl, hF, hb4⟩; have HF := Aside0.mk hF; obtain ⟨fp, fpc, fl, flc, fs, fsc, fk, fkc, rfl, _, _, _, _⟩ := hF)
  clear hst qHBc
  refine nameW ?_
  intro w2 hw2
  obtain ⟨bf, hbf, hszf⟩ := one_box hw2
  clear hw2
  have HF := Aside0.mk (HF.out.below hbf)
  have HBf := Aside0.mk bf
  replace HT := Aside0.mk (HT.out.below (below_step hb4 hbf))
  replace HC := Aside0.mk (HC.out.below (below_step hb4 hbf))
  replace HBc := Aside0.mk (blk_below HBc.out (below_step hb4 hbf))
  replace HB := Aside0.mk (below_step HB.out (below_step hb4 hbf))
  clear hb4 hbf hszf bf
  generalize w4.heap.size = kf at *
  have qHBc := blk_cells HBc.out
  have qHBf := blk_cells HBf.out
  have hn1 : Calls Tryd.prog 21 #[.agg #[.slice cf (plainC (loopL m) 1).funs.length cfc, .slice cc (plainC (loopL m) 1).cells.length ccc, .int .i64 (plainC (loopL m) 1).maps, .int .i64 (plainC (loopL m) 1).stacks, .int .i64 (plainC (loopL m) 1).chans, .int .i64 (plainC (loopL m) 1).main], .agg #[.int .i64 (lF 0 [] 0 0).task, .slice fp (lF 0 [] 0 0).path.length fpc, .int .i64 (lF 0 [] 0 0).fn, .int .i64 (lF 0 [] 0 0).pc, .slice fl (lF 0 [] 0 0).loc.length flc, .slice fs (lF 0 [] 0 0).stk.length fsc, .slice fk (lF 0 [] 0 0).kids.length fkc, .int .i64 (lF 0 [] 0 0).many, .int .i64 (lF 0 [] 0 0).spent, .bool (lF 0 [] 0 0).fail]] w2 (Said (lF 0 [] 11 (2 + 7 * m + 4)) { noAk with kind := 6, a := 5 } 0 w2) := by
    have := next_call (plainC (loopL m) 1) (lF 0 [] 0 0) _ _ w2 HC.out HF.out HT.out (by decide)
    rw [if_pos (loop_right _), loop_next m hm, loopR, if_pos (by omega)] at this
    exact this
  go_upto_region 6 with ((with_reducible refine hn1.mono ?_); rintro e w6 ⟨vg, vk, rfl, hG, hK, hb6⟩; have HG := Aside0.mk hG; obtain ⟨gp, gpc, gl, glc, gs, gsc, gk, gkc, rfl, _, _, _, _⟩ := hG; obtain ⟨Aa, ca, rfl, _, _⟩ := hK)
  clear hn1 qHBc qHBf
  refine nameW ?_
  intro w3 hw3
  obtain ⟨bg, bk, hbg, hszg⟩ := two_boxes hw3
  clear hw3
  have HG := Aside0.mk (HG.out.below hbg)
  have HBg := Aside0.mk bg
  have HBk := Aside0.mk bk
  replace HT := Aside0.mk (HT.out.below (below_step hb6 hbg))
  replace HC := Aside0.mk (HC.out.below (below_step hb6 hbg))
  replace HBc := Aside0.mk (blk_below HBc.out (below_step hb6 hbg))
  replace HF := Aside0.mk (HF.out.below (below_step hb6 hbg))
  replace HBf := Aside0.mk (blk_below HBf.out (below_step hb6 hbg))
  replace HB := Aside0.mk (below_step HB.out (below_step hb6 hbg))
  clear hb6 hbg hszg bg bk
  generalize w6.heap.size + 1 = kk at *
  generalize w6.heap.size = kg at *
  have r8 : w3.cell? ⟨kg, 8, none⟩ = some (.int .i64 (2 + 7 * m + 4)) := blk_cells HBg.out 8
  have r0 : w3.cell? ⟨kk, 0, none⟩ = some (.int .i64 6) := blk_cells HBk.out 0
  have r1 : w3.cell? ⟨kk, 1, none⟩ = some (.int .i64 5) := blk_cells HBk.out 1
  have hbq : ((2 + 7 * (m : Int) + 4 : Int) == 2 + 7 * (m : Int) + 2 + 2) = true := by simp; omega
  have HQ := Aside0.mk hbq
  clear hbq
  go_wp2
  go_ret
  exact ⟨by rw [← HQ.out]; rfl, HB.out⟩

set_option maxHeartbeats 40000000 in
set_option maxRecDepth 100000 in
theorem loops_over (n : Int) (m : Nat) (w : World) (ht : Table w) (h0 : 0 ≤ n) (h1 : n < 65536) (hm : m < 1000) (hk : n.tmod 1000 = (m : Int)) (c : ¬ 2 + 7 * (m : Int) + 4 ≤ 2000) :
    Calls Tryd.prog 7 #[.int .u16 n] w (Bool1 true w) := by
  have HT := Aside0.mk ht
  clear ht
  have hsh := shown_call w HT.out
  go_enter Tryd.func7, Tryd.ntmps7
  go_upto_region 3 with ((with_reducible refine hsh.mono ?_); rintro e w1 ⟨rfl, hb1⟩)
  clear hsh
  replace HT := Aside0.mk (HT.out.below hb1)
  have HB := Aside0.mk (hb1)
  clear hb1
  have hpl : Calls Tryd.prog 24 #[.slice (some ⟨w1.heap.size, 0, none⟩) 11 11, .int .i64 1] (w1.alloc (.cells #[.int .i64 1, .int .i64 m, .int .i64 0, .int .i64 0, .int .i64 3, .int .i64 0, .int .i64 0, .int .i64 0, .int .i64 2, .int .i64 0, .int .i64 0, .int .i64 0, .int .i64 16, .int .i64 9, .int .i64 0, .int .i64 0, .int .i64 2, .int .i64 0, .int .i64 0, .int .i64 0, .int .i64 1, .int .i64 1, .int .i64 0, .int .i64 0, .int .i64 7, .int .i64 0, .int .i64 0, .int .i64 0, .int .i64 3, .int .i64 0, .int .i64 0, .int .i64 0, .int .i64 15, .int .i64 2, .int .i64 0, .int .i64 0, .int .i64 1, .int .i64 5, .int .i64 0, .int .i64 0, .int .i64 17, .int .i64 0, .int .i64 0, .int .i64 0] 53)) (Coded (plainC (loopL m) 1) w1) :=
    lit_plain w1 (loopL m) 1 11 _ rfl rfl (by simp [loopL])
  go_upto_region 4 with ((with_reducible refine hpl.mono ?_); rintro e w2 ⟨vc, rfl, hC, hb2⟩; have HC := Aside0.mk hC; obtain ⟨cf, cfc, cc, ccc, rfl, _, _, _, _⟩ := hC)
  clear hpl
  refine nameW ?_
  intro w1 hw1
  obtain ⟨bc, hbc, hszc⟩ := one_box hw1
  clear hw1
  have HC := Aside0.mk (HC.out.below hbc)
  have HBc := Aside0.mk bc
  replace HT := Aside0.mk (HT.out.below (below_step hb2 hbc))
  replace HB := Aside0.mk (below_step HB.out (below_step hb2 hbc))
  clear hb2 hbc hszc bc
  generalize w2.heap.size = kc at *
  have qHBc := blk_cells HBc.out
  have hst : Calls Tryd.prog 12 #[.agg #[.slice cf (plainC (loopL m) 1).funs.length cfc, .slice cc (plainC (loopL m) 1).cells.length ccc, .int .i64 (plainC (loopL m) 1).maps, .int .i64 (plainC (loopL m) 1).stacks, .int .i64 (plainC (loopL m) 1).chans, .int .i64 (plainC (loopL m) 1).main], .int .i64 0, .slice none 0 0, .int .i64 1, .slice none 0 0] w1 (Framed ((lF 0 [] 0 0), 0) w1) := by
    have := start_call (plainC (loopL m) 1) _ 0 none 0 [] 1 none 0 [] w1 HC.out (Kd.C_nil _ _) (Kd.C_nil _ _) (by decide) (fun _ _ => (show (1 : Int) < 1000000 by decide))
    rw [loop_start] at this
    exact this
  go_upto_region 5 with ((with_reducible refine hst.mono ?_); rintro e w4 ⟨vf, rfl, hF, hb4⟩; have HF := Aside0.mk hF; obtain ⟨fp, fpc, fl, flc, fs, fsc, fk, fkc, rfl, _, _, _, _⟩ := hF)
  clear hst qHBc
  refine nameW ?_
  intro w2 hw2
  obtain ⟨bf, hbf, hszf⟩ := one_box hw2
  clear hw2
  have HF := Aside0.mk (HF.out.below hbf)
  have HBf := Aside0.mk bf
  replace HT := Aside0.mk (HT.out.below (below_step hb4 hbf))
  replace HC := Aside0.mk (HC.out.below (below_step hb4 hbf))
  replace HBc := Aside0.mk (blk_below HBc.out (below_step hb4 hbf))
  replace HB := Aside0.mk (below_step HB.out (below_step hb4 hbf))
  clear hb4 hbf hszf bf
  generalize w4.heap.size = kf at *
  have qHBc := blk_cells HBc.out
  have qHBf := blk_cells HBf.out
  have hn1 : Calls Tryd.prog 21 #[.agg #[.slice cf (plainC (loopL m) 1).funs.length cfc, .slice cc (plainC (loopL m) 1).cells.length ccc, .int .i64 (plainC (loopL m) 1).maps, .int .i64 (plainC (loopL m) 1).stacks, .int .i64 (plainC (loopL m) 1).chans, .int .i64 (plainC (loopL m) 1).main], .agg #[.int .i64 (lF 0 [] 0 0).task, .slice fp (lF 0 [] 0 0).path.length fpc, .int .i64 (lF 0 [] 0 0).fn, .int .i64 (lF 0 [] 0 0).pc, .slice fl (lF 0 [] 0 0).loc.length flc, .slice fs (lF 0 [] 0 0).stk.length fsc, .slice fk (lF 0 [] 0 0).kids.length fkc, .int .i64 (lF 0 [] 0 0).many, .int .i64 (lF 0 [] 0 0).spent, .bool (lF 0 [] 0 0).fail]] w2 (Said (lF 0 [] 0 0) noAk 11 w2) := by
    have := next_call (plainC (loopL m) 1) (lF 0 [] 0 0) _ _ w2 HC.out HF.out HT.out (by decide)
    rw [if_pos (loop_right _), loop_next m hm, loopR, if_neg (by omega)] at this
    exact this
  go_upto_region 6 with ((with_reducible refine hn1.mono ?_); rintro e w6 ⟨vg, vk, rfl, hG, hK, hb6⟩; have HG := Aside0.mk hG; obtain ⟨gp, gpc, gl, glc, gs, gsc, gk, gkc, rfl, _, _, _, _⟩ := hG; obtain ⟨Aa, ca, rfl, _, _⟩ := hK)
  clear hn1 qHBc qHBf
  refine nameW ?_
  intro w3 hw3
  obtain ⟨bg, bk, hbg, hszg⟩ := two_boxes hw3
  clear hw3
  have HG := Aside0.mk (HG.out.below hbg)
  have HBg := Aside0.mk bg
  have HBk := Aside0.mk bk
  replace HT := Aside0.mk (HT.out.below (below_step hb6 hbg))
  replace HC := Aside0.mk (HC.out.below (below_step hb6 hbg))
  replace HBc := Aside0.mk (blk_below HBc.out (below_step hb6 hbg))
  replace HF := Aside0.mk (HF.out.below (below_step hb6 hbg))
  replace HBf := Aside0.mk (blk_below HBf.out (below_step hb6 hbg))
  replace HB := Aside0.mk (below_step HB.out (below_step hb6 hbg))
  clear hb6 hbg hszg bg bk
  generalize w6.heap.size + 1 = kk at *
  generalize w6.heap.size = kg at *
  have qHBf := blk_cells HBf.out
  have qHBg := blk_cells HBg.out
  have hsm : Calls Tryd.prog 15 #[.agg #[.int .i64 (lF 0 [] 0 0).task, .slice gp (lF 0 [] 0 0).path.length gpc, .int .i64 (lF 0 [] 0 0).fn, .int .i64 (lF 0 [] 0 0).pc, .slice gl (lF 0 [] 0 0).loc.length glc, .slice gs (lF 0 [] 0 0).stk.length gsc, .slice gk (lF 0 [] 0 0).kids.length gkc, .int .i64 (lF 0 [] 0 0).many, .int .i64 (lF 0 [] 0 0).spent, .bool (lF 0 [] 0 0).fail], .agg #[.int .i64 (lF 0 [] 0 0).task, .slice fp (lF 0 [] 0 0).path.length fpc, .int .i64 (lF 0 [] 0 0).fn, .int .i64 (lF 0 [] 0 0).pc, .slice fl (lF 0 [] 0 0).loc.length flc, .slice fs (lF 0 [] 0 0).stk.length fsc, .slice fk (lF 0 [] 0 0).kids.length fkc, .int .i64 (lF 0 [] 0 0).many, .int .i64 (lF 0 [] 0 0).spent, .bool (lF 0 [] 0 0).fail]] w3 (Bool1 true w3) :=
    same_call HG.out HF.out (by decide) (by decide) (by decide) (by decide)
  go_wp2_with ((with_reducible refine hsm.mono ?_); rintro e w9 ⟨rfl, hb9⟩)
  go_ret
  exact ⟨rfl, below_step HB.out hb9⟩

end Go.Proofs.YtfcgjadfhojogaaDoor.Vm
