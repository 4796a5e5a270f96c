/- VmFails: the walk. -/
import Derived.Test.YtfcgjadfhojogaaDoorVmFa
namespace Go.Proofs.YtfcgjadfhojogaaDoor.Vm
open Go.RowKit Go.Proofs.YtfcgjadfhojogaaDoorW.PrintWords Go.Proofs.YtfcgjadfhojogaaDoorW.PrintLast Go.Proofs.YtfcgjadfhojogaaDoorW.PrintMore Go.Proofs.YtfcgjadfhojogaaDoor.PVmStarts
set_option linter.unusedVariables false
set_option linter.unusedSimpArgs false

theorem info_ins : (Tryd.prog.info? 53).map (fun i => (i.zero, i.size, i.bytes)) = some (some (.agg #[.int .i64 0, .int .i64 0, .int .i64 0, .int .i64 0]), 4, 32) := by kernel_rfl

set_option maxHeartbeats 40000000 in
set_option maxRecDepth 100000 in
theorem fails_call (A : Option Addr) (c : Nat) (l : List Int) (w : World) (ht : Table w) (hr : (Kd.int .u32).C w A l.length l) (hv : ∀ x, x ∈ l → isV x = true) :
    Calls Tryd.prog 9 #[.slice A l.length c] w (Bool1 true w) := by
  have HT := Aside0.mk ht
  have HR := Aside0.mk hr
  have HV := Aside0.mk hv
  have hlen := hr.2.1
  clear ht hr hv
  have hsh := shown_call w HT.out
  go_enter Tryd.func9, Tryd.ntmps9
  go_upto_region 2 with ((with_reducible refine hsh.mono ?_); rintro e w1 ⟨rfl, hb1⟩)
  clear hsh
  replace HT := Aside0.mk (HT.out.below hb1)
  replace HR := Aside0.mk (Kd.C_below HR.out hb1)
  have HB := Aside0.mk (hb1)
  clear hb1
  by_cases hl : (20 : Int) < (l.length : Int)
  · have hd : decide ((20 : Int) < (l.length : Int)) = true := decide_eq_true hl
    clear hl
    go_wp2
    go_ret
    exact ⟨rfl, HB.out⟩
  have hl20 : l.length ≤ 20 := by omega
  have hd : decide ((20 : Int) < (l.length : Int)) = false := decide_eq_false hl
  clear hl
  have HI := Aside0.mk info_ins
  go_wp2
  go_loopg [4, 5, 6] l.length (fun gg s4 s5 s6 wr => ∃ kk : Nat, kk ≤ l.length ∧ l.length - kk ≤ gg ∧ s6 = .int .i64 kk ∧ s5 = .bool ((l.take kk).any fun x => x == 0) ∧ Aside0 (k53.R 53 wr w1.heap.size (fun _ => True) s4 (pairsL (l.take kk))) ∧ Aside0 (Below w1.heap.size w1 wr))
  case atStart => exact ⟨0, Nat.zero_le _, by omega, rfl, rfl, ⟨Kd.R_nil _ _ _ _ _⟩, ⟨Below.refl _ _⟩⟩
  case round =>
    obtain ⟨kk, hkk, hg, rfl, rfl, HO, HBr⟩ := hrel
    by_cases hlt : kk < l.length
    · have hltz : (kk : Int) < (l.length : Int) := by omega
      have hK0 : (0 : Int) ≤ (kk : Int) := by omega
      obtain ⟨ad, rfl, hcw⟩ := Kd.at_int HR.out (kk : Int) hK0 hltz
      rw [Int.toNat_natCast] at hcw
      have HCW := Aside0.mk hcw
      have hc0 := pw_cell_below HBr.out hcw
      clear hcw
      have hx : rd l kk = l[kk] := by simp [rd, List.getD_eq_getElem?_getD, List.getElem?_eq_getElem hlt]
      have hxv := (isV_iff _).1 (HV.out (rd l kk) (by rw [hx]; exact List.getElem_mem _))
      have htk : l.take (kk + 1) = l.take kk ++ [rd l kk] := by rw [List.take_succ_eq_append_getElem hlt, hx]
      have HTK := Aside0.mk htk
      have hx0 := hxv.1
      have hx1 := hxv.2
      have HLK : Aside0 ((pairsL (l.take kk)).length ≤ 40) := ⟨by rw [pairs_len, List.length_take]; omega⟩
      clear hx hxv htk
      generalize rd l kk = x at *
      obtain ⟨A4, c4, rfl, hc4, _⟩ := Kd.R_reads HO.out
      have HO2 := Aside0.mk (Kd.R_alloc HO.out (.cells (encIns [⟨1, x, 0, 0⟩, ⟨18, 0, 0, 0⟩]).toArray 53))
      have HC2 := Aside0.mk (Kd.R_reads' (lit_row (w := wr.alloc (.cells (encIns [⟨1, x, 0, 0⟩, ⟨18, 0, 0, 0⟩]).toArray 53)) (base := 0) (l := [⟨1, x, 0, 0⟩, ⟨18, 0, 0, 0⟩]) (blk_new wr _) (Nat.zero_le _) (by simp))).2.2
      have hdn : ((l.take kk).any fun y => y == 0) = true ∨ ((l.take kk).any fun y => y == 0) = false := by cases ((l.take kk).any fun y => y == 0) <;> simp
      have HAN : Aside0 (((l.take (kk + 1)).any fun y => y == 0) = (((l.take kk).any fun y => y == 0) || x == 0)) := ⟨by rw [HTK.out, List.any_append]; simp⟩
      generalize ((l.take kk).any fun y => y == 0) = bb at *
      go_wp2_with (at_builtin; refine Kd.R_append_rows k53 (w0 := w1) w1.heap.size rfl _ _ 54 53 (.agg #[.int .i64 0, .int .i64 0, .int .i64 0, .int .i64 0]) 32 rfl Tryd.underlying54 HI.out rfl (by decide) (by decide) (.slice A4 (pairsL (l.take kk)).length c4) (pairsL (l.take kk)) [⟨1, x, 0, 0⟩, ⟨18, 0, 0, 0⟩] (some ⟨wr.heap.size, 0, none⟩) 2 2 (fun _ => True) (fun _ => False) rfl rfl HO2.out HC2.out (ins_KM _ _ _ _) (fun _ h => h.elim) (fun _ _ => trivial) (HBr.out.alloc HBr.out.size _) (Nat.le_trans HBr.out.size (by simp)) (by have := HLK.out; omega) ?_)
      intro v1 w2 ho hb hgr hat
      clear hgr hat
      have HO3 : Aside0 (k53.R 53 w2 w1.heap.size (fun _ => True) v1 (pairsL (l.take (kk + 1)))) := ⟨by rw [HTK.out, pairs_append]; exact ho⟩
      have HB3 := Aside0.mk hb
      have hc2 := pw_cell_below hb HCW.out
      clear ho hb hc0
      rcases hdn with rfl | rfl
      · go_wp2
        go_roundg (l.length - (kk + 1))
        case measure => omega
        case rel => exact ⟨kk + 1, by omega, by omega, by go_num, by rw [HAN.out]; rfl, HO3, HB3⟩
      · go_wp2
        go_roundg (l.length - (kk + 1))
        case measure => omega
        case rel => exact ⟨kk + 1, by omega, by omega, by go_num, by rw [HAN.out]; rfl, HO3, HB3⟩
    · have hltz : ¬ (kk : Int) < (l.length : Int) := by omega
      have hkl : kk = l.length := by omega
      rw [hkl, List.take_length] at HO
      obtain ⟨A4, c4, rfl, hc4, _⟩ := Kd.R_reads HO.out
      have HLK : Aside0 ((pairsL l).length ≤ 40) := ⟨by rw [pairs_len]; omega⟩
      rw [hkl, List.take_length]
      clear hkl
      have HO2 := Aside0.mk (Kd.R_alloc HO.out (.cells (encIns [⟨1, 1, 0, 0⟩, ⟨17, 0, 0, 0⟩]).toArray 53))
      have HC2 := Aside0.mk (Kd.R_reads' (lit_row (w := wr.alloc (.cells (encIns [⟨1, 1, 0, 0⟩, ⟨17, 0, 0, 0⟩]).toArray 53)) (base := 0) (l := [⟨1, 1, 0, 0⟩, ⟨17, 0, 0, 0⟩]) (blk_new wr _) (Nat.zero_le _) (by simp))).2.2
      have hzz : ∀ r, ((l.any fun y => y == 0) = r) → True := fun _ _ => trivial
      clear hzz
      go_upto_region 12 with (at_builtin; refine Kd.R_append_rows k53 (w0 := w1) w1.heap.size rfl _ _ 54 53 (.agg #[.int .i64 0, .int .i64 0, .int .i64 0, .int .i64 0]) 32 rfl Tryd.underlying54 HI.out rfl (by decide) (by decide) (.slice A4 (pairsL l).length c4) (pairsL l) [⟨1, 1, 0, 0⟩, ⟨17, 0, 0, 0⟩] (some ⟨wr.heap.size, 0, none⟩) 2 2 (fun _ => True) (fun _ => False) rfl rfl HO2.out HC2.out (ins_KM _ _ _ _) (fun _ h => h.elim) (fun _ _ => trivial) (HBr.out.alloc HBr.out.size _) (Nat.le_trans HBr.out.size (by simp)) (by have := HLK.out; omega) ?_; intro v1 w2 ho hb hgr hat; clear hgr hat)
      have HO3 : Aside0 (k53.R 53 w2 w1.heap.size (fun _ => True) v1 (failL l)) := ⟨ho⟩
      replace HR := Aside0.mk (Kd.C_below HR.out hb)
      replace HT := Aside0.mk (HT.out.below hb)
      replace HB := Aside0.mk (below_step HB.out hb)
      have HI0 : Aside0 (1 = 1) := ⟨rfl⟩
      clear ho hb HO HO2 HC2 HBr
      obtain ⟨A5, c5, rfl, hc5, _⟩ := Kd.R_reads HO3.out
      have hpl : Calls Tryd.prog 24 #[.slice A5 (failL l).length c5, .int .i64 0] w2 (Coded (plainC (failL l) 0) w2) := plain_call A5 c5 (failL l) 0 w2 _ HO3.out
      go_upto_region 13 with ((with_reducible refine hpl.mono ?_); rintro e w3 ⟨vc, rfl, hC, hb3⟩; have HC := Aside0.mk hC; obtain ⟨cf, cfc, cc, ccc, rfl, _, _, _, _⟩ := hC)
      clear hpl HO3
      refine nameW ?_
      intro w1 hw1
      obtain ⟨bc, hbc, hszc⟩ := one_box hw1
      clear hw1
      have HC := Aside0.mk (HC.out.below hbc)
      have HBc := Aside0.mk bc
      replace HT := Aside0.mk (HT.out.below (below_step hb3 hbc))
      replace HR := Aside0.mk (Kd.C_below HR.out (below_step hb3 hbc))
      replace HB := Aside0.mk (below_step HB.out (below_step hb3 hbc))
      clear hb3 hbc hszc bc
      generalize w3.heap.size = kc at *
      have qHBc := blk_cells HBc.out
      have hst : Calls Tryd.prog 12 #[.agg #[.slice cf (plainC (failL l) 0).funs.length cfc, .slice cc (plainC (failL l) 0).cells.length ccc, .int .i64 (plainC (failL l) 0).maps, .int .i64 (plainC (failL l) 0).stacks, .int .i64 (plainC (failL l) 0).chans, .int .i64 (plainC (failL l) 0).main], .int .i64 0, .slice none 0 0, .int .i64 1, .slice none 0 0] w1 (Framed ((aF [] 0 false), 0) w1) := by
        have := start_call (plainC (failL l) 0) _ 0 none 0 [] 1 none 0 [] w1 HC.out (Kd.C_nil _ _) (Kd.C_nil _ _) (by decide) (fun _ _ => (show (0 : Int) < 1000000 by decide))
        rw [fail_start] at this
        exact this
      go_upto_region 14 with ((with_reducible refine hst.mono ?_); rintro e w4 ⟨vf, rfl, hF, hb4⟩; have HF := Aside0.mk hF; obtain ⟨fp, fpc, fl, flc, fs, fsc, fk, fkc, rfl, _, _, _, _⟩ := hF)
      clear hst qHBc
      refine nameW ?_
      intro w2 hw2
      obtain ⟨bf, hbf, hszf⟩ := one_box hw2
      clear hw2
      have HF := Aside0.mk (HF.out.below hbf)
      have HBf := Aside0.mk bf
      replace HT := Aside0.mk (HT.out.below (below_step hb4 hbf))
      replace HR := Aside0.mk (Kd.C_below HR.out (below_step hb4 hbf))
      replace HC := Aside0.mk (HC.out.below (below_step hb4 hbf))
      replace HBc := Aside0.mk (blk_below HBc.out (below_step hb4 hbf))
      replace HB := Aside0.mk (below_step HB.out (below_step hb4 hbf))
      clear hb4 hbf hszf bf
      generalize w4.heap.size = kf at *
      have qHBc := blk_cells HBc.out
      have qHBf := blk_cells HBf.out
      have hn1 : Calls Tryd.prog 21 #[.agg #[.slice cf (plainC (failL l) 0).funs.length cfc, .slice cc (plainC (failL l) 0).cells.length ccc, .int .i64 (plainC (failL l) 0).maps, .int .i64 (plainC (failL l) 0).stacks, .int .i64 (plainC (failL l) 0).chans, .int .i64 (plainC (failL l) 0).main], .agg #[.int .i64 (aF [] 0 false).task, .slice fp (aF [] 0 false).path.length fpc, .int .i64 (aF [] 0 false).fn, .int .i64 (aF [] 0 false).pc, .slice fl (aF [] 0 false).loc.length flc, .slice fs (aF [] 0 false).stk.length fsc, .slice fk (aF [] 0 false).kids.length fkc, .int .i64 (aF [] 0 false).many, .int .i64 (aF [] 0 false).spent, .bool (aF [] 0 false).fail]] w2 (Said (aF [] (2 * l.length + 2) (l.any fun x => x == 0)) { noAk with kind := 6, a := 1 } 0 w2) := by
        have := next_call (plainC (failL l) 0) (aF [] 0 false) _ _ w2 HC.out HF.out HT.out (by decide)
        rw [if_pos (fail_right _), fail_next l HV.out hl20] at this
        exact this
      go_upto_region 15 with ((with_reducible refine hn1.mono ?_); rintro e w6 ⟨vg, vk, rfl, hG, hK, hb6⟩; obtain ⟨gp, gpc, gl, glc, gs, gsc, gk, gkc, rfl, _, _, _, _⟩ := hG; obtain ⟨Aa, ca, rfl, _, _⟩ := hK)
      clear hn1 qHBc qHBf
      refine nameW ?_
      intro w3 hw3
      obtain ⟨bg, bk, hbg, hszg⟩ := two_boxes hw3
      clear hw3
      have HBg := Aside0.mk bg
      have HBk := Aside0.mk bk
      replace HT := Aside0.mk (HT.out.below (below_step hb6 hbg))
      replace HR := Aside0.mk (Kd.C_below HR.out (below_step hb6 hbg))
      replace HC := Aside0.mk (HC.out.below (below_step hb6 hbg))
      replace HBc := Aside0.mk (blk_below HBc.out (below_step hb6 hbg))
      replace HF := Aside0.mk (HF.out.below (below_step hb6 hbg))
      replace HBf := Aside0.mk (blk_below HBf.out (below_step hb6 hbg))
      replace HB := Aside0.mk (below_step HB.out (below_step hb6 hbg))
      clear hb6 hbg hszg bg bk
      generalize w6.heap.size + 1 = kk2 at *
      generalize w6.heap.size = kg at *
      have r9 : w3.cell? ⟨kg, 9, none⟩ = some (.bool (l.any fun x => x == 0)) := blk_cells HBg.out 9
      have r8 : w3.cell? ⟨kg, 8, none⟩ = some (.int .i64 (2 * l.length + 2)) := blk_cells HBg.out 8
      have r0 : w3.cell? ⟨kk2, 0, none⟩ = some (.int .i64 6) := blk_cells HBk.out 0
      have r1 : w3.cell? ⟨kk2, 1, none⟩ = some (.int .i64 1) := blk_cells HBk.out 1
      generalize (l.any fun x => x == 0) = bb at *
      have hbb : (bb == bb) = true := by simp
      go_wp2
      go_ret
      exact ⟨rfl, HB.out⟩

end Go.Proofs.YtfcgjadfhojogaaDoor.Vm
