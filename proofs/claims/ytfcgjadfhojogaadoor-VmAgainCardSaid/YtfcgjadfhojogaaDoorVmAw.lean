/- VmAgain: a frame that waits for its two children; the walk. -/
import Derived.Test.YtfcgjadfhojogaaDoorVmJo
import Derived.Test.YtfcgjadfhojogaaDoorVmW
namespace Go.Proofs.YtfcgjadfhojogaaDoor.Vm
open Go.RowKit Go.Proofs.YtfcgjadfhojogaaDoorW.PrintWords Go.Proofs.YtfcgjadfhojogaaDoorW.PrintLast Go.Proofs.YtfcgjadfhojogaaDoorW.PrintMore Go.Proofs.YtfcgjadfhojogaaDoor.PVmStarts
set_option linter.unusedVariables false
set_option linter.unusedSimpArgs false

theorem again_boxes {w W : World} {kf : Nat} {z0 z1 z2 z3 z4 z5 z6 z7 z8 z9 v0 v1 v2 v3 v4 v5 v6 v7 v8 v9 y0 y1 y2 y3 y4 y5 y6 y7 u0 u1 u2 u3 u4 u5 u6 u7 : Value} (h : W = ((((((((((((((((((w.alloc (.cells #[y0, y1, y2, y3, y4, y5, y6, y7] 46)).setCell ⟨kf, 0, none⟩ v0).setCell ⟨kf, 1, none⟩ v1).setCell ⟨kf, 2, none⟩ v2).setCell ⟨kf, 3, none⟩ v3).setCell ⟨kf, 4, none⟩ v4).setCell ⟨kf, 5, none⟩ v5).setCell ⟨kf, 6, none⟩ v6).setCell ⟨kf, 7, none⟩ v7).setCell ⟨kf, 8, none⟩ v8).setCell ⟨kf, 9, none⟩ v9).setCell ⟨w.heap.size, 0, none⟩ u0).setCell ⟨w.heap.size, 1, none⟩ u1).setCell ⟨w.heap.size, 2, none⟩ u2).setCell ⟨w.heap.size, 3, none⟩ u3).setCell ⟨w.heap.size, 4, none⟩ u4).setCell ⟨w.heap.size, 5, none⟩ u5).setCell ⟨w.heap.size, 6, none⟩ u6).setCell ⟨w.heap.size, 7, none⟩ u7)
    (hf : w.heap[kf]? = some (.cells #[z0, z1, z2, z3, z4, z5, z6, z7, z8, z9] 33 (0, 0))) :
    W.heap[kf]? = some (.cells #[v0, v1, v2, v3, v4, v5, v6, v7, v8, v9] 33 (0, 0)) ∧ W.heap[w.heap.size]? = some (.cells #[u0, u1, u2, u3, u4, u5, u6, u7] 46 (0, 0)) ∧ (∀ (B : Nat) (w0 : World), B ≤ kf → Below B w0 w → Below B w0 W) ∧ (∀ k, k ≠ kf → k < w.heap.size → W.heap[k]? = w.heap[k]?) := by
  have hlt := blk_lt hf
  have a1 := blk_alloc hf (.cells #[y0, y1, y2, y3, y4, y5, y6, y7] 46)
  have a2 := blk_new w (.cells #[y0, y1, y2, y3, y4, y5, y6, y7] 46)
  have f1 := sets10 a1 v0 v1 v2 v3 v4 v5 v6 v7 v8 v9
  have o1 := only10 (w.alloc (.cells #[y0, y1, y2, y3, y4, y5, y6, y7] 46)) kf v0 v1 v2 v3 v4 v5 v6 v7 v8 v9
  have a3 := (o1.far w.heap.size (by omega)).trans a2
  have f2 := sets8 a3 u0 u1 u2 u3 u4 u5 u6 u7
  have o2 := only8 (((((((((((w.alloc (.cells #[y0, y1, y2, y3, y4, y5, y6, y7] 46)).setCell ⟨kf, 0, none⟩ v0).setCell ⟨kf, 1, none⟩ v1).setCell ⟨kf, 2, none⟩ v2).setCell ⟨kf, 3, none⟩ v3).setCell ⟨kf, 4, none⟩ v4).setCell ⟨kf, 5, none⟩ v5).setCell ⟨kf, 6, none⟩ v6).setCell ⟨kf, 7, none⟩ v7).setCell ⟨kf, 8, none⟩ v8).setCell ⟨kf, 9, none⟩ v9) w.heap.size u0 u1 u2 u3 u4 u5 u6 u7
  subst h
  refine ⟨(o2.far kf (by omega)).trans f1, f2, fun B w0 hB hb => o2.below (o1.below (hb.alloc (by omega) _) hB) (by omega), fun k hk hk2 => ?_⟩
  exact (o2.far k (by omega)).trans ((o1.far k hk).trans ((below_alloc (Below.refl w.heap.size w) _).block k hk2))
theorem again_told {w W : World} {kf : Nat} {z0 z1 z2 z3 z4 z5 z6 z7 z8 z9 v0 v1 v2 v3 v4 v5 v6 v7 v8 v9 : Value} (h : W = ((((((((((w).setCell ⟨kf, 0, none⟩ v0).setCell ⟨kf, 1, none⟩ v1).setCell ⟨kf, 2, none⟩ v2).setCell ⟨kf, 3, none⟩ v3).setCell ⟨kf, 4, none⟩ v4).setCell ⟨kf, 5, none⟩ v5).setCell ⟨kf, 6, none⟩ v6).setCell ⟨kf, 7, none⟩ v7).setCell ⟨kf, 8, none⟩ v8).setCell ⟨kf, 9, none⟩ v9)
    (hf : w.heap[kf]? = some (.cells #[z0, z1, z2, z3, z4, z5, z6, z7, z8, z9] 33 (0, 0))) :
    W.heap[kf]? = some (.cells #[v0, v1, v2, v3, v4, v5, v6, v7, v8, v9] 33 (0, 0)) ∧ (∀ (B : Nat) (w0 : World), B ≤ kf → Below B w0 w → Below B w0 W) ∧ (∀ k, k ≠ kf → k < w.heap.size → W.heap[k]? = w.heap[k]?) := by
  have f1 := sets10 hf v0 v1 v2 v3 v4 v5 v6 v7 v8 v9
  have o1 := only10 w kf v0 v1 v2 v3 v4 v5 v6 v7 v8 v9
  subst h
  exact ⟨f1, fun B w0 hB hb => o1.below hb hB, fun k hk hk2 => o1.far k hk⟩

theorem blk_stay {w W : World} {kf k : Nat} {cs : Array Value} {t : TypeId} (h : w.heap[k]? = some (.cells cs t (0, 0))) (hk : k ≠ kf) (hs : ∀ k, k ≠ kf → k < w.heap.size → W.heap[k]? = w.heap[k]?) : W.heap[k]? = some (.cells cs t (0, 0)) := (hs k hk (blk_lt h)).trans h
def againL (d : Int) : List S53 := [⟨13, 0, 0, 0⟩, ⟨13, 0, 0, d⟩, ⟨2, 0, 0, 0⟩, ⟨2, 1, 0, 0⟩, ⟨6, 0, 0, 0⟩, ⟨17, 0, 0, 0⟩]
def gF (pc sp many : Int) (loc : List Int) (kids : List S74) : Fr := ⟨1, [4], 0, pc, loc, [], kids, many, sp, false⟩
def gK (k b : Int) : Ak := ⟨k, 0, b, 0, 0, 0, 0, []⟩
theorem again_start (d : Int) : startF (plainC (againL d) 2) 0 [] 1 [4] = (gF 0 0 0 [0, 0] [], 0) := by rfl
theorem again0_r0 : rightB (plainC (againL 0) 2) (gF 0 0 0 [0, 0] []) = true := by decide
theorem again0_n0 : nextF (plainC (againL 0) 2) (rd_T65 (plainC (againL 0) 2).funs (gF 0 0 0 [0, 0] []).fn) 2001 (gF 0 0 0 [0, 0] []) = .ask (gF 1 1 0 [0, 0] []) (gK 4 0) := by rfl
theorem again0_r1 : rightB (plainC (againL 0) 2) (gF 1 1 1 [0, 0] [⟨7, 0⟩]) = true := by decide
theorem again0_n1 : nextF (plainC (againL 0) 2) (rd_T65 (plainC (againL 0) 2).funs (gF 1 1 1 [0, 0] [⟨7, 0⟩]).fn) 2001 (gF 1 1 1 [0, 0] [⟨7, 0⟩]) = .ask (gF 2 2 1 [0, 0] [⟨7, 0⟩]) (gK 4 0) := by rfl
theorem again0_r2 : rightB (plainC (againL 0) 2) (gF 2 2 2 [0, 0] [⟨7, 0⟩, ⟨8, 0⟩]) = true := by decide
theorem again0_n2 : nextF (plainC (againL 0) 2) (rd_T65 (plainC (againL 0) 2).funs (gF 2 2 2 [0, 0] [⟨7, 0⟩, ⟨8, 0⟩]).fn) 2001 (gF 2 2 2 [0, 0] [⟨7, 0⟩, ⟨8, 0⟩]) = .ask (gF 2 2 2 [0, 0] [⟨7, 0⟩, ⟨8, 0⟩]) (gK 5 0) := by rfl
theorem again0_r3 (a b : Int) (ha : isV a = true) (hb : isV b = true) : rightB (plainC (againL 0) 2) (gF 2 2 2 [b, 0] []) = true := by
  simp [rightB, early, late, gF, plainC, againL, rd_T65, notV, ha, hb, isV]
  try (rw [isV_iff] at ha hb; omega)
theorem again0_n3 (a b : Int) : nextF (plainC (againL 0) 2) (rd_T65 (plainC (againL 0) 2).funs (gF 2 2 2 [b, 0] []).fn) 2001 (gF 2 2 2 [b, 0] []) = .ask (gF 6 6 2 [b, 0] []) ⟨6, rnd (b + 0), 0, 0, 0, 0, 0, []⟩ := by rfl
theorem again0_j (a b : Int) : joinN [0, 0] [⟨7, 0⟩, ⟨8, 0⟩] [a, b] 2 = [b, 0] := by rfl
theorem again1_r0 : rightB (plainC (againL 1) 2) (gF 0 0 0 [0, 0] []) = true := by decide
theorem again1_n0 : nextF (plainC (againL 1) 2) (rd_T65 (plainC (againL 1) 2).funs (gF 0 0 0 [0, 0] []).fn) 2001 (gF 0 0 0 [0, 0] []) = .ask (gF 1 1 0 [0, 0] []) (gK 4 0) := by rfl
theorem again1_r1 : rightB (plainC (againL 1) 2) (gF 1 1 1 [0, 0] [⟨7, 0⟩]) = true := by decide
theorem again1_n1 : nextF (plainC (againL 1) 2) (rd_T65 (plainC (againL 1) 2).funs (gF 1 1 1 [0, 0] [⟨7, 0⟩]).fn) 2001 (gF 1 1 1 [0, 0] [⟨7, 0⟩]) = .ask (gF 2 2 1 [0, 0] [⟨7, 0⟩]) (gK 4 1) := by rfl
theorem again1_r2 : rightB (plainC (againL 1) 2) (gF 2 2 2 [0, 0] [⟨7, 0⟩, ⟨8, 1⟩]) = true := by decide
theorem again1_n2 : nextF (plainC (againL 1) 2) (rd_T65 (plainC (againL 1) 2).funs (gF 2 2 2 [0, 0] [⟨7, 0⟩, ⟨8, 1⟩]).fn) 2001 (gF 2 2 2 [0, 0] [⟨7, 0⟩, ⟨8, 1⟩]) = .ask (gF 2 2 2 [0, 0] [⟨7, 0⟩, ⟨8, 1⟩]) (gK 5 0) := by rfl
theorem again1_r3 (a b : Int) (ha : isV a = true) (hb : isV b = true) : rightB (plainC (againL 1) 2) (gF 2 2 2 [a, b] []) = true := by
  simp [rightB, early, late, gF, plainC, againL, rd_T65, notV, ha, hb, isV]
  try (rw [isV_iff] at ha hb; omega)
theorem again1_n3 (a b : Int) : nextF (plainC (againL 1) 2) (rd_T65 (plainC (againL 1) 2).funs (gF 2 2 2 [a, b] []).fn) 2001 (gF 2 2 2 [a, b] []) = .ask (gF 6 6 2 [a, b] []) ⟨6, rnd (a + b), 0, 0, 0, 0, 0, []⟩ := by rfl
theorem again1_j (a b : Int) : joinN [0, 0] [⟨7, 0⟩, ⟨8, 1⟩] [a, b] 2 = [a, b] := by rfl

theorem two_isV {a b : Int} (ha : isV a = true) (hb : isV b = true) : ∀ x, x ∈ [a, b] → isV x = true := by
  intro x hx
  simp only [List.mem_cons, List.not_mem_nil, or_false] at hx
  rcases hx with h | h <;> rw [h] <;> assumption
theorem two_row {w : World} {k : Nat} {x y : Int} (h : w.heap[k]? = some (.cells #[.int .i64 x, .int .i64 y] 3 (0, 0))) : (Kd.int .i64).C w (some ⟨k, 0, none⟩) 2 [x, y] := by
  refine ⟨rfl, by decide, fun _ => ⟨_, rfl, fun j p hj => ?_⟩⟩
  match j with
  | 0 =>
    simp at hj; subst hj
    exact ⟨_, rfl, rfl, fun i u hu => by
      match i with
      | 0 => simp at hu; subst hu; exact blk_cells h 0
      | i + 1 => simp at hu⟩
  | 1 =>
    simp at hj; subst hj
    exact ⟨_, rfl, rfl, fun i u hu => by
      match i with
      | 0 => simp at hu; subst hu; exact blk_cells h 1
      | i + 1 => simp at hu⟩
  | j + 2 => simp at hj

set_option maxHeartbeats 40000000 in
set_option maxRecDepth 100000 in
theorem again_d0 (a b dst : Int) (w : World) (ht : Table w) (ha0 : 0 ≤ a) (ha1 : a < 4294967296) (hb0 : 0 ≤ b) (hbb : b < 4294967296) (hd0 : 0 ≤ dst) (hd1 : dst < 256) (hk : dst.tmod 2 = 0) :
    Calls Tryd.prog 5 #[.int .u32 a, .int .u32 b, .int .u8 dst] w (Bool1 true w) := by
  have HT := Aside0.mk ht
  have hsh := shown_call w ht
  have HV : Aside0 (isV a = true ∧ isV b = true) := ⟨by rw [isV_iff]; exact ⟨ha0, ha1⟩, by rw [isV_iff]; exact ⟨hb0, hbb⟩⟩
  clear ht
  go_enter Tryd.func5, Tryd.ntmps5
  go_upto_region 3 with ((with_reducible refine hsh.mono ?_); rintro e w1 ⟨rfl, hb1⟩)
  clear hsh
  have HB1 := Aside0.mk hb1
  clear hb1
  have hpl : Calls Tryd.prog 24 #[.slice (some ⟨w1.heap.size, 0, none⟩) 6 6, .int .i64 2] (w1.alloc (.cells #[.int .i64 13, .int .i64 0, .int .i64 0, .int .i64 0, .int .i64 13, .int .i64 0, .int .i64 0, .int .i64 0, .int .i64 2, .int .i64 0, .int .i64 0, .int .i64 0, .int .i64 2, .int .i64 1, .int .i64 0, .int .i64 0, .int .i64 6, .int .i64 0, .int .i64 0, .int .i64 0, .int .i64 17, .int .i64 0, .int .i64 0, .int .i64 0] 53)) (Coded (plainC (againL 0) 2) w1) :=
    lit_plain w1 (againL 0) 2 6 _ rfl rfl (by decide)
  go_upto_region 4 with ((with_reducible refine hpl.mono ?_); rintro e w2 ⟨vc, rfl, hC, hb2⟩; have HC := Aside0.mk hC; obtain ⟨cf, cfc, cc, ccc, rfl, _, _, _, _⟩ := hC)
  clear hpl
  refine nameW ?_
  intro w3 hw3
  obtain ⟨bc, hbc, hszc⟩ := one_box hw3
  clear hw3
  have HC3 := Aside0.mk (HC.out.below hbc)
  have HBc := Aside0.mk bc
  have HB3 := Aside0.mk (below_step HB1.out (below_step hb2 hbc))
  have HT3 := Aside0.mk (HT.out.below HB3.out)
  clear hb2 hbc hszc bc HC HB1 HT
  generalize w2.heap.size = kc at *
  have qc := blk_cells HBc.out
  have hst : Calls Tryd.prog 12 #[.agg #[.slice cf (plainC (againL 0) 2).funs.length cfc, .slice cc (plainC (againL 0) 2).cells.length ccc, .int .i64 (plainC (againL 0) 2).maps, .int .i64 (plainC (againL 0) 2).stacks, .int .i64 (plainC (againL 0) 2).chans, .int .i64 (plainC (againL 0) 2).main], .int .i64 0, .slice none 0 0, .int .i64 1, .slice (some ⟨w3.heap.size, 0, none⟩) 1 1] (w3.alloc (.cells #[.int .i64 4] 3)) (Framed ((gF 0 0 0 [0, 0] []), 0) (w3.alloc (.cells #[.int .i64 4] 3))) := by
    have := start_call (plainC (againL 0) 2) _ 0 none 0 [] 1 (some ⟨w3.heap.size, 0, none⟩) 1 [4] (w3.alloc (.cells #[.int .i64 4] 3)) (HC3.out.below (below_alloc (Below.refl _ _) _)) (Kd.C_nil _ _) (one_row (blk_new w3 _)) (by decide) (fun _ _ => (show (2 : Int) < 1000000 by decide))
    rw [again_start] at this
    exact this
  go_upto_region 5 with ((with_reducible refine hst.mono ?_); rintro e w4 ⟨vf, rfl, hF, hb4⟩; have HF4 := Aside0.mk hF; obtain ⟨fp, fpc, fl, flc, fs, fsc, fk, fkc, rfl, _, _, _, _⟩ := hF)
  clear hst qc
  refine nameW ?_
  intro w5 hw5
  obtain ⟨bf, hbf, hszf⟩ := one_box hw5
  clear hw5
  have hS4 : Below w3.heap.size w3 w4 := below_step (below_alloc (Below.refl _ _) _) hb4
  have HKF := Aside0.mk hS4.size
  have HS := Aside0.mk (below_step hS4 hbf)
  have FAR := Aside0.mk (HF4.out.later (Nat.le_refl _))
  have HF := Aside0.mk (HF4.out.below hbf)
  have BF := Aside0.mk bf
  clear hb4 hbf hszf bf hS4 HF4
  generalize w4.heap.size = kf at *
  have qc := blk_cells (blk_below HBc.out HS.out)
  have qf := blk_cells BF.out
  have hn : Calls Tryd.prog 21 #[.agg #[.slice cf (plainC (againL 0) 2).funs.length cfc, .slice cc (plainC (againL 0) 2).cells.length ccc, .int .i64 (plainC (againL 0) 2).maps, .int .i64 (plainC (againL 0) 2).stacks, .int .i64 (plainC (againL 0) 2).chans, .int .i64 (plainC (againL 0) 2).main], .agg #[.int .i64 (gF 0 0 0 [0, 0] []).task, .slice fp (gF 0 0 0 [0, 0] []).path.length fpc, .int .i64 (gF 0 0 0 [0, 0] []).fn, .int .i64 (gF 0 0 0 [0, 0] []).pc, .slice fl (gF 0 0 0 [0, 0] []).loc.length flc, .slice fs (gF 0 0 0 [0, 0] []).stk.length fsc, .slice fk (gF 0 0 0 [0, 0] []).kids.length fkc, .int .i64 (gF 0 0 0 [0, 0] []).many, .int .i64 (gF 0 0 0 [0, 0] []).spent, .bool (gF 0 0 0 [0, 0] []).fail]] w5 (Said2 (.agg #[.int .i64 (gF 0 0 0 [0, 0] []).task, .slice fp (gF 0 0 0 [0, 0] []).path.length fpc, .int .i64 (gF 0 0 0 [0, 0] []).fn, .int .i64 (gF 0 0 0 [0, 0] []).pc, .slice fl (gF 0 0 0 [0, 0] []).loc.length flc, .slice fs (gF 0 0 0 [0, 0] []).stk.length fsc, .slice fk (gF 0 0 0 [0, 0] []).kids.length fkc, .int .i64 (gF 0 0 0 [0, 0] []).many, .int .i64 (gF 0 0 0 [0, 0] []).spent, .bool (gF 0 0 0 [0, 0] []).fail]) (gF 1 1 0 [0, 0] []) (gK 4 0) 0 w5) := by
    have := next_call2 (plainC (againL 0) 2) (gF 0 0 0 [0, 0] []) _ _ w5 (HC3.out.below HS.out) HF.out (HT3.out.below HS.out) (show _ ≤ _ by simp [gF])
    rw [if_pos (again0_r0), again0_n0] at this
    exact this
  go_upto_region 6 with ((with_reducible refine hn.mono ?_); rintro e w6 ⟨vg, vk, rfl, hG, hK, hb, hfar⟩; have HG := Aside0.mk hG; obtain ⟨g1p, g1pc, g1l, g1lc, g1s, g1sc, g1k, g1kc, rfl, _, _, _, _⟩ := hG; obtain ⟨A1, c1, rfl, _, _⟩ := hK; have HFA := Aside0.mk (hfar kf (blk_lt BF.out) FAR.out); have hbf := blk_below BF.out hb; have qf2 := blk_cells hbf; have zf2 : ∀ i, w6.frozen? ⟨kf, i, none⟩ = false := blk_frozen hbf; have qa2 := blk_cells (blk_alloc hbf (.cells #[.int .i64 0, .int .i64 0, .int .i64 0, .int .i64 0, .int .i64 0, .int .i64 0, .int .i64 0, .slice none 0 0] 46)); have za2 : ∀ i, (w6.alloc (.cells #[.int .i64 0, .int .i64 0, .int .i64 0, .int .i64 0, .int .i64 0, .int .i64 0, .int .i64 0, .slice none 0 0] 46)).frozen? ⟨kf, i, none⟩ = false := blk_frozen (blk_alloc hbf (.cells #[.int .i64 0, .int .i64 0, .int .i64 0, .int .i64 0, .int .i64 0, .int .i64 0, .int .i64 0, .slice none 0 0] 46)); have n1 : kf ≠ w6.heap.size := (by have := blk_lt hbf; omega); have n2 : w6.heap.size ≠ kf := (by have := blk_lt hbf; omega); have HBN := Aside0.mk hb; have HBF := Aside0.mk hbf)
  clear hn qc qf hfar
  try clear qf2
  try clear zf2
  try clear za2
  try clear qa2
  try clear n1
  try clear n2
  try clear hbf
  try clear hb
  refine nameW ?_
  intro w7 hw
  obtain ⟨bf, ba, hbl, hstay⟩ := again_boxes hw HBF.out
  clear hw
  have HNE : Aside0 (w6.heap.size ≠ kf) := ⟨by have := blk_lt HBF.out; omega⟩
  replace HF := Aside0.mk (HG.out.far HFA.out hstay)
  replace FAR := HFA
  replace BF := Aside0.mk bf
  have BK1 := Aside0.mk ba
  have HNE1 := HNE
  replace HS := Aside0.mk (hbl _ _ HKF.out (below_step HS.out HBN.out))
  clear bf ba hbl hstay HG HFA HBN HBF HNE
  generalize w6.heap.size = kk1 at *
  have qf := blk_cells BF.out
  have qk := blk_cells BK1.out
  have htl : Calls Tryd.prog 23 #[.agg #[.int .i64 (gF 1 1 0 [0, 0] []).task, .slice g1p (gF 1 1 0 [0, 0] []).path.length g1pc, .int .i64 (gF 1 1 0 [0, 0] []).fn, .int .i64 (gF 1 1 0 [0, 0] []).pc, .slice g1l (gF 1 1 0 [0, 0] []).loc.length g1lc, .slice g1s (gF 1 1 0 [0, 0] []).stk.length g1sc, .slice g1k (gF 1 1 0 [0, 0] []).kids.length g1kc, .int .i64 (gF 1 1 0 [0, 0] []).many, .int .i64 (gF 1 1 0 [0, 0] []).spent, .bool (gF 1 1 0 [0, 0] []).fail], .agg #[.int .i64 (gK 4 0).kind, .int .i64 (gK 4 0).a, .int .i64 (gK 4 0).b, .int .i64 (gK 4 0).okind, .int .i64 (gK 4 0).oobj, .int .i64 (gK 4 0).oa, .int .i64 (gK 4 0).ob, .slice A1 (gK 4 0).args.length c1], .slice (some ⟨w7.heap.size, 0, none⟩) 1 1] (w7.alloc (.cells #[.int .i64 7] 3)) (Framed2 (.agg #[.int .i64 (gF 1 1 0 [0, 0] []).task, .slice g1p (gF 1 1 0 [0, 0] []).path.length g1pc, .int .i64 (gF 1 1 0 [0, 0] []).fn, .int .i64 (gF 1 1 0 [0, 0] []).pc, .slice g1l (gF 1 1 0 [0, 0] []).loc.length g1lc, .slice g1s (gF 1 1 0 [0, 0] []).stk.length g1sc, .slice g1k (gF 1 1 0 [0, 0] []).kids.length g1kc, .int .i64 (gF 1 1 0 [0, 0] []).many, .int .i64 (gF 1 1 0 [0, 0] []).spent, .bool (gF 1 1 0 [0, 0] []).fail]) ((gF 1 1 1 [0, 0] [⟨7, 0⟩]), 0) (w7.alloc (.cells #[.int .i64 7] 3))) :=
    told_spawn (gF 1 1 0 [0, 0] []) _ (gK 4 0) _ _ 1 7 _ (HF.out.below (below_alloc (Below.refl _ _) _)) ⟨A1, c1, rfl, Nat.zero_le _, ⟨rfl, by decide, fun h => absurd h (by decide)⟩⟩ (one_row (blk_new w7 _)) rfl (by decide) (by decide) (by decide) (by decide) (by decide) (by decide)
  go_upto_region 7 with ((with_reducible refine htl.mono ?_); rintro e w8 ⟨vg, rfl, hG, hb, hfar⟩; have HG := Aside0.mk hG; obtain ⟨t1p, t1pc, t1l, t1lc, t1s, t1sc, t1k, t1kc, rfl, _, _, _, _⟩ := hG; have hb2 := below_step (below_alloc (Below.refl w7.heap.size w7) (.cells #[.int .i64 7] 3)) hb; have HFA := Aside0.mk (hfar kf (Nat.lt_of_lt_of_le (blk_lt BF.out) (below_alloc (Below.refl w7.heap.size w7) (.cells #[.int .i64 7] 3)).size) FAR.out); have hbf := blk_below BF.out hb2; have qf2 := blk_cells hbf; have zf2 : ∀ i, w8.frozen? ⟨kf, i, none⟩ = false := blk_frozen hbf; have HBN := Aside0.mk hb2; have HBF := Aside0.mk hbf)
  clear htl qf qk hfar
  try clear qf2
  try clear zf2
  try clear hbf
  try clear hb
  try clear hb2
  refine nameW ?_
  intro w9 hw
  obtain ⟨bf, hbl, hstay⟩ := again_told hw HBF.out
  clear hw
  replace HF := Aside0.mk (HG.out.far HFA.out hstay)
  replace FAR := HFA
  replace BF := Aside0.mk bf
  replace HS := Aside0.mk (hbl _ _ HKF.out (below_step HS.out HBN.out))
  replace BK1 := Aside0.mk (blk_stay (blk_below BK1.out HBN.out) HNE1.out hstay)
  clear bf hbl hstay HG HFA HBN HBF
  have qc := blk_cells (blk_below HBc.out HS.out)
  have qf := blk_cells BF.out
  have hn : Calls Tryd.prog 21 #[.agg #[.slice cf (plainC (againL 0) 2).funs.length cfc, .slice cc (plainC (againL 0) 2).cells.length ccc, .int .i64 (plainC (againL 0) 2).maps, .int .i64 (plainC (againL 0) 2).stacks, .int .i64 (plainC (againL 0) 2).chans, .int .i64 (plainC (againL 0) 2).main], .agg #[.int .i64 (gF 1 1 1 [0, 0] [⟨7, 0⟩]).task, .slice t1p (gF 1 1 1 [0, 0] [⟨7, 0⟩]).path.length t1pc, .int .i64 (gF 1 1 1 [0, 0] [⟨7, 0⟩]).fn, .int .i64 (gF 1 1 1 [0, 0] [⟨7, 0⟩]).pc, .slice t1l (gF 1 1 1 [0, 0] [⟨7, 0⟩]).loc.length t1lc, .slice t1s (gF 1 1 1 [0, 0] [⟨7, 0⟩]).stk.length t1sc, .slice t1k (gF 1 1 1 [0, 0] [⟨7, 0⟩]).kids.length t1kc, .int .i64 (gF 1 1 1 [0, 0] [⟨7, 0⟩]).many, .int .i64 (gF 1 1 1 [0, 0] [⟨7, 0⟩]).spent, .bool (gF 1 1 1 [0, 0] [⟨7, 0⟩]).fail]] w9 (Said2 (.agg #[.int .i64 (gF 1 1 1 [0, 0] [⟨7, 0⟩]).task, .slice t1p (gF 1 1 1 [0, 0] [⟨7, 0⟩]).path.length t1pc, .int .i64 (gF 1 1 1 [0, 0] [⟨7, 0⟩]).fn, .int .i64 (gF 1 1 1 [0, 0] [⟨7, 0⟩]).pc, .slice t1l (gF 1 1 1 [0, 0] [⟨7, 0⟩]).loc.length t1lc, .slice t1s (gF 1 1 1 [0, 0] [⟨7, 0⟩]).stk.length t1sc, .slice t1k (gF 1 1 1 [0, 0] [⟨7, 0⟩]).kids.length t1kc, .int .i64 (gF 1 1 1 [0, 0] [⟨7, 0⟩]).many, .int .i64 (gF 1 1 1 [0, 0] [⟨7, 0⟩]).spent, .bool (gF 1 1 1 [0, 0] [⟨7, 0⟩]).fail]) (gF 2 2 1 [0, 0] [⟨7, 0⟩]) (gK 4 0) 0 w9) := by
    have := next_call2 (plainC (againL 0) 2) (gF 1 1 1 [0, 0] [⟨7, 0⟩]) _ _ w9 (HC3.out.below HS.out) HF.out (HT3.out.below HS.out) (show _ ≤ _ by simp [gF])
    rw [if_pos (again0_r1), again0_n1] at this
    exact this
  go_upto_region 8 with ((with_reducible refine hn.mono ?_); rintro e w10 ⟨vg, vk, rfl, hG, hK, hb, hfar⟩; have HG := Aside0.mk hG; obtain ⟨g2p, g2pc, g2l, g2lc, g2s, g2sc, g2k, g2kc, rfl, _, _, _, _⟩ := hG; obtain ⟨A2, c2, rfl, _, _⟩ := hK; have HFA := Aside0.mk (hfar kf (blk_lt BF.out) FAR.out); have hbf := blk_below BF.out hb; have qf2 := blk_cells hbf; have zf2 : ∀ i, w10.frozen? ⟨kf, i, none⟩ = false := blk_frozen hbf; have qa2 := blk_cells (blk_alloc hbf (.cells #[.int .i64 0, .int .i64 0, .int .i64 0, .int .i64 0, .int .i64 0, .int .i64 0, .int .i64 0, .slice none 0 0] 46)); have za2 : ∀ i, (w10.alloc (.cells #[.int .i64 0, .int .i64 0, .int .i64 0, .int .i64 0, .int .i64 0, .int .i64 0, .int .i64 0, .slice none 0 0] 46)).frozen? ⟨kf, i, none⟩ = false := blk_frozen (blk_alloc hbf (.cells #[.int .i64 0, .int .i64 0, .int .i64 0, .int .i64 0, .int .i64 0, .int .i64 0, .int .i64 0, .slice none 0 0] 46)); have n1 : kf ≠ w10.heap.size := (by have := blk_lt hbf; omega); have n2 : w10.heap.size ≠ kf := (by have := blk_lt hbf; omega); have HBN := Aside0.mk hb; have HBF := Aside0.mk hbf)
  clear hn qc qf hfar
  try clear qf2
  try clear zf2
  try clear za2
  try clear qa2
  try clear n1
  try clear n2
  try clear hbf
  try clear hb
  refine nameW ?_
  intro w11 hw
  obtain ⟨bf, ba, hbl, hstay⟩ := again_boxes hw HBF.out
  clear hw
  have HNE : Aside0 (w10.heap.size ≠ kf) := ⟨by have := blk_lt HBF.out; omega⟩
  replace HF := Aside0.mk (HG.out.far HFA.out hstay)
  replace FAR := HFA
  replace BF := Aside0.mk bf
  have BK2 := Aside0.mk ba
  have HNE2 := HNE
  replace HS := Aside0.mk (hbl _ _ HKF.out (below_step HS.out HBN.out))
  replace BK1 := Aside0.mk (blk_stay (blk_below BK1.out HBN.out) HNE1.out hstay)
  clear bf ba hbl hstay HG HFA HBN HBF HNE
  generalize w10.heap.size = kk2 at *
  have qf := blk_cells BF.out
  have qk := blk_cells BK2.out
  have htl : Calls Tryd.prog 23 #[.agg #[.int .i64 (gF 2 2 1 [0, 0] [⟨7, 0⟩]).task, .slice g2p (gF 2 2 1 [0, 0] [⟨7, 0⟩]).path.length g2pc, .int .i64 (gF 2 2 1 [0, 0] [⟨7, 0⟩]).fn, .int .i64 (gF 2 2 1 [0, 0] [⟨7, 0⟩]).pc, .slice g2l (gF 2 2 1 [0, 0] [⟨7, 0⟩]).loc.length g2lc, .slice g2s (gF 2 2 1 [0, 0] [⟨7, 0⟩]).stk.length g2sc, .slice g2k (gF 2 2 1 [0, 0] [⟨7, 0⟩]).kids.length g2kc, .int .i64 (gF 2 2 1 [0, 0] [⟨7, 0⟩]).many, .int .i64 (gF 2 2 1 [0, 0] [⟨7, 0⟩]).spent, .bool (gF 2 2 1 [0, 0] [⟨7, 0⟩]).fail], .agg #[.int .i64 (gK 4 0).kind, .int .i64 (gK 4 0).a, .int .i64 (gK 4 0).b, .int .i64 (gK 4 0).okind, .int .i64 (gK 4 0).oobj, .int .i64 (gK 4 0).oa, .int .i64 (gK 4 0).ob, .slice A2 (gK 4 0).args.length c2], .slice (some ⟨w11.heap.size, 0, none⟩) 1 1] (w11.alloc (.cells #[.int .i64 8] 3)) (Framed2 (.agg #[.int .i64 (gF 2 2 1 [0, 0] [⟨7, 0⟩]).task, .slice g2p (gF 2 2 1 [0, 0] [⟨7, 0⟩]).path.length g2pc, .int .i64 (gF 2 2 1 [0, 0] [⟨7, 0⟩]).fn, .int .i64 (gF 2 2 1 [0, 0] [⟨7, 0⟩]).pc, .slice g2l (gF 2 2 1 [0, 0] [⟨7, 0⟩]).loc.length g2lc, .slice g2s (gF 2 2 1 [0, 0] [⟨7, 0⟩]).stk.length g2sc, .slice g2k (gF 2 2 1 [0, 0] [⟨7, 0⟩]).kids.length g2kc, .int .i64 (gF 2 2 1 [0, 0] [⟨7, 0⟩]).many, .int .i64 (gF 2 2 1 [0, 0] [⟨7, 0⟩]).spent, .bool (gF 2 2 1 [0, 0] [⟨7, 0⟩]).fail]) ((gF 2 2 2 [0, 0] [⟨7, 0⟩, ⟨8, 0⟩]), 0) (w11.alloc (.cells #[.int .i64 8] 3))) :=
    told_spawn (gF 2 2 1 [0, 0] [⟨7, 0⟩]) _ (gK 4 0) _ _ 1 8 _ (HF.out.below (below_alloc (Below.refl _ _) _)) ⟨A2, c2, rfl, Nat.zero_le _, ⟨rfl, by decide, fun h => absurd h (by decide)⟩⟩ (one_row (blk_new w11 _)) rfl (by decide) (by decide) (by decide) (by decide) (by decide) (by decide)
  go_upto_region 9 with ((with_reducible refine htl.mono ?_); rintro e w12 ⟨vg, rfl, hG, hb, hfar⟩; have HG := Aside0.mk hG; obtain ⟨t2p, t2pc, t2l, t2lc, t2s, t2sc, t2k, t2kc, rfl, _, _, _, _⟩ := hG; have hb2 := below_step (below_alloc (Below.refl w11.heap.size w11) (.cells #[.int .i64 8] 3)) hb; have HFA := Aside0.mk (hfar kf (Nat.lt_of_lt_of_le (blk_lt BF.out) (below_alloc (Below.refl w11.heap.size w11) (.cells #[.int .i64 8] 3)).size) FAR.out); have hbf := blk_below BF.out hb2; have qf2 := blk_cells hbf; have zf2 : ∀ i, w12.frozen? ⟨kf, i, none⟩ = false := blk_frozen hbf; have HBN := Aside0.mk hb2; have HBF := Aside0.mk hbf)
  clear htl qf qk hfar
  try clear qf2
  try clear zf2
  try clear hbf
  try clear hb
  try clear hb2
  refine nameW ?_
  intro w13 hw
  obtain ⟨bf, hbl, hstay⟩ := again_told hw HBF.out
  clear hw
  replace HF := Aside0.mk (HG.out.far HFA.out hstay)
  replace FAR := HFA
  replace BF := Aside0.mk bf
  replace HS := Aside0.mk (hbl _ _ HKF.out (below_step HS.out HBN.out))
  replace BK1 := Aside0.mk (blk_stay (blk_below BK1.out HBN.out) HNE1.out hstay)
  replace BK2 := Aside0.mk (blk_stay (blk_below BK2.out HBN.out) HNE2.out hstay)
  clear bf hbl hstay HG HFA HBN HBF
  have qc := blk_cells (blk_below HBc.out HS.out)
  have qf := blk_cells BF.out
  have hn : Calls Tryd.prog 21 #[.agg #[.slice cf (plainC (againL 0) 2).funs.length cfc, .slice cc (plainC (againL 0) 2).cells.length ccc, .int .i64 (plainC (againL 0) 2).maps, .int .i64 (plainC (againL 0) 2).stacks, .int .i64 (plainC (againL 0) 2).chans, .int .i64 (plainC (againL 0) 2).main], .agg #[.int .i64 (gF 2 2 2 [0, 0] [⟨7, 0⟩, ⟨8, 0⟩]).task, .slice t2p (gF 2 2 2 [0, 0] [⟨7, 0⟩, ⟨8, 0⟩]).path.length t2pc, .int .i64 (gF 2 2 2 [0, 0] [⟨7, 0⟩, ⟨8, 0⟩]).fn, .int .i64 (gF 2 2 2 [0, 0] [⟨7, 0⟩, ⟨8, 0⟩]).pc, .slice t2l (gF 2 2 2 [0, 0] [⟨7, 0⟩, ⟨8, 0⟩]).loc.length t2lc, .slice t2s (gF 2 2 2 [0, 0] [⟨7, 0⟩, ⟨8, 0⟩]).stk.length t2sc, .slice t2k (gF 2 2 2 [0, 0] [⟨7, 0⟩, ⟨8, 0⟩]).kids.length t2kc, .int .i64 (gF 2 2 2 [0, 0] [⟨7, 0⟩, ⟨8, 0⟩]).many, .int .i64 (gF 2 2 2 [0, 0] [⟨7, 0⟩, ⟨8, 0⟩]).spent, .bool (gF 2 2 2 [0, 0] [⟨7, 0⟩, ⟨8, 0⟩]).fail]] w13 (Said2 (.agg #[.int .i64 (gF 2 2 2 [0, 0] [⟨7, 0⟩, ⟨8, 0⟩]).task, .slice t2p (gF 2 2 2 [0, 0] [⟨7, 0⟩, ⟨8, 0⟩]).path.length t2pc, .int .i64 (gF 2 2 2 [0, 0] [⟨7, 0⟩, ⟨8, 0⟩]).fn, .int .i64 (gF 2 2 2 [0, 0] [⟨7, 0⟩, ⟨8, 0⟩]).pc, .slice t2l (gF 2 2 2 [0, 0] [⟨7, 0⟩, ⟨8, 0⟩]).loc.length t2lc, .slice t2s (gF 2 2 2 [0, 0] [⟨7, 0⟩, ⟨8, 0⟩]).stk.length t2sc, .slice t2k (gF 2 2 2 [0, 0] [⟨7, 0⟩, ⟨8, 0⟩]).kids.length t2kc, .int .i64 (gF 2 2 2 [0, 0] [⟨7, 0⟩, ⟨8, 0⟩]).many, .int .i64 (gF 2 2 2 [0, 0] [⟨7, 0⟩, ⟨8, 0⟩]).spent, .bool (gF 2 2 2 [0, 0] [⟨7, 0⟩, ⟨8, 0⟩]).fail]) (gF 2 2 2 [0, 0] [⟨7, 0⟩, ⟨8, 0⟩]) (gK 5 0) 0 w13) := by
    have := next_call2 (plainC (againL 0) 2) (gF 2 2 2 [0, 0] [⟨7, 0⟩, ⟨8, 0⟩]) _ _ w13 (HC3.out.below HS.out) HF.out (HT3.out.below HS.out) (show _ ≤ _ by simp [gF])
    rw [if_pos (again0_r2), again0_n2] at this
    exact this
  go_upto_region 10 with ((with_reducible refine hn.mono ?_); rintro e w14 ⟨vg, vk, rfl, hG, hK, hb, hfar⟩; have HG := Aside0.mk hG; obtain ⟨g3p, g3pc, g3l, g3lc, g3s, g3sc, g3k, g3kc, rfl, _, _, _, _⟩ := hG; obtain ⟨A3, c3, rfl, _, _⟩ := hK; have HFA := Aside0.mk (hfar kf (blk_lt BF.out) FAR.out); have hbf := blk_below BF.out hb; have qf2 := blk_cells hbf; have zf2 : ∀ i, w14.frozen? ⟨kf, i, none⟩ = false := blk_frozen hbf; have qa2 := blk_cells (blk_alloc hbf (.cells #[.int .i64 0, .int .i64 0, .int .i64 0, .int .i64 0, .int .i64 0, .int .i64 0, .int .i64 0, .slice none 0 0] 46)); have za2 : ∀ i, (w14.alloc (.cells #[.int .i64 0, .int .i64 0, .int .i64 0, .int .i64 0, .int .i64 0, .int .i64 0, .int .i64 0, .slice none 0 0] 46)).frozen? ⟨kf, i, none⟩ = false := blk_frozen (blk_alloc hbf (.cells #[.int .i64 0, .int .i64 0, .int .i64 0, .int .i64 0, .int .i64 0, .int .i64 0, .int .i64 0, .slice none 0 0] 46)); have n1 : kf ≠ w14.heap.size := (by have := blk_lt hbf; omega); have n2 : w14.heap.size ≠ kf := (by have := blk_lt hbf; omega); have HBN := Aside0.mk hb; have HBF := Aside0.mk hbf)
  clear hn qc qf hfar
  try clear qf2
  try clear zf2
  try clear za2
  try clear qa2
  try clear n1
  try clear n2
  try clear hbf
  try clear hb
  refine nameW ?_
  intro w15 hw
  obtain ⟨bf, ba, hbl, hstay⟩ := again_boxes hw HBF.out
  clear hw
  have HNE : Aside0 (w14.heap.size ≠ kf) := ⟨by have := blk_lt HBF.out; omega⟩
  replace HF := Aside0.mk (HG.out.far HFA.out hstay)
  replace FAR := HFA
  replace BF := Aside0.mk bf
  have BK3 := Aside0.mk ba
  have HNE3 := HNE
  replace HS := Aside0.mk (hbl _ _ HKF.out (below_step HS.out HBN.out))
  replace BK1 := Aside0.mk (blk_stay (blk_below BK1.out HBN.out) HNE1.out hstay)
  replace BK2 := Aside0.mk (blk_stay (blk_below BK2.out HBN.out) HNE2.out hstay)
  clear bf ba hbl hstay HG HFA HBN HBF HNE
  generalize w14.heap.size = kk3 at *
  have qc := blk_cells (blk_below HBc.out HS.out)
  have qf := blk_cells BF.out
  have hn : Calls Tryd.prog 21 #[.agg #[.slice cf (plainC (againL 0) 2).funs.length cfc, .slice cc (plainC (againL 0) 2).cells.length ccc, .int .i64 (plainC (againL 0) 2).maps, .int .i64 (plainC (againL 0) 2).stacks, .int .i64 (plainC (againL 0) 2).chans, .int .i64 (plainC (againL 0) 2).main], .agg #[.int .i64 (gF 2 2 2 [0, 0] [⟨7, 0⟩, ⟨8, 0⟩]).task, .slice g3p (gF 2 2 2 [0, 0] [⟨7, 0⟩, ⟨8, 0⟩]).path.length g3pc, .int .i64 (gF 2 2 2 [0, 0] [⟨7, 0⟩, ⟨8, 0⟩]).fn, .int .i64 (gF 2 2 2 [0, 0] [⟨7, 0⟩, ⟨8, 0⟩]).pc, .slice g3l (gF 2 2 2 [0, 0] [⟨7, 0⟩, ⟨8, 0⟩]).loc.length g3lc, .slice g3s (gF 2 2 2 [0, 0] [⟨7, 0⟩, ⟨8, 0⟩]).stk.length g3sc, .slice g3k (gF 2 2 2 [0, 0] [⟨7, 0⟩, ⟨8, 0⟩]).kids.length g3kc, .int .i64 (gF 2 2 2 [0, 0] [⟨7, 0⟩, ⟨8, 0⟩]).many, .int .i64 (gF 2 2 2 [0, 0] [⟨7, 0⟩, ⟨8, 0⟩]).spent, .bool (gF 2 2 2 [0, 0] [⟨7, 0⟩, ⟨8, 0⟩]).fail]] w15 (Said2 (.agg #[.int .i64 (gF 2 2 2 [0, 0] [⟨7, 0⟩, ⟨8, 0⟩]).task, .slice g3p (gF 2 2 2 [0, 0] [⟨7, 0⟩, ⟨8, 0⟩]).path.length g3pc, .int .i64 (gF 2 2 2 [0, 0] [⟨7, 0⟩, ⟨8, 0⟩]).fn, .int .i64 (gF 2 2 2 [0, 0] [⟨7, 0⟩, ⟨8, 0⟩]).pc, .slice g3l (gF 2 2 2 [0, 0] [⟨7, 0⟩, ⟨8, 0⟩]).loc.length g3lc, .slice g3s (gF 2 2 2 [0, 0] [⟨7, 0⟩, ⟨8, 0⟩]).stk.length g3sc, .slice g3k (gF 2 2 2 [0, 0] [⟨7, 0⟩, ⟨8, 0⟩]).kids.length g3kc, .int .i64 (gF 2 2 2 [0, 0] [⟨7, 0⟩, ⟨8, 0⟩]).many, .int .i64 (gF 2 2 2 [0, 0] [⟨7, 0⟩, ⟨8, 0⟩]).spent, .bool (gF 2 2 2 [0, 0] [⟨7, 0⟩, ⟨8, 0⟩]).fail]) (gF 2 2 2 [0, 0] [⟨7, 0⟩, ⟨8, 0⟩]) (gK 5 0) 0 w15) := by
    have := next_call2 (plainC (againL 0) 2) (gF 2 2 2 [0, 0] [⟨7, 0⟩, ⟨8, 0⟩]) _ _ w15 (HC3.out.below HS.out) HF.out (HT3.out.below HS.out) (show _ ≤ _ by simp [gF])
    rw [if_pos (again0_r2), again0_n2] at this
    exact this
  go_upto_region 11 with ((with_reducible refine hn.mono ?_); rintro e w16 ⟨vg, vk, rfl, hG, hK, hb, hfar⟩; have HG := Aside0.mk hG; obtain ⟨g4p, g4pc, g4l, g4lc, g4s, g4sc, g4k, g4kc, rfl, _, _, _, _⟩ := hG; obtain ⟨A4, c4, rfl, _, _⟩ := hK; have HBN := Aside0.mk hb)
  clear hn qc qf hb hfar
  refine nameW ?_
  intro w17 hw
  obtain ⟨bx, ba, hbx, hsz⟩ := two_boxes hw
  clear hw
  have HBX := Aside0.mk (below_step HBN.out hbx)
  have HX := Aside0.mk (HG.out.below hbx)
  have BX := Aside0.mk bx
  have BK4 := Aside0.mk ba
  replace HF := Aside0.mk (HF.out.below HBX.out)
  replace BF := Aside0.mk (blk_below BF.out HBX.out)
  replace HS := Aside0.mk (below_step HS.out HBX.out)
  replace BK1 := Aside0.mk (blk_below BK1.out HBX.out)
  replace BK2 := Aside0.mk (blk_below BK2.out HBX.out)
  replace BK3 := Aside0.mk (blk_below BK3.out HBX.out)
  clear bx ba hbx hsz HG HBN HBX
  generalize w16.heap.size + 1 = kk4 at *
  generalize w16.heap.size = kx at *
  have r6 : w17.cell? ⟨kf, 6, none⟩ = some (.slice g3k 2 g3kc) := blk_cells BF.out 6
  have qf := blk_cells BX.out
  have qk := blk_cells BK4.out
  have htl : Calls Tryd.prog 23 #[.agg #[.int .i64 (gF 2 2 2 [0, 0] [⟨7, 0⟩, ⟨8, 0⟩]).task, .slice g4p (gF 2 2 2 [0, 0] [⟨7, 0⟩, ⟨8, 0⟩]).path.length g4pc, .int .i64 (gF 2 2 2 [0, 0] [⟨7, 0⟩, ⟨8, 0⟩]).fn, .int .i64 (gF 2 2 2 [0, 0] [⟨7, 0⟩, ⟨8, 0⟩]).pc, .slice g4l (gF 2 2 2 [0, 0] [⟨7, 0⟩, ⟨8, 0⟩]).loc.length g4lc, .slice g4s (gF 2 2 2 [0, 0] [⟨7, 0⟩, ⟨8, 0⟩]).stk.length g4sc, .slice g4k (gF 2 2 2 [0, 0] [⟨7, 0⟩, ⟨8, 0⟩]).kids.length g4kc, .int .i64 (gF 2 2 2 [0, 0] [⟨7, 0⟩, ⟨8, 0⟩]).many, .int .i64 (gF 2 2 2 [0, 0] [⟨7, 0⟩, ⟨8, 0⟩]).spent, .bool (gF 2 2 2 [0, 0] [⟨7, 0⟩, ⟨8, 0⟩]).fail], .agg #[.int .i64 (gK 5 0).kind, .int .i64 (gK 5 0).a, .int .i64 (gK 5 0).b, .int .i64 (gK 5 0).okind, .int .i64 (gK 5 0).oobj, .int .i64 (gK 5 0).oa, .int .i64 (gK 5 0).ob, .slice A4 (gK 5 0).args.length c4], .slice (some ⟨w17.heap.size, 0, none⟩) 2 2] (w17.alloc (.cells #[.int .i64 a, .int .i64 b] 3)) (Framed2 (.agg #[.int .i64 (gF 2 2 2 [0, 0] [⟨7, 0⟩, ⟨8, 0⟩]).task, .slice g4p (gF 2 2 2 [0, 0] [⟨7, 0⟩, ⟨8, 0⟩]).path.length g4pc, .int .i64 (gF 2 2 2 [0, 0] [⟨7, 0⟩, ⟨8, 0⟩]).fn, .int .i64 (gF 2 2 2 [0, 0] [⟨7, 0⟩, ⟨8, 0⟩]).pc, .slice g4l (gF 2 2 2 [0, 0] [⟨7, 0⟩, ⟨8, 0⟩]).loc.length g4lc, .slice g4s (gF 2 2 2 [0, 0] [⟨7, 0⟩, ⟨8, 0⟩]).stk.length g4sc, .slice g4k (gF 2 2 2 [0, 0] [⟨7, 0⟩, ⟨8, 0⟩]).kids.length g4kc, .int .i64 (gF 2 2 2 [0, 0] [⟨7, 0⟩, ⟨8, 0⟩]).many, .int .i64 (gF 2 2 2 [0, 0] [⟨7, 0⟩, ⟨8, 0⟩]).spent, .bool (gF 2 2 2 [0, 0] [⟨7, 0⟩, ⟨8, 0⟩]).fail]) ((gF 2 2 2 [b, 0] []), 0) (w17.alloc (.cells #[.int .i64 a, .int .i64 b] 3))) :=
    told_sync (gF 2 2 2 [0, 0] [⟨7, 0⟩, ⟨8, 0⟩]) _ (gK 5 0) _ _ 2 [a, b] _ (HX.out.below (below_alloc (Below.refl _ _) _)) ⟨A4, c4, rfl, Nat.zero_le _, ⟨rfl, by decide, fun h => absurd h (by decide)⟩⟩ (two_row (blk_new w17 _)) rfl rfl (two_isV HV.out.1 HV.out.2) (by decide) (by decide)
  go_upto_region 14 with ((with_reducible refine htl.mono ?_); rintro e w18 ⟨vg, rfl, hG, hb, hfar⟩; have HG := Aside0.mk hG; obtain ⟨t4p, t4pc, t4l, t4lc, t4s, t4sc, t4k, t4kc, rfl, _, _, _, _⟩ := hG; have hb2 := below_step (below_alloc (Below.refl w17.heap.size w17) (.cells #[.int .i64 a, .int .i64 b] 3)) hb; have HBN := Aside0.mk hb2)
  clear htl qf qk hb hb2 hfar
  refine nameW ?_
  intro w19 hw
  obtain ⟨bx, hbx, hsz⟩ := one_box hw
  clear hw
  have HBX := Aside0.mk (below_step HBN.out hbx)
  have HY := Aside0.mk (HG.out.below hbx)
  have BY := Aside0.mk bx
  replace HF := Aside0.mk (HF.out.below HBX.out)
  replace BF := Aside0.mk (blk_below BF.out HBX.out)
  replace HS := Aside0.mk (below_step HS.out HBX.out)
  replace BK1 := Aside0.mk (blk_below BK1.out HBX.out)
  replace BK2 := Aside0.mk (blk_below BK2.out HBX.out)
  replace BK3 := Aside0.mk (blk_below BK3.out HBX.out)
  replace BK4 := Aside0.mk (blk_below BK4.out HBX.out)
  replace BX := Aside0.mk (blk_below BX.out HBX.out)
  replace HX := Aside0.mk (HX.out.below HBX.out)
  clear bx hbx hsz HG HBN HBX
  generalize w18.heap.size = ky at *
  clear r6
  have qc := blk_cells (blk_below HBc.out HS.out)
  have qf := blk_cells BY.out
  have hn : Calls Tryd.prog 21 #[.agg #[.slice cf (plainC (againL 0) 2).funs.length cfc, .slice cc (plainC (againL 0) 2).cells.length ccc, .int .i64 (plainC (againL 0) 2).maps, .int .i64 (plainC (againL 0) 2).stacks, .int .i64 (plainC (againL 0) 2).chans, .int .i64 (plainC (againL 0) 2).main], .agg #[.int .i64 (gF 2 2 2 [b, 0] []).task, .slice t4p (gF 2 2 2 [b, 0] []).path.length t4pc, .int .i64 (gF 2 2 2 [b, 0] []).fn, .int .i64 (gF 2 2 2 [b, 0] []).pc, .slice t4l (gF 2 2 2 [b, 0] []).loc.length t4lc, .slice t4s (gF 2 2 2 [b, 0] []).stk.length t4sc, .slice t4k (gF 2 2 2 [b, 0] []).kids.length t4kc, .int .i64 (gF 2 2 2 [b, 0] []).many, .int .i64 (gF 2 2 2 [b, 0] []).spent, .bool (gF 2 2 2 [b, 0] []).fail]] w19 (Said2 (.agg #[.int .i64 (gF 2 2 2 [b, 0] []).task, .slice t4p (gF 2 2 2 [b, 0] []).path.length t4pc, .int .i64 (gF 2 2 2 [b, 0] []).fn, .int .i64 (gF 2 2 2 [b, 0] []).pc, .slice t4l (gF 2 2 2 [b, 0] []).loc.length t4lc, .slice t4s (gF 2 2 2 [b, 0] []).stk.length t4sc, .slice t4k (gF 2 2 2 [b, 0] []).kids.length t4kc, .int .i64 (gF 2 2 2 [b, 0] []).many, .int .i64 (gF 2 2 2 [b, 0] []).spent, .bool (gF 2 2 2 [b, 0] []).fail]) (gF 6 6 2 [b, 0] []) ⟨6, rnd (b + 0), 0, 0, 0, 0, 0, []⟩ 0 w19) := by
    have := next_call2 (plainC (againL 0) 2) (gF 2 2 2 [b, 0] []) _ _ w19 (HC3.out.below HS.out) HY.out (HT3.out.below HS.out) (show _ ≤ _ by simp [gF])
    rw [if_pos (again0_r3 a b HV.out.1 HV.out.2), again0_n3 a b] at this
    exact this
  go_upto_region 15 with ((with_reducible refine hn.mono ?_); rintro e w20 ⟨vg, vk, rfl, hG, hK, hb, hfar⟩; have HG := Aside0.mk hG; obtain ⟨g5p, g5pc, g5l, g5lc, g5s, g5sc, g5k, g5kc, rfl, _, _, _, _⟩ := hG; obtain ⟨A5, c5, rfl, _, _⟩ := hK; have HBN := Aside0.mk hb)
  clear hn qc qf hb hfar
  refine nameW ?_
  intro w21 hw
  obtain ⟨bx, ba, hbx, hsz⟩ := two_boxes hw
  clear hw
  have HBX := Aside0.mk (below_step HBN.out hbx)
  have HZ := Aside0.mk (HG.out.below hbx)
  have BZ := Aside0.mk bx
  have BK5 := Aside0.mk ba
  replace HF := Aside0.mk (HF.out.below HBX.out)
  replace BF := Aside0.mk (blk_below BF.out HBX.out)
  replace HS := Aside0.mk (below_step HS.out HBX.out)
  replace BK1 := Aside0.mk (blk_below BK1.out HBX.out)
  replace BK2 := Aside0.mk (blk_below BK2.out HBX.out)
  replace BK3 := Aside0.mk (blk_below BK3.out HBX.out)
  replace BK4 := Aside0.mk (blk_below BK4.out HBX.out)
  replace BX := Aside0.mk (blk_below BX.out HBX.out)
  replace HX := Aside0.mk (HX.out.below HBX.out)
  replace BY := Aside0.mk (blk_below BY.out HBX.out)
  replace HY := Aside0.mk (HY.out.below HBX.out)
  clear bx ba hbx hsz HG HBN HBX
  generalize w20.heap.size + 1 = kk5 at *
  generalize w20.heap.size = kz at *
  have hsm : Calls Tryd.prog 15 #[.agg #[.int .i64 (gF 2 2 2 [0, 0] [⟨7, 0⟩, ⟨8, 0⟩]).task, .slice g3p (gF 2 2 2 [0, 0] [⟨7, 0⟩, ⟨8, 0⟩]).path.length g3pc, .int .i64 (gF 2 2 2 [0, 0] [⟨7, 0⟩, ⟨8, 0⟩]).fn, .int .i64 (gF 2 2 2 [0, 0] [⟨7, 0⟩, ⟨8, 0⟩]).pc, .slice g3l (gF 2 2 2 [0, 0] [⟨7, 0⟩, ⟨8, 0⟩]).loc.length g3lc, .slice g3s (gF 2 2 2 [0, 0] [⟨7, 0⟩, ⟨8, 0⟩]).stk.length g3sc, .slice g3k (gF 2 2 2 [0, 0] [⟨7, 0⟩, ⟨8, 0⟩]).kids.length g3kc, .int .i64 (gF 2 2 2 [0, 0] [⟨7, 0⟩, ⟨8, 0⟩]).many, .int .i64 (gF 2 2 2 [0, 0] [⟨7, 0⟩, ⟨8, 0⟩]).spent, .bool (gF 2 2 2 [0, 0] [⟨7, 0⟩, ⟨8, 0⟩]).fail], .agg #[.int .i64 (gF 2 2 2 [0, 0] [⟨7, 0⟩, ⟨8, 0⟩]).task, .slice g4p (gF 2 2 2 [0, 0] [⟨7, 0⟩, ⟨8, 0⟩]).path.length g4pc, .int .i64 (gF 2 2 2 [0, 0] [⟨7, 0⟩, ⟨8, 0⟩]).fn, .int .i64 (gF 2 2 2 [0, 0] [⟨7, 0⟩, ⟨8, 0⟩]).pc, .slice g4l (gF 2 2 2 [0, 0] [⟨7, 0⟩, ⟨8, 0⟩]).loc.length g4lc, .slice g4s (gF 2 2 2 [0, 0] [⟨7, 0⟩, ⟨8, 0⟩]).stk.length g4sc, .slice g4k (gF 2 2 2 [0, 0] [⟨7, 0⟩, ⟨8, 0⟩]).kids.length g4kc, .int .i64 (gF 2 2 2 [0, 0] [⟨7, 0⟩, ⟨8, 0⟩]).many, .int .i64 (gF 2 2 2 [0, 0] [⟨7, 0⟩, ⟨8, 0⟩]).spent, .bool (gF 2 2 2 [0, 0] [⟨7, 0⟩, ⟨8, 0⟩]).fail]] w21 (Bool1 true w21) := same_call HF.out HX.out (by decide) (by decide) (by decide) (by decide)
  have hq : rnd b = b := by unfold rnd; omega
  have u1 : w21.cell? ⟨kk5, 1, none⟩ = some (.int .i64 b) := (blk_cells BK5.out 1).trans (by simp [hq])
  have u0 : w21.cell? ⟨kk5, 0, none⟩ = some (.int .i64 6) := blk_cells BK5.out 0
  have s0 : w21.cell? ⟨kk3, 0, none⟩ = some (.int .i64 5) := blk_cells BK3.out 0
  have t0 : w21.cell? ⟨kk4, 0, none⟩ = some (.int .i64 5) := blk_cells BK4.out 0
  have z7 : w21.cell? ⟨kz, 7, none⟩ = some (.int .i64 2) := blk_cells BZ.out 7
  have y6 : w21.cell? ⟨ky, 6, none⟩ = some (.slice t4k 0 t4kc) := blk_cells BY.out 6
  have p0 : w21.cell? ⟨kk1, 0, none⟩ = some (.int .i64 4) := blk_cells BK1.out 0
  have p2 : w21.cell? ⟨kk1, 2, none⟩ = some (.int .i64 0) := blk_cells BK1.out 2
  have q2 : w21.cell? ⟨kk2, 2, none⟩ = some (.int .i64 0) := blk_cells BK2.out 2
  have qf := blk_cells BF.out
  have qx := blk_cells BX.out
  have HE := Aside0.mk (below_step HB3.out HS.out)
  have hw1 : Int.tmod b 4294967296 = b := by rw [Int.tmod_eq_emod_of_nonneg hb0]; omega
  clear hq
  go_wp2_with ((with_reducible refine hsm.mono ?_); rintro e w99 ⟨rfl, hb99⟩; have u0 := pw_cell_below hb99 u0; have u1 := pw_cell_below hb99 u1; have z7 := pw_cell_below hb99 z7; have y6 := pw_cell_below hb99 y6; have p0 := pw_cell_below hb99 p0; have p2 := pw_cell_below hb99 p2; have q2 := pw_cell_below hb99 q2)
  go_ret
  exact ⟨rfl, below_step HE.out hb99⟩

set_option maxHeartbeats 40000000 in
set_option maxRecDepth 100000 in
theorem again_d1 (a b dst : Int) (w : World) (ht : Table w) (ha0 : 0 ≤ a) (ha1 : a < 4294967296) (hb0 : 0 ≤ b) (hbb : b < 4294967296) (hd0 : 0 ≤ dst) (hd1 : dst < 256) (hk : dst.tmod 2 = 1) :
    Calls Tryd.prog 5 #[.int .u32 a, .int .u32 b, .int .u8 dst] w (Bool1 true w) := by
  have HT := Aside0.mk ht
  have hsh := shown_call w ht
  have HV : Aside0 (isV a = true ∧ isV b = true) := ⟨by rw [isV_iff]; exact ⟨ha0, ha1⟩, by rw [isV_iff]; exact ⟨hb0, hbb⟩⟩
  clear ht
  go_enter Tryd.func5, Tryd.ntmps5
  go_upto_region 3 with ((with_reducible refine hsh.mono ?_); rintro e w1 ⟨rfl, hb1⟩)
  clear hsh
  have HB1 := Aside0.mk hb1
  clear hb1
  have hpl : Calls Tryd.prog 24 #[.slice (some ⟨w1.heap.size, 0, none⟩) 6 6, .int .i64 2] (w1.alloc (.cells #[.int .i64 13, .int .i64 0, .int .i64 0, .int .i64 0, .int .i64 13, .int .i64 0, .int .i64 0, .int .i64 1, .int .i64 2, .int .i64 0, .int .i64 0, .int .i64 0, .int .i64 2, .int .i64 1, .int .i64 0, .int .i64 0, .int .i64 6, .int .i64 0, .int .i64 0, .int .i64 0, .int .i64 17, .int .i64 0, .int .i64 0, .int .i64 0] 53)) (Coded (plainC (againL 1) 2) w1) :=
    lit_plain w1 (againL 1) 2 6 _ rfl rfl (by decide)
  go_upto_region 4 with ((with_reducible refine hpl.mono ?_); rintro e w2 ⟨vc, rfl, hC, hb2⟩; have HC := Aside0.mk hC; obtain ⟨cf, cfc, cc, ccc, rfl, _, _, _, _⟩ := hC)
  clear hpl
  refine nameW ?_
  intro w3 hw3
  obtain ⟨bc, hbc, hszc⟩ := one_box hw3
  clear hw3
  have HC3 := Aside0.mk (HC.out.below hbc)
  have HBc := Aside0.mk bc
  have HB3 := Aside0.mk (below_step HB1.out (below_step hb2 hbc))
  have HT3 := Aside0.mk (HT.out.below HB3.out)
  clear hb2 hbc hszc bc HC HB1 HT
  generalize w2.heap.size = kc at *
  have qc := blk_cells HBc.out
  have hst : Calls Tryd.prog 12 #[.agg #[.slice cf (plainC (againL 1) 2).funs.length cfc, .slice cc (plainC (againL 1) 2).cells.length ccc, .int .i64 (plainC (againL 1) 2).maps, .int .i64 (plainC (againL 1) 2).stacks, .int .i64 (plainC (againL 1) 2).chans, .int .i64 (plainC (againL 1) 2).main], .int .i64 0, .slice none 0 0, .int .i64 1, .slice (some ⟨w3.heap.size, 0, none⟩) 1 1] (w3.alloc (.cells #[.int .i64 4] 3)) (Framed ((gF 0 0 0 [0, 0] []), 0) (w3.alloc (.cells #[.int .i64 4] 3))) := by
    have := start_call (plainC (againL 1) 2) _ 0 none 0 [] 1 (some ⟨w3.heap.size, 0, none⟩) 1 [4] (w3.alloc (.cells #[.int .i64 4] 3)) (HC3.out.below (below_alloc (Below.refl _ _) _)) (Kd.C_nil _ _) (one_row (blk_new w3 _)) (by decide) (fun _ _ => (show (2 : Int) < 1000000 by decide))
    rw [again_start] at this
    exact this
  go_upto_region 5 with ((with_reducible refine hst.mono ?_); rintro e w4 ⟨vf, rfl, hF, hb4⟩; have HF4 := Aside0.mk hF; obtain ⟨fp, fpc, fl, flc, fs, fsc, fk, fkc, rfl, _, _, _, _⟩ := hF)
  clear hst qc
  refine nameW ?_
  intro w5 hw5
  obtain ⟨bf, hbf, hszf⟩ := one_box hw5
  clear hw5
  have hS4 : Below w3.heap.size w3 w4 := below_step (below_alloc (Below.refl _ _) _) hb4
  have HKF := Aside0.mk hS4.size
  have HS := Aside0.mk (below_step hS4 hbf)
  have FAR := Aside0.mk (HF4.out.later (Nat.le_refl _))
  have HF := Aside0.mk (HF4.out.below hbf)
  have BF := Aside0.mk bf
  clear hb4 hbf hszf bf hS4 HF4
  generalize w4.heap.size = kf at *
  have qc := blk_cells (blk_below HBc.out HS.out)
  have qf := blk_cells BF.out
  have hn : Calls Tryd.prog 21 #[.agg #[.slice cf (plainC (againL 1) 2).funs.length cfc, .slice cc (plainC (againL 1) 2).cells.length ccc, .int .i64 (plainC (againL 1) 2).maps, .int .i64 (plainC (againL 1) 2).stacks, .int .i64 (plainC (againL 1) 2).chans, .int .i64 (plainC (againL 1) 2).main], .agg #[.int .i64 (gF 0 0 0 [0, 0] []).task, .slice fp (gF 0 0 0 [0, 0] []).path.length fpc, .int .i64 (gF 0 0 0 [0, 0] []).fn, .int .i64 (gF 0 0 0 [0, 0] []).pc, .slice fl (gF 0 0 0 [0, 0] []).loc.length flc, .slice fs (gF 0 0 0 [0, 0] []).stk.length fsc, .slice fk (gF 0 0 0 [0, 0] []).kids.length fkc, .int .i64 (gF 0 0 0 [0, 0] []).many, .int .i64 (gF 0 0 0 [0, 0] []).spent, .bool (gF 0 0 0 [0, 0] []).fail]] w5 (Said2 (.agg #[.int .i64 (gF 0 0 0 [0, 0] []).task, .slice fp (gF 0 0 0 [0, 0] []).path.length fpc, .int .i64 (gF 0 0 0 [0, 0] []).fn, .int .i64 (gF 0 0 0 [0, 0] []).pc, .slice fl (gF 0 0 0 [0, 0] []).loc.length flc, .slice fs (gF 0 0 0 [0, 0] []).stk.length fsc, .slice fk (gF 0 0 0 [0, 0] []).kids.length fkc, .int .i64 (gF 0 0 0 [0, 0] []).many, .int .i64 (gF 0 0 0 [0, 0] []).spent, .bool (gF 0 0 0 [0, 0] []).fail]) (gF 1 1 0 [0, 0] []) (gK 4 0) 0 w5) := by
    have := next_call2 (plainC (againL 1) 2) (gF 0 0 0 [0, 0] []) _ _ w5 (HC3.out.below HS.out) HF.out (HT3.out.below HS.out) (show _ ≤ _ by simp [gF])
    rw [if_pos (again1_r0), again1_n0] at this
    exact this
  go_upto_region 6 with ((with_reducible refine hn.mono ?_); rintro e w6 ⟨vg, vk, rfl, hG, hK, hb, hfar⟩; have HG := Aside0.mk hG; obtain ⟨g1p, g1pc, g1l, g1lc, g1s, g1sc, g1k, g1kc, rfl, _, _, _, _⟩ := hG; obtain ⟨A1, c1, rfl, _, _⟩ := hK; have HFA := Aside0.mk (hfar kf (blk_lt BF.out) FAR.out); have hbf := blk_below BF.out hb; have qf2 := blk_cells hbf; have zf2 : ∀ i, w6.frozen? ⟨kf, i, none⟩ = false := blk_frozen hbf; have qa2 := blk_cells (blk_alloc hbf (.cells #[.int .i64 0, .int .i64 0, .int .i64 0, .int .i64 0, .int .i64 0, .int .i64 0, .int .i64 0, .slice none 0 0] 46)); have za2 : ∀ i, (w6.alloc (.cells #[.int .i64 0, .int .i64 0, .int .i64 0, .int .i64 0, .int .i64 0, .int .i64 0, .int .i64 0, .slice none 0 0] 46)).frozen? ⟨kf, i, none⟩ = false := blk_frozen (blk_alloc hbf (.cells #[.int .i64 0, .int .i64 0, .int .i64 0, .int .i64 0, .int .i64 0, .int .i64 0, .int .i64 0, .slice none 0 0] 46)); have n1 : kf ≠ w6.heap.size := (by have := blk_lt hbf; omega); have n2 : w6.heap.size ≠ kf := (by have := blk_lt hbf; omega); have HBN := Aside0.mk hb; have HBF := Aside0.mk hbf)
  clear hn qc qf hfar
  try clear qf2
  try clear zf2
  try clear za2
  try clear qa2
  try clear n1
  try clear n2
  try clear hbf
  try clear hb
  refine nameW ?_
  intro w7 hw
  obtain ⟨bf, ba, hbl, hstay⟩ := again_boxes hw HBF.out
  clear hw
  have HNE : Aside0 (w6.heap.size ≠ kf) := ⟨by have := blk_lt HBF.out; omega⟩
  replace HF := Aside0.mk (HG.out.far HFA.out hstay)
  replace FAR := HFA
  replace BF := Aside0.mk bf
  have BK1 := Aside0.mk ba
  have HNE1 := HNE
  replace HS := Aside0.mk (hbl _ _ HKF.out (below_step HS.out HBN.out))
  clear bf ba hbl hstay HG HFA HBN HBF HNE
  generalize w6.heap.size = kk1 at *
  have qf := blk_cells BF.out
  have qk := blk_cells BK1.out
  have htl : Calls Tryd.prog 23 #[.agg #[.int .i64 (gF 1 1 0 [0, 0] []).task, .slice g1p (gF 1 1 0 [0, 0] []).path.length g1pc, .int .i64 (gF 1 1 0 [0, 0] []).fn, .int .i64 (gF 1 1 0 [0, 0] []).pc, .slice g1l (gF 1 1 0 [0, 0] []).loc.length g1lc, .slice g1s (gF 1 1 0 [0, 0] []).stk.length g1sc, .slice g1k (gF 1 1 0 [0, 0] []).kids.length g1kc, .int .i64 (gF 1 1 0 [0, 0] []).many, .int .i64 (gF 1 1 0 [0, 0] []).spent, .bool (gF 1 1 0 [0, 0] []).fail], .agg #[.int .i64 (gK 4 0).kind, .int .i64 (gK 4 0).a, .int .i64 (gK 4 0).b, .int .i64 (gK 4 0).okind, .int .i64 (gK 4 0).oobj, .int .i64 (gK 4 0).oa, .int .i64 (gK 4 0).ob, .slice A1 (gK 4 0).args.length c1], .slice (some ⟨w7.heap.size, 0, none⟩) 1 1] (w7.alloc (.cells #[.int .i64 7] 3)) (Framed2 (.agg #[.int .i64 (gF 1 1 0 [0, 0] []).task, .slice g1p (gF 1 1 0 [0, 0] []).path.length g1pc, .int .i64 (gF 1 1 0 [0, 0] []).fn, .int .i64 (gF 1 1 0 [0, 0] []).pc, .slice g1l (gF 1 1 0 [0, 0] []).loc.length g1lc, .slice g1s (gF 1 1 0 [0, 0] []).stk.length g1sc, .slice g1k (gF 1 1 0 [0, 0] []).kids.length g1kc, .int .i64 (gF 1 1 0 [0, 0] []).many, .int .i64 (gF 1 1 0 [0, 0] []).spent, .bool (gF 1 1 0 [0, 0] []).fail]) ((gF 1 1 1 [0, 0] [⟨7, 0⟩]), 0) (w7.alloc (.cells #[.int .i64 7] 3))) :=
    told_spawn (gF 1 1 0 [0, 0] []) _ (gK 4 0) _ _ 1 7 _ (HF.out.below (below_alloc (Below.refl _ _) _)) ⟨A1, c1, rfl, Nat.zero_le _, ⟨rfl, by decide, fun h => absurd h (by decide)⟩⟩ (one_row (blk_new w7 _)) rfl (by decide) (by decide) (by decide) (by decide) (by decide) (by decide)
  go_upto_region 7 with ((with_reducible refine htl.mono ?_); rintro e w8 ⟨vg, rfl, hG, hb, hfar⟩; have HG := Aside0.mk hG; obtain ⟨t1p, t1pc, t1l, t1lc, t1s, t1sc, t1k, t1kc, rfl, _, _, _, _⟩ := hG; have hb2 := below_step (below_alloc (Below.refl w7.heap.size w7) (.cells #[.int .i64 7] 3)) hb; have HFA := Aside0.mk (hfar kf (Nat.lt_of_lt_of_le (blk_lt BF.out) (below_alloc (Below.refl w7.heap.size w7) (.cells #[.int .i64 7] 3)).size) FAR.out); have hbf := blk_below BF.out hb2; have qf2 := blk_cells hbf; have zf2 : ∀ i, w8.frozen? ⟨kf, i, none⟩ = false := blk_frozen hbf; have HBN := Aside0.mk hb2; have HBF := Aside0.mk hbf)
  clear htl qf qk hfar
  try clear qf2
  try clear zf2
  try clear hbf
  try clear hb
  try clear hb2
  refine nameW ?_
  intro w9 hw
  obtain ⟨bf, hbl, hstay⟩ := again_told hw HBF.out
  clear hw
  replace HF := Aside0.mk (HG.out.far HFA.out hstay)
  replace FAR := HFA
  replace BF := Aside0.mk bf
  replace HS := Aside0.mk (hbl _ _ HKF.out (below_step HS.out HBN.out))
  replace BK1 := Aside0.mk (blk_stay (blk_below BK1.out HBN.out) HNE1.out hstay)
  clear bf hbl hstay HG HFA HBN HBF
  have qc := blk_cells (blk_below HBc.out HS.out)
  have qf := blk_cells BF.out
  have hn : Calls Tryd.prog 21 #[.agg #[.slice cf (plainC (againL 1) 2).funs.length cfc, .slice cc (plainC (againL 1) 2).cells.length ccc, .int .i64 (plainC (againL 1) 2).maps, .int .i64 (plainC (againL 1) 2).stacks, .int .i64 (plainC (againL 1) 2).chans, .int .i64 (plainC (againL 1) 2).main], .agg #[.int .i64 (gF 1 1 1 [0, 0] [⟨7, 0⟩]).task, .slice t1p (gF 1 1 1 [0, 0] [⟨7, 0⟩]).path.length t1pc, .int .i64 (gF 1 1 1 [0, 0] [⟨7, 0⟩]).fn, .int .i64 (gF 1 1 1 [0, 0] [⟨7, 0⟩]).pc, .slice t1l (gF 1 1 1 [0, 0] [⟨7, 0⟩]).loc.length t1lc, .slice t1s (gF 1 1 1 [0, 0] [⟨7, 0⟩]).stk.length t1sc, .slice t1k (gF 1 1 1 [0, 0] [⟨7, 0⟩]).kids.length t1kc, .int .i64 (gF 1 1 1 [0, 0] [⟨7, 0⟩]).many, .int .i64 (gF 1 1 1 [0, 0] [⟨7, 0⟩]).spent, .bool (gF 1 1 1 [0, 0] [⟨7, 0⟩]).fail]] w9 (Said2 (.agg #[.int .i64 (gF 1 1 1 [0, 0] [⟨7, 0⟩]).task, .slice t1p (gF 1 1 1 [0, 0] [⟨7, 0⟩]).path.length t1pc, .int .i64 (gF 1 1 1 [0, 0] [⟨7, 0⟩]).fn, .int .i64 (gF 1 1 1 [0, 0] [⟨7, 0⟩]).pc, .slice t1l (gF 1 1 1 [0, 0] [⟨7, 0⟩]).loc.length t1lc, .slice t1s (gF 1 1 1 [0, 0] [⟨7, 0⟩]).stk.length t1sc, .slice t1k (gF 1 1 1 [0, 0] [⟨7, 0⟩]).kids.length t1kc, .int .i64 (gF 1 1 1 [0, 0] [⟨7, 0⟩]).many, .int .i64 (gF 1 1 1 [0, 0] [⟨7, 0⟩]).spent, .bool (gF 1 1 1 [0, 0] [⟨7, 0⟩]).fail]) (gF 2 2 1 [0, 0] [⟨7, 0⟩]) (gK 4 1) 0 w9) := by
    have := next_call2 (plainC (againL 1) 2) (gF 1 1 1 [0, 0] [⟨7, 0⟩]) _ _ w9 (HC3.out.below HS.out) HF.out (HT3.out.below HS.out) (show _ ≤ _ by simp [gF])
    rw [if_pos (again1_r1), again1_n1] at this
    exact this
  go_upto_region 8 with ((with_reducible refine hn.mono ?_); rintro e w10 ⟨vg, vk, rfl, hG, hK, hb, hfar⟩; have HG := Aside0.mk hG; obtain ⟨g2p, g2pc, g2l, g2lc, g2s, g2sc, g2k, g2kc, rfl, _, _, _, _⟩ := hG; obtain ⟨A2, c2, rfl, _, _⟩ := hK; have HFA := Aside0.mk (hfar kf (blk_lt BF.out) FAR.out); have hbf := blk_below BF.out hb; have qf2 := blk_cells hbf; have zf2 : ∀ i, w10.frozen? ⟨kf, i, none⟩ = false := blk_frozen hbf; have qa2 := blk_cells (blk_alloc hbf (.cells #[.int .i64 0, .int .i64 0, .int .i64 0, .int .i64 0, .int .i64 0, .int .i64 0, .int .i64 0, .slice none 0 0] 46)); have za2 : ∀ i, (w10.alloc (.cells #[.int .i64 0, .int .i64 0, .int .i64 0, .int .i64 0, .int .i64 0, .int .i64 0, .int .i64 0, .slice none 0 0] 46)).frozen? ⟨kf, i, none⟩ = false := blk_frozen (blk_alloc hbf (.cells #[.int .i64 0, .int .i64 0, .int .i64 0, .int .i64 0, .int .i64 0, .int .i64 0, .int .i64 0, .slice none 0 0] 46)); have n1 : kf ≠ w10.heap.size := (by have := blk_lt hbf; omega); have n2 : w10.heap.size ≠ kf := (by have := blk_lt hbf; omega); have HBN := Aside0.mk hb; have HBF := Aside0.mk hbf)
  clear hn qc qf hfar
  try clear qf2
  try clear zf2
  try clear za2
  try clear qa2
  try clear n1
  try clear n2
  try clear hbf
  try clear hb
  refine nameW ?_
  intro w11 hw
  obtain ⟨bf, ba, hbl, hstay⟩ := again_boxes hw HBF.out
  clear hw
  have HNE : Aside0 (w10.heap.size ≠ kf) := ⟨by have := blk_lt HBF.out; omega⟩
  replace HF := Aside0.mk (HG.out.far HFA.out hstay)
  replace FAR := HFA
  replace BF := Aside0.mk bf
  have BK2 := Aside0.mk ba
  have HNE2 := HNE
  replace HS := Aside0.mk (hbl _ _ HKF.out (below_step HS.out HBN.out))
  replace BK1 := Aside0.mk (blk_stay (blk_below BK1.out HBN.out) HNE1.out hstay)
  clear bf ba hbl hstay HG HFA HBN HBF HNE
  generalize w10.heap.size = kk2 at *
  have qf := blk_cells BF.out
  have qk := blk_cells BK2.out
  have htl : Calls Tryd.prog 23 #[.agg #[.int .i64 (gF 2 2 1 [0, 0] [⟨7, 0⟩]).task, .slice g2p (gF 2 2 1 [0, 0] [⟨7, 0⟩]).path.length g2pc, .int .i64 (gF 2 2 1 [0, 0] [⟨7, 0⟩]).fn, .int .i64 (gF 2 2 1 [0, 0] [⟨7, 0⟩]).pc, .slice g2l (gF 2 2 1 [0, 0] [⟨7, 0⟩]).loc.length g2lc, .slice g2s (gF 2 2 1 [0, 0] [⟨7, 0⟩]).stk.length g2sc, .slice g2k (gF 2 2 1 [0, 0] [⟨7, 0⟩]).kids.length g2kc, .int .i64 (gF 2 2 1 [0, 0] [⟨7, 0⟩]).many, .int .i64 (gF 2 2 1 [0, 0] [⟨7, 0⟩]).spent, .bool (gF 2 2 1 [0, 0] [⟨7, 0⟩]).fail], .agg #[.int .i64 (gK 4 1).kind, .int .i64 (gK 4 1).a, .int .i64 (gK 4 1).b, .int .i64 (gK 4 1).okind, .int .i64 (gK 4 1).oobj, .int .i64 (gK 4 1).oa, .int .i64 (gK 4 1).ob, .slice A2 (gK 4 1).args.length c2], .slice (some ⟨w11.heap.size, 0, none⟩) 1 1] (w11.alloc (.cells #[.int .i64 8] 3)) (Framed2 (.agg #[.int .i64 (gF 2 2 1 [0, 0] [⟨7, 0⟩]).task, .slice g2p (gF 2 2 1 [0, 0] [⟨7, 0⟩]).path.length g2pc, .int .i64 (gF 2 2 1 [0, 0] [⟨7, 0⟩]).fn, .int .i64 (gF 2 2 1 [0, 0] [⟨7, 0⟩]).pc, .slice g2l (gF 2 2 1 [0, 0] [⟨7, 0⟩]).loc.length g2lc, .slice g2s (gF 2 2 1 [0, 0] [⟨7, 0⟩]).stk.length g2sc, .slice g2k (gF 2 2 1 [0, 0] [⟨7, 0⟩]).kids.length g2kc, .int .i64 (gF 2 2 1 [0, 0] [⟨7, 0⟩]).many, .int .i64 (gF 2 2 1 [0, 0] [⟨7, 0⟩]).spent, .bool (gF 2 2 1 [0, 0] [⟨7, 0⟩]).fail]) ((gF 2 2 2 [0, 0] [⟨7, 0⟩, ⟨8, 1⟩]), 0) (w11.alloc (.cells #[.int .i64 8] 3))) :=
    told_spawn (gF 2 2 1 [0, 0] [⟨7, 0⟩]) _ (gK 4 1) _ _ 1 8 _ (HF.out.below (below_alloc (Below.refl _ _) _)) ⟨A2, c2, rfl, Nat.zero_le _, ⟨rfl, by decide, fun h => absurd h (by decide)⟩⟩ (one_row (blk_new w11 _)) rfl (by decide) (by decide) (by decide) (by decide) (by decide) (by decide)
  go_upto_region 9 with ((with_reducible refine htl.mono ?_); rintro e w12 ⟨vg, rfl, hG, hb, hfar⟩; have HG := Aside0.mk hG; obtain ⟨t2p, t2pc, t2l, t2lc, t2s, t2sc, t2k, t2kc, rfl, _, _, _, _⟩ := hG; have hb2 := below_step (below_alloc (Below.refl w11.heap.size w11) (.cells #[.int .i64 8] 3)) hb; have HFA := Aside0.mk (hfar kf (Nat.lt_of_lt_of_le (blk_lt BF.out) (below_alloc (Below.refl w11.heap.size w11) (.cells #[.int .i64 8] 3)).size) FAR.out); have hbf := blk_below BF.out hb2; have qf2 := blk_cells hbf; have zf2 : ∀ i, w12.frozen? ⟨kf, i, none⟩ = false := blk_frozen hbf; have HBN := Aside0.mk hb2; have HBF := Aside0.mk hbf)
  clear htl qf qk hfar
  try clear qf2
  try clear zf2
  try clear hbf
  try clear hb
  try clear hb2
  refine nameW ?_
  intro w13 hw
  obtain ⟨bf, hbl, hstay⟩ := again_told hw HBF.out
  clear hw
  replace HF := Aside0.mk (HG.out.far HFA.out hstay)
  replace FAR := HFA
  replace BF := Aside0.mk bf
  replace HS := Aside0.mk (hbl _ _ HKF.out (below_step HS.out HBN.out))
  replace BK1 := Aside0.mk (blk_stay (blk_below BK1.out HBN.out) HNE1.out hstay)
  replace BK2 := Aside0.mk (blk_stay (blk_below BK2.out HBN.out) HNE2.out hstay)
  clear bf hbl hstay HG HFA HBN HBF
  have qc := blk_cells (blk_below HBc.out HS.out)
  have qf := blk_cells BF.out
  have hn : Calls Tryd.prog 21 #[.agg #[.slice cf (plainC (againL 1) 2).funs.length cfc, .slice cc (plainC (againL 1) 2).cells.length ccc, .int .i64 (plainC (againL 1) 2).maps, .int .i64 (plainC (againL 1) 2).stacks, .int .i64 (plainC (againL 1) 2).chans, .int .i64 (plainC (againL 1) 2).main], .agg #[.int .i64 (gF 2 2 2 [0, 0] [⟨7, 0⟩, ⟨8, 1⟩]).task, .slice t2p (gF 2 2 2 [0, 0] [⟨7, 0⟩, ⟨8, 1⟩]).path.length t2pc, .int .i64 (gF 2 2 2 [0, 0] [⟨7, 0⟩, ⟨8, 1⟩]).fn, .int .i64 (gF 2 2 2 [0, 0] [⟨7, 0⟩, ⟨8, 1⟩]).pc, .slice t2l (gF 2 2 2 [0, 0] [⟨7, 0⟩, ⟨8, 1⟩]).loc.length t2lc, .slice t2s (gF 2 2 2 [0, 0] [⟨7, 0⟩, ⟨8, 1⟩]).stk.length t2sc, .slice t2k (gF 2 2 2 [0, 0] [⟨7, 0⟩, ⟨8, 1⟩]).kids.length t2kc, .int .i64 (gF 2 2 2 [0, 0] [⟨7, 0⟩, ⟨8, 1⟩]).many, .int .i64 (gF 2 2 2 [0, 0] [⟨7, 0⟩, ⟨8, 1⟩]).spent, .bool (gF 2 2 2 [0, 0] [⟨7, 0⟩, ⟨8, 1⟩]).fail]] w13 (Said2 (.agg #[.int .i64 (gF 2 2 2 [0, 0] [⟨7, 0⟩, ⟨8, 1⟩]).task, .slice t2p (gF 2 2 2 [0, 0] [⟨7, 0⟩, ⟨8, 1⟩]).path.length t2pc, .int .i64 (gF 2 2 2 [0, 0] [⟨7, 0⟩, ⟨8, 1⟩]).fn, .int .i64 (gF 2 2 2 [0, 0] [⟨7, 0⟩, ⟨8, 1⟩]).pc, .slice t2l (gF 2 2 2 [0, 0] [⟨7, 0⟩, ⟨8, 1⟩]).loc.length t2lc, .slice t2s (gF 2 2 2 [0, 0] [⟨7, 0⟩, ⟨8, 1⟩]).stk.length t2sc, .slice t2k (gF 2 2 2 [0, 0] [⟨7, 0⟩, ⟨8, 1⟩]).kids.length t2kc, .int .i64 (gF 2 2 2 [0, 0] [⟨7, 0⟩, ⟨8, 1⟩]).many, .int .i64 (gF 2 2 2 [0, 0] [⟨7, 0⟩, ⟨8, 1⟩]).spent, .bool (gF 2 2 2 [0, 0] [⟨7, 0⟩, ⟨8, 1⟩]).fail]) (gF 2 2 2 [0, 0] [⟨7, 0⟩, ⟨8, 1⟩]) (gK 5 0) 0 w13) := by
    have := next_call2 (plainC (againL 1) 2) (gF 2 2 2 [0, 0] [⟨7, 0⟩, ⟨8, 1⟩]) _ _ w13 (HC3.out.below HS.out) HF.out (HT3.out.below HS.out) (show _ ≤ _ by simp [gF])
    rw [if_pos (again1_r2), again1_n2] at this
    exact this
  go_upto_region 10 with ((with_reducible refine hn.mono ?_); rintro e w14 ⟨vg, vk, rfl, hG, hK, hb, hfar⟩; have HG := Aside0.mk hG; obtain ⟨g3p, g3pc, g3l, g3lc, g3s, g3sc, g3k, g3kc, rfl, _, _, _, _⟩ := hG; obtain ⟨A3, c3, rfl, _, _⟩ := hK; have HFA := Aside0.mk (hfar kf (blk_lt BF.out) FAR.out); have hbf := blk_below BF.out hb; have qf2 := blk_cells hbf; have zf2 : ∀ i, w14.frozen? ⟨kf, i, none⟩ = false := blk_frozen hbf; have qa2 := blk_cells (blk_alloc hbf (.cells #[.int .i64 0, .int .i64 0, .int .i64 0, .int .i64 0, .int .i64 0, .int .i64 0, .int .i64 0, .slice none 0 0] 46)); have za2 : ∀ i, (w14.alloc (.cells #[.int .i64 0, .int .i64 0, .int .i64 0, .int .i64 0, .int .i64 0, .int .i64 0, .int .i64 0, .slice none 0 0] 46)).frozen? ⟨kf, i, none⟩ = false := blk_frozen (blk_alloc hbf (.cells #[.int .i64 0, .int .i64 0, .int .i64 0, .int .i64 0, .int .i64 0, .int .i64 0, .int .i64 0, .slice none 0 0] 46)); have n1 : kf ≠ w14.heap.size := (by have := blk_lt hbf; omega); have n2 : w14.heap.size ≠ kf := (by have := blk_lt hbf; omega); have HBN := Aside0.mk hb; have HBF := Aside0.mk hbf)
  clear hn qc qf hfar
  try clear qf2
  try clear zf2
  try clear za2
  try clear qa2
  try clear n1
  try clear n2
  try clear hbf
  try clear hb
  refine nameW ?_
  intro w15 hw
  obtain ⟨bf, ba, hbl, hstay⟩ := again_boxes hw HBF.out
  clear hw
  have HNE : Aside0 (w14.heap.size ≠ kf) := ⟨by have := blk_lt HBF.out; omega⟩
  replace HF := Aside0.mk (HG.out.far HFA.out hstay)
  replace FAR := HFA
  replace BF := Aside0.mk bf
  have BK3 := Aside0.mk ba
  have HNE3 := HNE
  replace HS := Aside0.mk (hbl _ _ HKF.out (below_step HS.out HBN.out))
  replace BK1 := Aside0.mk (blk_stay (blk_below BK1.out HBN.out) HNE1.out hstay)
  replace BK2 := Aside0.mk (blk_stay (blk_below BK2.out HBN.out) HNE2.out hstay)
  clear bf ba hbl hstay HG HFA HBN HBF HNE
  generalize w14.heap.size = kk3 at *
  have qc := blk_cells (blk_below HBc.out HS.out)
  have qf := blk_cells BF.out
  have hn : Calls Tryd.prog 21 #[.agg #[.slice cf (plainC (againL 1) 2).funs.length cfc, .slice cc (plainC (againL 1) 2).cells.length ccc, .int .i64 (plainC (againL 1) 2).maps, .int .i64 (plainC (againL 1) 2).stacks, .int .i64 (plainC (againL 1) 2).chans, .int .i64 (plainC (againL 1) 2).main], .agg #[.int .i64 (gF 2 2 2 [0, 0] [⟨7, 0⟩, ⟨8, 1⟩]).task, .slice g3p (gF 2 2 2 [0, 0] [⟨7, 0⟩, ⟨8, 1⟩]).path.length g3pc, .int .i64 (gF 2 2 2 [0, 0] [⟨7, 0⟩, ⟨8, 1⟩]).fn, .int .i64 (gF 2 2 2 [0, 0] [⟨7, 0⟩, ⟨8, 1⟩]).pc, .slice g3l (gF 2 2 2 [0, 0] [⟨7, 0⟩, ⟨8, 1⟩]).loc.length g3lc, .slice g3s (gF 2 2 2 [0, 0] [⟨7, 0⟩, ⟨8, 1⟩]).stk.length g3sc, .slice g3k (gF 2 2 2 [0, 0] [⟨7, 0⟩, ⟨8, 1⟩]).kids.length g3kc, .int .i64 (gF 2 2 2 [0, 0] [⟨7, 0⟩, ⟨8, 1⟩]).many, .int .i64 (gF 2 2 2 [0, 0] [⟨7, 0⟩, ⟨8, 1⟩]).spent, .bool (gF 2 2 2 [0, 0] [⟨7, 0⟩, ⟨8, 1⟩]).fail]] w15 (Said2 (.agg #[.int .i64 (gF 2 2 2 [0, 0] [⟨7, 0⟩, ⟨8, 1⟩]).task, .slice g3p (gF 2 2 2 [0, 0] [⟨7, 0⟩, ⟨8, 1⟩]).path.length g3pc, .int .i64 (gF 2 2 2 [0, 0] [⟨7, 0⟩, ⟨8, 1⟩]).fn, .int .i64 (gF 2 2 2 [0, 0] [⟨7, 0⟩, ⟨8, 1⟩]).pc, .slice g3l (gF 2 2 2 [0, 0] [⟨7, 0⟩, ⟨8, 1⟩]).loc.length g3lc, .slice g3s (gF 2 2 2 [0, 0] [⟨7, 0⟩, ⟨8, 1⟩]).stk.length g3sc, .slice g3k (gF 2 2 2 [0, 0] [⟨7, 0⟩, ⟨8, 1⟩]).kids.length g3kc, .int .i64 (gF 2 2 2 [0, 0] [⟨7, 0⟩, ⟨8, 1⟩]).many, .int .i64 (gF 2 2 2 [0, 0] [⟨7, 0⟩, ⟨8, 1⟩]).spent, .bool (gF 2 2 2 [0, 0] [⟨7, 0⟩, ⟨8, 1⟩]).fail]) (gF 2 2 2 [0, 0] [⟨7, 0⟩, ⟨8, 1⟩]) (gK 5 0) 0 w15) := by
    have := next_call2 (plainC (againL 1) 2) (gF 2 2 2 [0, 0] [⟨7, 0⟩, ⟨8, 1⟩]) _ _ w15 (HC3.out.below HS.out) HF.out (HT3.out.below HS.out) (show _ ≤ _ by simp [gF])
    rw [if_pos (again1_r2), again1_n2] at this
    exact this
  go_upto_region 11 with ((with_reducible refine hn.mono ?_); rintro e w16 ⟨vg, vk, rfl, hG, hK, hb, hfar⟩; have HG := Aside0.mk hG; obtain ⟨g4p, g4pc, g4l, g4lc, g4s, g4sc, g4k, g4kc, rfl, _, _, _, _⟩ := hG; obtain ⟨A4, c4, rfl, _, _⟩ := hK; have HBN := Aside0.mk hb)
  clear hn qc qf hb hfar
  refine nameW ?_
  intro w17 hw
  obtain ⟨bx, ba, hbx, hsz⟩ := two_boxes hw
  clear hw
  have HBX := Aside0.mk (below_step HBN.out hbx)
  have HX := Aside0.mk (HG.out.below hbx)
  have BX := Aside0.mk bx
  have BK4 := Aside0.mk ba
  replace HF := Aside0.mk (HF.out.below HBX.out)
  replace BF := Aside0.mk (blk_below BF.out HBX.out)
  replace HS := Aside0.mk (below_step HS.out HBX.out)
  replace BK1 := Aside0.mk (blk_below BK1.out HBX.out)
  replace BK2 := Aside0.mk (blk_below BK2.out HBX.out)
  replace BK3 := Aside0.mk (blk_below BK3.out HBX.out)
  clear bx ba hbx hsz HG HBN HBX
  generalize w16.heap.size + 1 = kk4 at *
  generalize w16.heap.size = kx at *
  have r6 : w17.cell? ⟨kf, 6, none⟩ = some (.slice g3k 2 g3kc) := blk_cells BF.out 6
  have qf := blk_cells BX.out
  have qk := blk_cells BK4.out
  have htl : Calls Tryd.prog 23 #[.agg #[.int .i64 (gF 2 2 2 [0, 0] [⟨7, 0⟩, ⟨8, 1⟩]).task, .slice g4p (gF 2 2 2 [0, 0] [⟨7, 0⟩, ⟨8, 1⟩]).path.length g4pc, .int .i64 (gF 2 2 2 [0, 0] [⟨7, 0⟩, ⟨8, 1⟩]).fn, .int .i64 (gF 2 2 2 [0, 0] [⟨7, 0⟩, ⟨8, 1⟩]).pc, .slice g4l (gF 2 2 2 [0, 0] [⟨7, 0⟩, ⟨8, 1⟩]).loc.length g4lc, .slice g4s (gF 2 2 2 [0, 0] [⟨7, 0⟩, ⟨8, 1⟩]).stk.length g4sc, .slice g4k (gF 2 2 2 [0, 0] [⟨7, 0⟩, ⟨8, 1⟩]).kids.length g4kc, .int .i64 (gF 2 2 2 [0, 0] [⟨7, 0⟩, ⟨8, 1⟩]).many, .int .i64 (gF 2 2 2 [0, 0] [⟨7, 0⟩, ⟨8, 1⟩]).spent, .bool (gF 2 2 2 [0, 0] [⟨7, 0⟩, ⟨8, 1⟩]).fail], .agg #[.int .i64 (gK 5 0).kind, .int .i64 (gK 5 0).a, .int .i64 (gK 5 0).b, .int .i64 (gK 5 0).okind, .int .i64 (gK 5 0).oobj, .int .i64 (gK 5 0).oa, .int .i64 (gK 5 0).ob, .slice A4 (gK 5 0).args.length c4], .slice (some ⟨w17.heap.size, 0, none⟩) 2 2] (w17.alloc (.cells #[.int .i64 a, .int .i64 b] 3)) (Framed2 (.agg #[.int .i64 (gF 2 2 2 [0, 0] [⟨7, 0⟩, ⟨8, 1⟩]).task, .slice g4p (gF 2 2 2 [0, 0] [⟨7, 0⟩, ⟨8, 1⟩]).path.length g4pc, .int .i64 (gF 2 2 2 [0, 0] [⟨7, 0⟩, ⟨8, 1⟩]).fn, .int .i64 (gF 2 2 2 [0, 0] [⟨7, 0⟩, ⟨8, 1⟩]).pc, .slice g4l (gF 2 2 2 [0, 0] [⟨7, 0⟩, ⟨8, 1⟩]).loc.length g4lc, .slice g4s (gF 2 2 2 [0, 0] [⟨7, 0⟩, ⟨8, 1⟩]).stk.length g4sc, .slice g4k (gF 2 2 2 [0, 0] [⟨7, 0⟩, ⟨8, 1⟩]).kids.length g4kc, .int .i64 (gF 2 2 2 [0, 0] [⟨7, 0⟩, ⟨8, 1⟩]).many, .int .i64 (gF 2 2 2 [0, 0] [⟨7, 0⟩, ⟨8, 1⟩]).spent, .bool (gF 2 2 2 [0, 0] [⟨7, 0⟩, ⟨8, 1⟩]).fail]) ((gF 2 2 2 [a, b] []), 0) (w17.alloc (.cells #[.int .i64 a, .int .i64 b] 3))) :=
    told_sync (gF 2 2 2 [0, 0] [⟨7, 0⟩, ⟨8, 1⟩]) _ (gK 5 0) _ _ 2 [a, b] _ (HX.out.below (below_alloc (Below.refl _ _) _)) ⟨A4, c4, rfl, Nat.zero_le _, ⟨rfl, by decide, fun h => absurd h (by decide)⟩⟩ (two_row (blk_new w17 _)) rfl rfl (two_isV HV.out.1 HV.out.2) (by decide) (by decide)
  go_upto_region 14 with ((with_reducible refine htl.mono ?_); rintro e w18 ⟨vg, rfl, hG, hb, hfar⟩; have HG := Aside0.mk hG; obtain ⟨t4p, t4pc, t4l, t4lc, t4s, t4sc, t4k, t4kc, rfl, _, _, _, _⟩ := hG; have hb2 := below_step (below_alloc (Below.refl w17.heap.size w17) (.cells #[.int .i64 a, .int .i64 b] 3)) hb; have HBN := Aside0.mk hb2)
  clear htl qf qk hb hb2 hfar
  refine nameW ?_
  intro w19 hw
  obtain ⟨bx, hbx, hsz⟩ := one_box hw
  clear hw
  have HBX := Aside0.mk (below_step HBN.out hbx)
  have HY := Aside0.mk (HG.out.below hbx)
  have BY := Aside0.mk bx
  replace HF := Aside0.mk (HF.out.below HBX.out)
  replace BF := Aside0.mk (blk_below BF.out HBX.out)
  replace HS := Aside0.mk (below_step HS.out HBX.out)
  replace BK1 := Aside0.mk (blk_below BK1.out HBX.out)
  replace BK2 := Aside0.mk (blk_below BK2.out HBX.out)
  replace BK3 := Aside0.mk (blk_below BK3.out HBX.out)
  replace BK4 := Aside0.mk (blk_below BK4.out HBX.out)
  replace BX := Aside0.mk (blk_below BX.out HBX.out)
  replace HX := Aside0.mk (HX.out.below HBX.out)
  clear bx hbx hsz HG HBN HBX
  generalize w18.heap.size = ky at *
  clear r6
  have qc := blk_cells (blk_below HBc.out HS.out)
  have qf := blk_cells BY.out
  have hn : Calls Tryd.prog 21 #[.agg #[.slice cf (plainC (againL 1) 2).funs.length cfc, .slice cc (plainC (againL 1) 2).cells.length ccc, .int .i64 (plainC (againL 1) 2).maps, .int .i64 (plainC (againL 1) 2).stacks, .int .i64 (plainC (againL 1) 2).chans, .int .i64 (plainC (againL 1) 2).main], .agg #[.int .i64 (gF 2 2 2 [a, b] []).task, .slice t4p (gF 2 2 2 [a, b] []).path.length t4pc, .int .i64 (gF 2 2 2 [a, b] []).fn, .int .i64 (gF 2 2 2 [a, b] []).pc, .slice t4l (gF 2 2 2 [a, b] []).loc.length t4lc, .slice t4s (gF 2 2 2 [a, b] []).stk.length t4sc, .slice t4k (gF 2 2 2 [a, b] []).kids.length t4kc, .int .i64 (gF 2 2 2 [a, b] []).many, .int .i64 (gF 2 2 2 [a, b] []).spent, .bool (gF 2 2 2 [a, b] []).fail]] w19 (Said2 (.agg #[.int .i64 (gF 2 2 2 [a, b] []).task, .slice t4p (gF 2 2 2 [a, b] []).path.length t4pc, .int .i64 (gF 2 2 2 [a, b] []).fn, .int .i64 (gF 2 2 2 [a, b] []).pc, .slice t4l (gF 2 2 2 [a, b] []).loc.length t4lc, .slice t4s (gF 2 2 2 [a, b] []).stk.length t4sc, .slice t4k (gF 2 2 2 [a, b] []).kids.length t4kc, .int .i64 (gF 2 2 2 [a, b] []).many, .int .i64 (gF 2 2 2 [a, b] []).spent, .bool (gF 2 2 2 [a, b] []).fail]) (gF 6 6 2 [a, b] []) ⟨6, rnd (a + b), 0, 0, 0, 0, 0, []⟩ 0 w19) := by
    have := next_call2 (plainC (againL 1) 2) (gF 2 2 2 [a, b] []) _ _ w19 (HC3.out.below HS.out) HY.out (HT3.out.below HS.out) (show _ ≤ _ by simp [gF])
    rw [if_pos (again1_r3 a b HV.out.1 HV.out.2), again1_n3 a b] at this
    exact this
  go_upto_region 15 with ((with_reducible refine hn.mono ?_); rintro e w20 ⟨vg, vk, rfl, hG, hK, hb, hfar⟩; have HG := Aside0.mk hG; obtain ⟨g5p, g5pc, g5l, g5lc, g5s, g5sc, g5k, g5kc, rfl, _, _, _, _⟩ := hG; obtain ⟨A5, c5, rfl, _, _⟩ := hK; have HBN := Aside0.mk hb)
  clear hn qc qf hb hfar
  refine nameW ?_
  intro w21 hw
  obtain ⟨bx, ba, hbx, hsz⟩ := two_boxes hw
  clear hw
  have HBX := Aside0.mk (below_step HBN.out hbx)
  have HZ := Aside0.mk (HG.out.below hbx)
  have BZ := Aside0.mk bx
  have BK5 := Aside0.mk ba
  replace HF := Aside0.mk (HF.out.below HBX.out)
  replace BF := Aside0.mk (blk_below BF.out HBX.out)
  replace HS := Aside0.mk (below_step HS.out HBX.out)
  replace BK1 := Aside0.mk (blk_below BK1.out HBX.out)
  replace BK2 := Aside0.mk (blk_below BK2.out HBX.out)
  replace BK3 := Aside0.mk (blk_below BK3.out HBX.out)
  replace BK4 := Aside0.mk (blk_below BK4.out HBX.out)
  replace BX := Aside0.mk (blk_below BX.out HBX.out)
  replace HX := Aside0.mk (HX.out.below HBX.out)
  replace BY := Aside0.mk (blk_below BY.out HBX.out)
  replace HY := Aside0.mk (HY.out.below HBX.out)
  clear bx ba hbx hsz HG HBN HBX
  generalize w20.heap.size + 1 = kk5 at *
  generalize w20.heap.size = kz at *
  have hsm : Calls Tryd.prog 15 #[.agg #[.int .i64 (gF 2 2 2 [0, 0] [⟨7, 0⟩, ⟨8, 1⟩]).task, .slice g3p (gF 2 2 2 [0, 0] [⟨7, 0⟩, ⟨8, 1⟩]).path.length g3pc, .int .i64 (gF 2 2 2 [0, 0] [⟨7, 0⟩, ⟨8, 1⟩]).fn, .int .i64 (gF 2 2 2 [0, 0] [⟨7, 0⟩, ⟨8, 1⟩]).pc, .slice g3l (gF 2 2 2 [0, 0] [⟨7, 0⟩, ⟨8, 1⟩]).loc.length g3lc, .slice g3s (gF 2 2 2 [0, 0] [⟨7, 0⟩, ⟨8, 1⟩]).stk.length g3sc, .slice g3k (gF 2 2 2 [0, 0] [⟨7, 0⟩, ⟨8, 1⟩]).kids.length g3kc, .int .i64 (gF 2 2 2 [0, 0] [⟨7, 0⟩, ⟨8, 1⟩]).many, .int .i64 (gF 2 2 2 [0, 0] [⟨7, 0⟩, ⟨8, 1⟩]).spent, .bool (gF 2 2 2 [0, 0] [⟨7, 0⟩, ⟨8, 1⟩]).fail], .agg #[.int .i64 (gF 2 2 2 [0, 0] [⟨7, 0⟩, ⟨8, 1⟩]).task, .slice g4p (gF 2 2 2 [0, 0] [⟨7, 0⟩, ⟨8, 1⟩]).path.length g4pc, .int .i64 (gF 2 2 2 [0, 0] [⟨7, 0⟩, ⟨8, 1⟩]).fn, .int .i64 (gF 2 2 2 [0, 0] [⟨7, 0⟩, ⟨8, 1⟩]).pc, .slice g4l (gF 2 2 2 [0, 0] [⟨7, 0⟩, ⟨8, 1⟩]).loc.length g4lc, .slice g4s (gF 2 2 2 [0, 0] [⟨7, 0⟩, ⟨8, 1⟩]).stk.length g4sc, .slice g4k (gF 2 2 2 [0, 0] [⟨7, 0⟩, ⟨8, 1⟩]).kids.length g4kc, .int .i64 (gF 2 2 2 [0, 0] [⟨7, 0⟩, ⟨8, 1⟩]).many, .int .i64 (gF 2 2 2 [0, 0] [⟨7, 0⟩, ⟨8, 1⟩]).spent, .bool (gF 2 2 2 [0, 0] [⟨7, 0⟩, ⟨8, 1⟩]).fail]] w21 (Bool1 true w21) := same_call HF.out HX.out (by decide) (by decide) (by decide) (by decide)
  have hq : rnd (a + b) = ((a + b) % 4294967296) := by unfold rnd; omega
  have u1 : w21.cell? ⟨kk5, 1, none⟩ = some (.int .i64 ((a + b) % 4294967296)) := (blk_cells BK5.out 1).trans (by simp [hq])
  have u0 : w21.cell? ⟨kk5, 0, none⟩ = some (.int .i64 6) := blk_cells BK5.out 0
  have s0 : w21.cell? ⟨kk3, 0, none⟩ = some (.int .i64 5) := blk_cells BK3.out 0
  have t0 : w21.cell? ⟨kk4, 0, none⟩ = some (.int .i64 5) := blk_cells BK4.out 0
  have z7 : w21.cell? ⟨kz, 7, none⟩ = some (.int .i64 2) := blk_cells BZ.out 7
  have y6 : w21.cell? ⟨ky, 6, none⟩ = some (.slice t4k 0 t4kc) := blk_cells BY.out 6
  have p0 : w21.cell? ⟨kk1, 0, none⟩ = some (.int .i64 4) := blk_cells BK1.out 0
  have p2 : w21.cell? ⟨kk1, 2, none⟩ = some (.int .i64 0) := blk_cells BK1.out 2
  have q2 : w21.cell? ⟨kk2, 2, none⟩ = some (.int .i64 1) := blk_cells BK2.out 2
  have qf := blk_cells BF.out
  have qx := blk_cells BX.out
  have HE := Aside0.mk (below_step HB3.out HS.out)
  have hw1 : Int.tmod (a + b) 4294967296 = (a + b) % 4294967296 := by rw [Int.tmod_eq_emod_of_nonneg (by omega)]
  clear hq
  go_wp2_with ((with_reducible refine hsm.mono ?_); rintro e w99 ⟨rfl, hb99⟩; have u0 := pw_cell_below hb99 u0; have u1 := pw_cell_below hb99 u1; have z7 := pw_cell_below hb99 z7; have y6 := pw_cell_below hb99 y6; have p0 := pw_cell_below hb99 p0; have p2 := pw_cell_below hb99 p2; have q2 := pw_cell_below hb99 q2)
  go_ret
  exact ⟨rfl, below_step HE.out hb99⟩

end Go.Proofs.YtfcgjadfhojogaaDoor.Vm
