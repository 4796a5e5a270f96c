-- PRINTED BY print.sh 35421559b90ae4d0a3588c463048766b98c2df88dd9212a6774a882060cdf62d: not written by this session
import Derived.Test.YtfcgjadfhojogaaDoorPVmStartsx0
namespace Go.Proofs.YtfcgjadfhojogaaDoor.PVmStarts
open Go.RowKit Go.Proofs.YtfcgjadfhojogaaDoorW.PrintWords Go.Proofs.YtfcgjadfhojogaaDoorW.PrintLast Go.Proofs.YtfcgjadfhojogaaDoorW.PrintMore
attribute [local go_sem] max2_int min2_int max_two min_two max_three min_three max_four min_four   -- for this text's walks alone
set_option linter.unusedVariables false
set_option linter.unusedSimpArgs false

/-! ### underwoodref08_Small: function 11 -/
mutual
def underwoodref08_Small.j0 : Nat → Bool → List (S65) → List Int → Int → Int → Int → Int → Option (Bool)
  | 0, _, _, _, _, _, _, _ => none
  | k + 1, x39, x150000, x150001, x150002, x150003, x150004, x150005 => if x39 = true then (some false) else (underwoodref08_Small.l0 k 0 x150000 x150001 x150002 x150003 x150004 x150005)
def underwoodref08_Small.l0 : Nat → Int → List (S65) → List Int → Int → Int → Int → Int → Option (Bool)
  | 0, _, _, _, _, _, _, _ => none
  | k + 1, x5, x150000, x150001, x150002, x150003, x150004, x150005 => if x5 < (x150000.length : Int) then (if 0 ≤ x5 then (if (((rd_T65 x150000 x5).f2).length : Int) > 500 then (some false) else (if ((rd_T65 x150000 x5).f1) > 200 then (some false) else (underwoodref08_Small.l0 k (wrap64 (x5 + 1)) x150000 x150001 x150002 x150003 x150004 x150005))) else (none)) else (some true)
end
def underwoodref08_Small.f (k : Nat) (l0_0 : List (S65)) (l0_1 : List Int) (a0_2 : Int) (a0_3 : Int) (a0_4 : Int) (a0_5 : Int) (a1_0 : Int) (l1_1 : List Int) (a1_2 : Int) (a1_3 : Int) (l1_4 : List Int) (l1_5 : List Int) (l1_6 : List (S74)) (a1_7 : Int) (a1_8 : Int) (a1_9 : Bool) : Option (Bool) := if (l0_0.length : Int) > 20 then (underwoodref08_Small.j0 k true l0_0 l0_1 a0_2 a0_3 a0_4 a0_5) else (if (l0_1.length : Int) > 40 then (underwoodref08_Small.j0 k true l0_0 l0_1 a0_2 a0_3 a0_4 a0_5) else (if (l1_4.length : Int) > 100 then (underwoodref08_Small.j0 k true l0_0 l0_1 a0_2 a0_3 a0_4 a0_5) else (if (l1_5.length : Int) > 120 then (underwoodref08_Small.j0 k true l0_0 l0_1 a0_2 a0_3 a0_4 a0_5) else (if (l1_6.length : Int) > 60 then (underwoodref08_Small.j0 k true l0_0 l0_1 a0_2 a0_3 a0_4 a0_5) else (underwoodref08_Small.j0 k (decide ((l1_1.length : Int) > 60)) l0_0 l0_1 a0_2 a0_3 a0_4 a0_5)))))
theorem underwoodref08_Small.mono_l : ∀ k, (∀ y0 y1 y2 y3 y4 y5 y6, LeO (underwoodref08_Small.j0 k y0 y1 y2 y3 y4 y5 y6) (underwoodref08_Small.j0 (k + 1) y0 y1 y2 y3 y4 y5 y6)) ∧ (∀ y0 y1 y2 y3 y4 y5 y6, LeO (underwoodref08_Small.l0 k y0 y1 y2 y3 y4 y5 y6) (underwoodref08_Small.l0 (k + 1) y0 y1 y2 y3 y4 y5 y6))
  | 0 => ⟨fun _ _ _ _ _ _ _ r h => by simp [underwoodref08_Small.j0] at h, fun _ _ _ _ _ _ _ r h => by simp [underwoodref08_Small.l0] at h⟩
  | k + 1 => by
    obtain ⟨ih0, ih1⟩ := underwoodref08_Small.mono_l k
    refine ⟨?_, ?_⟩
    · intro y0 y1 y2 y3 y4 y5 y6
      unfold underwoodref08_Small.j0
      repeat' first
      | (with_reducible exact ih0 _ _ _ _ _ _ _)
      | (with_reducible exact ih1 _ _ _ _ _ _ _)
      | (with_reducible exact LeO.refl _)
      | (with_reducible exact LeO.none _)
      | (with_reducible refine LeO.ite ?_ ?_)
      | (with_reducible refine LeO.bind ?_ (fun _ => ?_))
      | exact ih0 _ _ _ _ _ _ _
      | exact ih1 _ _ _ _ _ _ _
      | exact LeO.none _
      | refine LeO.ite ?_ ?_
      | refine LeO.bind ?_ (fun _ => ?_)
    · intro y0 y1 y2 y3 y4 y5 y6
      unfold underwoodref08_Small.l0
      repeat' first
      | (with_reducible exact ih0 _ _ _ _ _ _ _)
      | (with_reducible exact ih1 _ _ _ _ _ _ _)
      | (with_reducible exact LeO.refl _)
      | (with_reducible exact LeO.none _)
      | (with_reducible refine LeO.ite ?_ ?_)
      | (with_reducible refine LeO.bind ?_ (fun _ => ?_))
      | exact ih0 _ _ _ _ _ _ _
      | exact ih1 _ _ _ _ _ _ _
      | exact LeO.none _
      | refine LeO.ite ?_ ?_
      | refine LeO.bind ?_ (fun _ => ?_)
theorem underwoodref08_Small.mono : ∀ a0 a1 a2 a3 a4 a5 a6 a7 a8 a9 a10 a11 a12 a13 a14 a15 k, LeO (underwoodref08_Small.f k a0 a1 a2 a3 a4 a5 a6 a7 a8 a9 a10 a11 a12 a13 a14 a15) (underwoodref08_Small.f (k + 1) a0 a1 a2 a3 a4 a5 a6 a7 a8 a9 a10 a11 a12 a13 a14 a15) := by
  intro a0 a1 a2 a3 a4 a5 a6 a7 a8 a9 a10 a11 a12 a13 a14 a15 k
  obtain ⟨ih0, ih1⟩ := underwoodref08_Small.mono_l k
  unfold underwoodref08_Small.f
  repeat' first
      | (with_reducible exact ih0 _ _ _ _ _ _ _)
      | (with_reducible exact ih1 _ _ _ _ _ _ _)
      | (with_reducible exact LeO.refl _)
      | (with_reducible exact LeO.none _)
      | (with_reducible refine LeO.ite ?_ ?_)
      | (with_reducible refine LeO.bind ?_ (fun _ => ?_))
      | exact ih0 _ _ _ _ _ _ _
      | exact ih1 _ _ _ _ _ _ _
      | exact LeO.none _
      | refine LeO.ite ?_ ?_
      | refine LeO.bind ?_ (fun _ => ?_)
set_option maxHeartbeats 8000000 in
set_option maxRecDepth 100000 in
theorem underwoodref08_Small.calls (k : Nat) (A0_0 : Option Addr) (c0_0 : Nat) (l0_0 : List (S65)) (A0_1 : Option Addr) (c0_1 : Nat) (l0_1 : List Int) (a0_2 : Int) (a0_3 : Int) (a0_4 : Int) (a0_5 : Int) (a1_0 : Int) (A1_1 : Option Addr) (c1_1 : Nat) (l1_1 : List Int) (a1_2 : Int) (a1_3 : Int) (A1_4 : Option Addr) (c1_4 : Nat) (l1_4 : List Int) (A1_5 : Option Addr) (c1_5 : Nat) (l1_5 : List Int) (A1_6 : Option Addr) (c1_6 : Nat) (l1_6 : List (S74)) (a1_7 : Int) (a1_8 : Int) (a1_9 : Bool) (r : Bool) (w : World) (hr0_0 : Kd.C k65 w A0_0 l0_0.length l0_0) (hc0_0 : l0_0.length ≤ c0_0) (hr0_1 : Kd.C (Kd.int .i64) w A0_1 l0_1.length l0_1) (hc0_1 : l0_1.length ≤ c0_1) (hr1_1 : Kd.C (Kd.int .i64) w A1_1 l1_1.length l1_1) (hc1_1 : l1_1.length ≤ c1_1) (hr1_4 : Kd.C (Kd.int .i64) w A1_4 l1_4.length l1_4) (hc1_4 : l1_4.length ≤ c1_4) (hr1_5 : Kd.C (Kd.int .i64) w A1_5 l1_5.length l1_5) (hc1_5 : l1_5.length ≤ c1_5) (hr1_6 : Kd.C k74 w A1_6 l1_6.length l1_6) (hc1_6 : l1_6.length ≤ c1_6) (h : underwoodref08_Small.f k l0_0 l0_1 a0_2 a0_3 a0_4 a0_5 a1_0 l1_1 a1_2 a1_3 l1_4 l1_5 l1_6 a1_7 a1_8 a1_9 = some r) :
    Calls Tryd.prog 11 #[.agg #[.slice A0_0 l0_0.length c0_0, .slice A0_1 l0_1.length c0_1, .int .i64 a0_2, .int .i64 a0_3, .int .i64 a0_4, .int .i64 a0_5], .agg #[.int .i64 a1_0, .slice A1_1 l1_1.length c1_1, .int .i64 a1_2, .int .i64 a1_3, .slice A1_4 l1_4.length c1_4, .slice A1_5 l1_5.length c1_5, .slice A1_6 l1_6.length c1_6, .int .i64 a1_7, .int .i64 a1_8, .bool a1_9]] w fun e w' => e = .returned (.bool r) ∧ Below w.heap.size w w' := by
  have hu25 := Tryd.underlying25
  have hu33 := Tryd.underlying33
  have HR0_0 := Aside0.mk hr0_0
  have HC0_0 := Aside0.mk hc0_0
  clear hr0_0 hc0_0
  have HR0_1 := Aside0.mk hr0_1
  have HC0_1 := Aside0.mk hc0_1
  clear hr0_1 hc0_1
  have HR1_1 := Aside0.mk hr1_1
  have HC1_1 := Aside0.mk hc1_1
  clear hr1_1 hc1_1
  have HR1_4 := Aside0.mk hr1_4
  have HC1_4 := Aside0.mk hc1_4
  clear hr1_4 hc1_4
  have HR1_5 := Aside0.mk hr1_5
  have HC1_5 := Aside0.mk hc1_5
  clear hr1_5 hc1_5
  have HR1_6 := Aside0.mk hr1_6
  have HC1_6 := Aside0.mk hc1_6
  clear hr1_6 hc1_6
  have HB := Aside0.mk (Below.refl w.heap.size w)
  have H : (if (l0_0.length : Int) > 20 then (underwoodref08_Small.j0 k true l0_0 l0_1 a0_2 a0_3 a0_4 a0_5) else (if (l0_1.length : Int) > 40 then (underwoodref08_Small.j0 k true l0_0 l0_1 a0_2 a0_3 a0_4 a0_5) else (if (l1_4.length : Int) > 100 then (underwoodref08_Small.j0 k true l0_0 l0_1 a0_2 a0_3 a0_4 a0_5) else (if (l1_5.length : Int) > 120 then (underwoodref08_Small.j0 k true l0_0 l0_1 a0_2 a0_3 a0_4 a0_5) else (if (l1_6.length : Int) > 60 then (underwoodref08_Small.j0 k true l0_0 l0_1 a0_2 a0_3 a0_4 a0_5) else (underwoodref08_Small.j0 k (decide ((l1_1.length : Int) > 60)) l0_0 l0_1 a0_2 a0_3 a0_4 a0_5)))))) = some r := h
  clear h
  have HC3 := Aside0.mk H
  clear H
  go_enter Tryd.func11, Tryd.ntmps11
  go_upto_region 1 with (first | ((with_reducible refine gate_dst (N := 2) rfl ?_); (try (refine gate_guard (by rfl) ?_; dsimp only)); refine box_event ?hg (N := 2) ?hd (cs := #[.slice A0_0 l0_0.length c0_0, .slice A0_1 l0_1.length c0_1, .int .i64 a0_2, .int .i64 a0_3, .int .i64 a0_4, .int .i64 a0_5]) (t := 25) ?hr ?_; (case hd => rfl); (case hg => rfl); (case hr => first | (go_simp; done) | (go_simp; rfl)); intro gb149 hg w4 hbox hb; have n0_ := Aside0.mk (below_step (by repeat (first | (with_reducible first | exact HB.out | apply below_alloc | apply pw_below_drewN | apply below_drew1) | exact HB.out)) hb); have n1_ := Aside0.mk (hbox); have n2_ := Aside0.mk ((by rw [hg]; exact (below_size (by repeat (first | (with_reducible first | exact HB.out | apply below_alloc | apply pw_below_drewN | apply below_drew1) | exact HB.out))) : w.heap.size ≤ gb149)); have n3_ := Aside0.mk ((by rw [hg]; exact (below_size (by repeat (first | (with_reducible first | exact HB.out | apply below_alloc | apply pw_below_drewN | apply below_drew1) | exact HB.out))) : w.heap.size ≤ gb149)); clear HB; have HB := n0_; have BK149 := n1_; have GW149 := n2_; have GE149 := n3_; clear n0_ n1_ n2_ n3_; clear hb hbox hg) | ((with_reducible refine gate_dst (N := 3) rfl ?_); (try (refine gate_guard (by rfl) ?_; dsimp only)); refine box_event ?hg (N := 3) ?hd (cs := #[.int .i64 a1_0, .slice A1_1 l1_1.length c1_1, .int .i64 a1_2, .int .i64 a1_3, .slice A1_4 l1_4.length c1_4, .slice A1_5 l1_5.length c1_5, .slice A1_6 l1_6.length c1_6, .int .i64 a1_7, .int .i64 a1_8, .bool a1_9]) (t := 33) ?hr ?_; (case hd => rfl); (case hg => rfl); (case hr => first | (go_simp; done) | (go_simp; rfl)); intro gb150 hg w5 hbox hb; have n0_ := Aside0.mk (blk_below (g := gb149) (o := .cells #[.slice A0_0 l0_0.length c0_0, .slice A0_1 l0_1.length c0_1, .int .i64 a0_2, .int .i64 a0_3, .int .i64 a0_4, .int .i64 a0_5] 25 (0, 0)) (by (with_reducible repeat (first | refine blk_drewN ?_ _ | refine blk_drew ?_ | refine blk_alloc ?_ _)); exact BK149.out) hb); have n1_ := Aside0.mk (below_step (by repeat (first | (with_reducible first | exact HB.out | apply below_alloc | apply pw_below_drewN | apply below_drew1 | refine below_set ?_ GE149.out) | exact HB.out)) hb); have n2_ := Aside0.mk (hbox); have n3_ := Aside0.mk ((by rw [hg]; exact (below_size (by repeat (first | (with_reducible first | exact HB.out | apply below_alloc | apply pw_below_drewN | apply below_drew1 | refine below_set ?_ GE149.out) | exact HB.out))) : w.heap.size ≤ gb150)); have n4_ := Aside0.mk ((by rw [hg]; exact (below_size (by repeat (first | (with_reducible first | exact HB.out | apply below_alloc | apply pw_below_drewN | apply below_drew1 | refine below_set ?_ GE149.out) | exact HB.out))) : w.heap.size ≤ gb150)); have n5_ := Aside0.mk ((by rw [hg]; exact Nat.ne_of_lt (blk_lt (g := gb149) (o := .cells #[.slice A0_0 l0_0.length c0_0, .slice A0_1 l0_1.length c0_1, .int .i64 a0_2, .int .i64 a0_3, .int .i64 a0_4, .int .i64 a0_5] 25 (0, 0)) (by (with_reducible repeat (first | refine blk_drewN ?_ _ | refine blk_drew ?_ | refine blk_alloc ?_ _)); exact BK149.out)) : gb149 ≠ gb150)); have n6_ := Aside0.mk ((by rw [hg]; exact Nat.ne_of_gt (blk_lt (g := gb149) (o := .cells #[.slice A0_0 l0_0.length c0_0, .slice A0_1 l0_1.length c0_1, .int .i64 a0_2, .int .i64 a0_3, .int .i64 a0_4, .int .i64 a0_5] 25 (0, 0)) (by (with_reducible repeat (first | refine blk_drewN ?_ _ | refine blk_drew ?_ | refine blk_alloc ?_ _)); exact BK149.out)) : gb150 ≠ gb149)); clear BK149; clear HB; have BK149 := n0_; have HB := n1_; have BK150 := n2_; have GW150 := n3_; have GE150 := n4_; have NB149_150 := n5_; have NB150_149 := n6_; clear n0_ n1_ n2_ n3_ n4_ n5_ n6_; clear hb hbox hg))
  (try simp only [Act.put, List.setIfInBounds_toArray, List.set_cons_zero, List.set_cons_succ])
  go_cut [39] (fun v39 wc => ∃ (kq : Nat) (x39_2 : Bool), v39 = .bool x39_2 ∧ Aside0 (underwoodref08_Small.j0 kq x39_2 l0_0 l0_1 a0_2 a0_3 a0_4 a0_5 = some r) ∧ Aside0 (kq ≤ k) ∧ Aside0 (wc.heap[gb149]? = some (.cells #[(.slice A0_0 l0_0.length c0_0), (.slice A0_1 l0_1.length c0_1), .int .i64 a0_2, .int .i64 a0_3, .int .i64 a0_4, .int .i64 a0_5] 25 (0, 0))) ∧ Aside0 (wc.heap[gb150]? = some (.cells #[.int .i64 a1_0, (.slice A1_1 l1_1.length c1_1), .int .i64 a1_2, .int .i64 a1_3, (.slice A1_4 l1_4.length c1_4), (.slice A1_5 l1_5.length c1_5), (.slice A1_6 l1_6.length c1_6), .int .i64 a1_7, .int .i64 a1_8, .bool a1_9] 33 (0, 0))) ∧ Aside0 (Below w.heap.size w wc))
  case first =>
    have H := HC3.out
    clear HC3
    by_cases c6 : (l0_0.length : Int) > 20
    · rw [if_pos c6] at H
      have c6b0 : decide (20 < (l0_0.length : Int)) = true := decide_eq_true c6
      have c6b1 : decide (20 < l0_0.length) = true := decide_eq_true (by omega)
      clear c6
      (first | rw [c6b0] | (simp only [i64_w, i32_w]; rw [c6b0]) | skip)
      have H' := Aside0.mk H
      clear H
      have hnb7 := NB149_150.out
      have hnc7 := NB150_149.out
      have hcz8_0 : w5.cell? ⟨gb149, 0, none⟩ = some (.slice A0_0 l0_0.length c0_0) := (blk_cell BK149.out 0).trans rfl
      have hcz8_1 : w5.cell? ⟨gb149, 1, none⟩ = some (.slice A0_1 l0_1.length c0_1) := (blk_cell BK149.out 1).trans rfl
      have hcz8_2 : w5.cell? ⟨gb149, 2, none⟩ = some (.int .i64 a0_2) := (blk_cell BK149.out 2).trans rfl
      have hcz8_3 : w5.cell? ⟨gb149, 3, none⟩ = some (.int .i64 a0_3) := (blk_cell BK149.out 3).trans rfl
      have hcz8_4 : w5.cell? ⟨gb149, 4, none⟩ = some (.int .i64 a0_4) := (blk_cell BK149.out 4).trans rfl
      have hcz8_5 : w5.cell? ⟨gb149, 5, none⟩ = some (.int .i64 a0_5) := (blk_cell BK149.out 5).trans rfl
      have hfz8_0 := blk_frozen BK149.out 0
      have hfz8_1 := blk_frozen BK149.out 1
      have hfz8_2 := blk_frozen BK149.out 2
      have hfz8_3 := blk_frozen BK149.out 3
      have hfz8_4 := blk_frozen BK149.out 4
      have hfz8_5 := blk_frozen BK149.out 5
      go_wp2
      go_meet
      case rel => exact ⟨_, (true), (by first | rfl | (simp; done) | (simp [*]; done)), H', ⟨by first | omega | exact Nat.le_refl _⟩, ⟨by (with_reducible repeat (first | refine blk_drewN ?_ _ | refine blk_drew ?_ | refine blk_alloc ?_ _)); exact BK149.out⟩, ⟨by (with_reducible repeat (first | refine blk_drewN ?_ _ | refine blk_drew ?_ | refine blk_alloc ?_ _)); exact BK150.out⟩, ⟨by repeat (first | (with_reducible first | exact HB.out | apply below_alloc | apply pw_below_drewN | apply below_drew1 | refine below_set ?_ GE149.out | refine below_set ?_ GE150.out) | exact HB.out)⟩⟩
    · rw [if_neg c6] at H
      have c6b0 : decide (20 < (l0_0.length : Int)) = false := decide_eq_false c6
      have c6b1 : decide (20 < l0_0.length) = false := decide_eq_false (by omega)
      clear c6
      (first | rw [c6b0] | (simp only [i64_w, i32_w]; rw [c6b0]) | skip)
      by_cases c9 : (l0_1.length : Int) > 40
      · rw [if_pos c9] at H
        have c9b0 : decide (40 < (l0_1.length : Int)) = true := decide_eq_true c9
        have c9b1 : decide (40 < l0_1.length) = true := decide_eq_true (by omega)
        clear c9
        have H' := Aside0.mk H
        clear H
        have hnb10 := NB149_150.out
        have hnc10 := NB150_149.out
        have hcz11_0 : w5.cell? ⟨gb149, 0, none⟩ = some (.slice A0_0 l0_0.length c0_0) := (blk_cell BK149.out 0).trans rfl
        have hcz11_1 : w5.cell? ⟨gb149, 1, none⟩ = some (.slice A0_1 l0_1.length c0_1) := (blk_cell BK149.out 1).trans rfl
        have hcz11_2 : w5.cell? ⟨gb149, 2, none⟩ = some (.int .i64 a0_2) := (blk_cell BK149.out 2).trans rfl
        have hcz11_3 : w5.cell? ⟨gb149, 3, none⟩ = some (.int .i64 a0_3) := (blk_cell BK149.out 3).trans rfl
        have hcz11_4 : w5.cell? ⟨gb149, 4, none⟩ = some (.int .i64 a0_4) := (blk_cell BK149.out 4).trans rfl
        have hcz11_5 : w5.cell? ⟨gb149, 5, none⟩ = some (.int .i64 a0_5) := (blk_cell BK149.out 5).trans rfl
        have hfz11_0 := blk_frozen BK149.out 0
        have hfz11_1 := blk_frozen BK149.out 1
        have hfz11_2 := blk_frozen BK149.out 2
        have hfz11_3 := blk_frozen BK149.out 3
        have hfz11_4 := blk_frozen BK149.out 4
        have hfz11_5 := blk_frozen BK149.out 5
        go_wp2
        go_meet
        case rel => exact ⟨_, (true), (by first | rfl | (simp; done) | (simp [*]; done)), H', ⟨by first | omega | exact Nat.le_refl _⟩, ⟨by (with_reducible repeat (first | refine blk_drewN ?_ _ | refine blk_drew ?_ | refine blk_alloc ?_ _)); exact BK149.out⟩, ⟨by (with_reducible repeat (first | refine blk_drewN ?_ _ | refine blk_drew ?_ | refine blk_alloc ?_ _)); exact BK150.out⟩, ⟨by repeat (first | (with_reducible first | exact HB.out | apply below_alloc | apply pw_below_drewN | apply below_drew1 | refine below_set ?_ GE149.out | refine below_set ?_ GE150.out) | exact HB.out)⟩⟩
      · rw [if_neg c9] at H
        have c9b0 : decide (40 < (l0_1.length : Int)) = false := decide_eq_false c9
        have c9b1 : decide (40 < l0_1.length) = false := decide_eq_false (by omega)
        clear c9
        by_cases c12 : (l1_4.length : Int) > 100
        · rw [if_pos c12] at H
          have c12b0 : decide (100 < (l1_4.length : Int)) = true := decide_eq_true c12
          have c12b1 : decide (100 < l1_4.length) = true := decide_eq_true (by omega)
          clear c12
          have H' := Aside0.mk H
          clear H
          have hnb13 := NB149_150.out
          have hnc13 := NB150_149.out
          have hcz14_0 : w5.cell? ⟨gb149, 0, none⟩ = some (.slice A0_0 l0_0.length c0_0) := (blk_cell BK149.out 0).trans rfl
          have hcz14_1 : w5.cell? ⟨gb149, 1, none⟩ = some (.slice A0_1 l0_1.length c0_1) := (blk_cell BK149.out 1).trans rfl
          have hcz14_2 : w5.cell? ⟨gb149, 2, none⟩ = some (.int .i64 a0_2) := (blk_cell BK149.out 2).trans rfl
          have hcz14_3 : w5.cell? ⟨gb149, 3, none⟩ = some (.int .i64 a0_3) := (blk_cell BK149.out 3).trans rfl
          have hcz14_4 : w5.cell? ⟨gb149, 4, none⟩ = some (.int .i64 a0_4) := (blk_cell BK149.out 4).trans rfl
          have hcz14_5 : w5.cell? ⟨gb149, 5, none⟩ = some (.int .i64 a0_5) := (blk_cell BK149.out 5).trans rfl
          have hfz14_0 := blk_frozen BK149.out 0
          have hfz14_1 := blk_frozen BK149.out 1
          have hfz14_2 := blk_frozen BK149.out 2
          have hfz14_3 := blk_frozen BK149.out 3
          have hfz14_4 := blk_frozen BK149.out 4
          have hfz14_5 := blk_frozen BK149.out 5
          have hcz15_0 : w5.cell? ⟨gb150, 0, none⟩ = some (.int .i64 a1_0) := (blk_cell BK150.out 0).trans rfl
          have hcz15_1 : w5.cell? ⟨gb150, 1, none⟩ = some (.slice A1_1 l1_1.length c1_1) := (blk_cell BK150.out 1).trans rfl
          have hcz15_2 : w5.cell? ⟨gb150, 2, none⟩ = some (.int .i64 a1_2) := (blk_cell BK150.out 2).trans rfl
          have hcz15_3 : w5.cell? ⟨gb150, 3, none⟩ = some (.int .i64 a1_3) := (blk_cell BK150.out 3).trans rfl
          have hcz15_4 : w5.cell? ⟨gb150, 4, none⟩ = some (.slice A1_4 l1_4.length c1_4) := (blk_cell BK150.out 4).trans rfl
          have hcz15_5 : w5.cell? ⟨gb150, 5, none⟩ = some (.slice A1_5 l1_5.length c1_5) := (blk_cell BK150.out 5).trans rfl
          have hcz15_6 : w5.cell? ⟨gb150, 6, none⟩ = some (.slice A1_6 l1_6.length c1_6) := (blk_cell BK150.out 6).trans rfl
          have hcz15_7 : w5.cell? ⟨gb150, 7, none⟩ = some (.int .i64 a1_7) := (blk_cell BK150.out 7).trans rfl
          have hcz15_8 : w5.cell? ⟨gb150, 8, none⟩ = some (.int .i64 a1_8) := (blk_cell BK150.out 8).trans rfl
          have hcz15_9 : w5.cell? ⟨gb150, 9, none⟩ = some (.bool a1_9) := (blk_cell BK150.out 9).trans rfl
          have hfz15_0 := blk_frozen BK150.out 0
          have hfz15_1 := blk_frozen BK150.out 1
          have hfz15_2 := blk_frozen BK150.out 2
          have hfz15_3 := blk_frozen BK150.out 3
          have hfz15_4 := blk_frozen BK150.out 4
          have hfz15_5 := blk_frozen BK150.out 5
          have hfz15_6 := blk_frozen BK150.out 6
          have hfz15_7 := blk_frozen BK150.out 7
          have hfz15_8 := blk_frozen BK150.out 8
          have hfz15_9 := blk_frozen BK150.out 9
          go_wp2
          go_meet
          case rel => exact ⟨_, (true), (by first | rfl | (simp; done) | (simp [*]; done)), H', ⟨by first | omega | exact Nat.le_refl _⟩, ⟨by (with_reducible repeat (first | refine blk_drewN ?_ _ | refine blk_drew ?_ | refine blk_alloc ?_ _)); exact BK149.out⟩, ⟨by (with_reducible repeat (first | refine blk_drewN ?_ _ | refine blk_drew ?_ | refine blk_alloc ?_ _)); exact BK150.out⟩, ⟨by repeat (first | (with_reducible first | exact HB.out | apply below_alloc | apply pw_below_drewN | apply below_drew1 | refine below_set ?_ GE149.out | refine below_set ?_ GE150.out) | exact HB.out)⟩⟩
        · rw [if_neg c12] at H
          have c12b0 : decide (100 < (l1_4.length : Int)) = false := decide_eq_false c12
          have c12b1 : decide (100 < l1_4.length) = false := decide_eq_false (by omega)
          clear c12
          by_cases c16 : (l1_5.length : Int) > 120
          · rw [if_pos c16] at H
            have c16b0 : decide (120 < (l1_5.length : Int)) = true := decide_eq_true c16
            have c16b1 : decide (120 < l1_5.length) = true := decide_eq_true (by omega)
            clear c16
            have H' := Aside0.mk H
            clear H
            have hnb17 := NB149_150.out
            have hnc17 := NB150_149.out
            have hcz18_0 : w5.cell? ⟨gb149, 0, none⟩ = some (.slice A0_0 l0_0.length c0_0) := (blk_cell BK149.out 0).trans rfl
            have hcz18_1 : w5.cell? ⟨gb149, 1, none⟩ = some (.slice A0_1 l0_1.length c0_1) := (blk_cell BK149.out 1).trans rfl
            have hcz18_2 : w5.cell? ⟨gb149, 2, none⟩ = some (.int .i64 a0_2) := (blk_cell BK149.out 2).trans rfl
            have hcz18_3 : w5.cell? ⟨gb149, 3, none⟩ = some (.int .i64 a0_3) := (blk_cell BK149.out 3).trans rfl
            have hcz18_4 : w5.cell? ⟨gb149, 4, none⟩ = some (.int .i64 a0_4) := (blk_cell BK149.out 4).trans rfl
            have hcz18_5 : w5.cell? ⟨gb149, 5, none⟩ = some (.int .i64 a0_5) := (blk_cell BK149.out 5).trans rfl
            have hfz18_0 := blk_frozen BK149.out 0
            have hfz18_1 := blk_frozen BK149.out 1
            have hfz18_2 := blk_frozen BK149.out 2
            have hfz18_3 := blk_frozen BK149.out 3
            have hfz18_4 := blk_frozen BK149.out 4
            have hfz18_5 := blk_frozen BK149.out 5
            have hcz19_0 : w5.cell? ⟨gb150, 0, none⟩ = some (.int .i64 a1_0) := (blk_cell BK150.out 0).trans rfl
            have hcz19_1 : w5.cell? ⟨gb150, 1, none⟩ = some (.slice A1_1 l1_1.length c1_1) := (blk_cell BK150.out 1).trans rfl
            have hcz19_2 : w5.cell? ⟨gb150, 2, none⟩ = some (.int .i64 a1_2) := (blk_cell BK150.out 2).trans rfl
            have hcz19_3 : w5.cell? ⟨gb150, 3, none⟩ = some (.int .i64 a1_3) := (blk_cell BK150.out 3).trans rfl
            have hcz19_4 : w5.cell? ⟨gb150, 4, none⟩ = some (.slice A1_4 l1_4.length c1_4) := (blk_cell BK150.out 4).trans rfl
            have hcz19_5 : w5.cell? ⟨gb150, 5, none⟩ = some (.slice A1_5 l1_5.length c1_5) := (blk_cell BK150.out 5).trans rfl
            have hcz19_6 : w5.cell? ⟨gb150, 6, none⟩ = some (.slice A1_6 l1_6.length c1_6) := (blk_cell BK150.out 6).trans rfl
            have hcz19_7 : w5.cell? ⟨gb150, 7, none⟩ = some (.int .i64 a1_7) := (blk_cell BK150.out 7).trans rfl
            have hcz19_8 : w5.cell? ⟨gb150, 8, none⟩ = some (.int .i64 a1_8) := (blk_cell BK150.out 8).trans rfl
            have hcz19_9 : w5.cell? ⟨gb150, 9, none⟩ = some (.bool a1_9) := (blk_cell BK150.out 9).trans rfl
            have hfz19_0 := blk_frozen BK150.out 0
            have hfz19_1 := blk_frozen BK150.out 1
            have hfz19_2 := blk_frozen BK150.out 2
            have hfz19_3 := blk_frozen BK150.out 3
            have hfz19_4 := blk_frozen BK150.out 4
            have hfz19_5 := blk_frozen BK150.out 5
            have hfz19_6 := blk_frozen BK150.out 6
            have hfz19_7 := blk_frozen BK150.out 7
            have hfz19_8 := blk_frozen BK150.out 8
            have hfz19_9 := blk_frozen BK150.out 9
            go_wp2
            go_meet
            case rel => exact ⟨_, (true), (by first | rfl | (simp; done) | (simp [*]; done)), H', ⟨by first | omega | exact Nat.le_refl _⟩, ⟨by (with_reducible repeat (first | refine blk_drewN ?_ _ | refine blk_drew ?_ | refine blk_alloc ?_ _)); exact BK149.out⟩, ⟨by (with_reducible repeat (first | refine blk_drewN ?_ _ | refine blk_drew ?_ | refine blk_alloc ?_ _)); exact BK150.out⟩, ⟨by repeat (first | (with_reducible first | exact HB.out | apply below_alloc | apply pw_below_drewN | apply below_drew1 | refine below_set ?_ GE149.out | refine below_set ?_ GE150.out) | exact HB.out)⟩⟩
          · rw [if_neg c16] at H
            have c16b0 : decide (120 < (l1_5.length : Int)) = false := decide_eq_false c16
            have c16b1 : decide (120 < l1_5.length) = false := decide_eq_false (by omega)
            clear c16
            by_cases c20 : (l1_6.length : Int) > 60
            · rw [if_pos c20] at H
              have c20b0 : decide (60 < (l1_6.length : Int)) = true := decide_eq_true c20
              have c20b1 : decide (60 < l1_6.length) = true := decide_eq_true (by omega)
              clear c20
              have H' := Aside0.mk H
              clear H
              have hnb21 := NB149_150.out
              have hnc21 := NB150_149.out
              have hcz22_0 : w5.cell? ⟨gb149, 0, none⟩ = some (.slice A0_0 l0_0.length c0_0) := (blk_cell BK149.out 0).trans rfl
              have hcz22_1 : w5.cell? ⟨gb149, 1, none⟩ = some (.slice A0_1 l0_1.length c0_1) := (blk_cell BK149.out 1).trans rfl
              have hcz22_2 : w5.cell? ⟨gb149, 2, none⟩ = some (.int .i64 a0_2) := (blk_cell BK149.out 2).trans rfl
              have hcz22_3 : w5.cell? ⟨gb149, 3, none⟩ = some (.int .i64 a0_3) := (blk_cell BK149.out 3).trans rfl
              have hcz22_4 : w5.cell? ⟨gb149, 4, none⟩ = some (.int .i64 a0_4) := (blk_cell BK149.out 4).trans rfl
              have hcz22_5 : w5.cell? ⟨gb149, 5, none⟩ = some (.int .i64 a0_5) := (blk_cell BK149.out 5).trans rfl
              have hfz22_0 := blk_frozen BK149.out 0
              have hfz22_1 := blk_frozen BK149.out 1
              have hfz22_2 := blk_frozen BK149.out 2
              have hfz22_3 := blk_frozen BK149.out 3
              have hfz22_4 := blk_frozen BK149.out 4
              have hfz22_5 := blk_frozen BK149.out 5
              have hcz23_0 : w5.cell? ⟨gb150, 0, none⟩ = some (.int .i64 a1_0) := (blk_cell BK150.out 0).trans rfl
              have hcz23_1 : w5.cell? ⟨gb150, 1, none⟩ = some (.slice A1_1 l1_1.length c1_1) := (blk_cell BK150.out 1).trans rfl
              have hcz23_2 : w5.cell? ⟨gb150, 2, none⟩ = some (.int .i64 a1_2) := (blk_cell BK150.out 2).trans rfl
              have hcz23_3 : w5.cell? ⟨gb150, 3, none⟩ = some (.int .i64 a1_3) := (blk_cell BK150.out 3).trans rfl
              have hcz23_4 : w5.cell? ⟨gb150, 4, none⟩ = some (.slice A1_4 l1_4.length c1_4) := (blk_cell BK150.out 4).trans rfl
              have hcz23_5 : w5.cell? ⟨gb150, 5, none⟩ = some (.slice A1_5 l1_5.length c1_5) := (blk_cell BK150.out 5).trans rfl
              have hcz23_6 : w5.cell? ⟨gb150, 6, none⟩ = some (.slice A1_6 l1_6.length c1_6) := (blk_cell BK150.out 6).trans rfl
              have hcz23_7 : w5.cell? ⟨gb150, 7, none⟩ = some (.int .i64 a1_7) := (blk_cell BK150.out 7).trans rfl
              have hcz23_8 : w5.cell? ⟨gb150, 8, none⟩ = some (.int .i64 a1_8) := (blk_cell BK150.out 8).trans rfl
              have hcz23_9 : w5.cell? ⟨gb150, 9, none⟩ = some (.bool a1_9) := (blk_cell BK150.out 9).trans rfl
              have hfz23_0 := blk_frozen BK150.out 0
              have hfz23_1 := blk_frozen BK150.out 1
              have hfz23_2 := blk_frozen BK150.out 2
              have hfz23_3 := blk_frozen BK150.out 3
              have hfz23_4 := blk_frozen BK150.out 4
              have hfz23_5 := blk_frozen BK150.out 5
              have hfz23_6 := blk_frozen BK150.out 6
              have hfz23_7 := blk_frozen BK150.out 7
              have hfz23_8 := blk_frozen BK150.out 8
              have hfz23_9 := blk_frozen BK150.out 9
              go_wp2
              go_meet
              case rel => exact ⟨_, (true), (by first | rfl | (simp; done) | (simp [*]; done)), H', ⟨by first | omega | exact Nat.le_refl _⟩, ⟨by (with_reducible repeat (first | refine blk_drewN ?_ _ | refine blk_drew ?_ | refine blk_alloc ?_ _)); exact BK149.out⟩, ⟨by (with_reducible repeat (first | refine blk_drewN ?_ _ | refine blk_drew ?_ | refine blk_alloc ?_ _)); exact BK150.out⟩, ⟨by repeat (first | (with_reducible first | exact HB.out | apply below_alloc | apply pw_below_drewN | apply below_drew1 | refine below_set ?_ GE149.out | refine below_set ?_ GE150.out) | exact HB.out)⟩⟩
            · rw [if_neg c20] at H
              have c20b0 : decide (60 < (l1_6.length : Int)) = false := decide_eq_false c20
              have c20b1 : decide (60 < l1_6.length) = false := decide_eq_false (by omega)
              clear c20
              have H' := Aside0.mk H
              clear H
              have hnb24 := NB149_150.out
              have hnc24 := NB150_149.out
              have hcz25_0 : w5.cell? ⟨gb149, 0, none⟩ = some (.slice A0_0 l0_0.length c0_0) := (blk_cell BK149.out 0).trans rfl
              have hcz25_1 : w5.cell? ⟨gb149, 1, none⟩ = some (.slice A0_1 l0_1.length c0_1) := (blk_cell BK149.out 1).trans rfl
              have hcz25_2 : w5.cell? ⟨gb149, 2, none⟩ = some (.int .i64 a0_2) := (blk_cell BK149.out 2).trans rfl
              have hcz25_3 : w5.cell? ⟨gb149, 3, none⟩ = some (.int .i64 a0_3) := (blk_cell BK149.out 3).trans rfl
              have hcz25_4 : w5.cell? ⟨gb149, 4, none⟩ = some (.int .i64 a0_4) := (blk_cell BK149.out 4).trans rfl
              have hcz25_5 : w5.cell? ⟨gb149, 5, none⟩ = some (.int .i64 a0_5) := (blk_cell BK149.out 5).trans rfl
              have hfz25_0 := blk_frozen BK149.out 0
              have hfz25_1 := blk_frozen BK149.out 1
              have hfz25_2 := blk_frozen BK149.out 2
              have hfz25_3 := blk_frozen BK149.out 3
              have hfz25_4 := blk_frozen BK149.out 4
              have hfz25_5 := blk_frozen BK149.out 5
              have hcz26_0 : w5.cell? ⟨gb150, 0, none⟩ = some (.int .i64 a1_0) := (blk_cell BK150.out 0).trans rfl
              have hcz26_1 : w5.cell? ⟨gb150, 1, none⟩ = some (.slice A1_1 l1_1.length c1_1) := (blk_cell BK150.out 1).trans rfl
              have hcz26_2 : w5.cell? ⟨gb150, 2, none⟩ = some (.int .i64 a1_2) := (blk_cell BK150.out 2).trans rfl
              have hcz26_3 : w5.cell? ⟨gb150, 3, none⟩ = some (.int .i64 a1_3) := (blk_cell BK150.out 3).trans rfl
              have hcz26_4 : w5.cell? ⟨gb150, 4, none⟩ = some (.slice A1_4 l1_4.length c1_4) := (blk_cell BK150.out 4).trans rfl
              have hcz26_5 : w5.cell? ⟨gb150, 5, none⟩ = some (.slice A1_5 l1_5.length c1_5) := (blk_cell BK150.out 5).trans rfl
              have hcz26_6 : w5.cell? ⟨gb150, 6, none⟩ = some (.slice A1_6 l1_6.length c1_6) := (blk_cell BK150.out 6).trans rfl
              have hcz26_7 : w5.cell? ⟨gb150, 7, none⟩ = some (.int .i64 a1_7) := (blk_cell BK150.out 7).trans rfl
              have hcz26_8 : w5.cell? ⟨gb150, 8, none⟩ = some (.int .i64 a1_8) := (blk_cell BK150.out 8).trans rfl
              have hcz26_9 : w5.cell? ⟨gb150, 9, none⟩ = some (.bool a1_9) := (blk_cell BK150.out 9).trans rfl
              have hfz26_0 := blk_frozen BK150.out 0
              have hfz26_1 := blk_frozen BK150.out 1
              have hfz26_2 := blk_frozen BK150.out 2
              have hfz26_3 := blk_frozen BK150.out 3
              have hfz26_4 := blk_frozen BK150.out 4
              have hfz26_5 := blk_frozen BK150.out 5
              have hfz26_6 := blk_frozen BK150.out 6
              have hfz26_7 := blk_frozen BK150.out 7
              have hfz26_8 := blk_frozen BK150.out 8
              have hfz26_9 := blk_frozen BK150.out 9
              go_wp2
              go_meet
              case rel => exact ⟨_, (decide ((l1_1.length : Int) > 60)), (by first | rfl | (simp; done) | (simp [*]; done)), H', ⟨by first | omega | exact Nat.le_refl _⟩, ⟨by (with_reducible repeat (first | refine blk_drewN ?_ _ | refine blk_drew ?_ | refine blk_alloc ?_ _)); exact BK149.out⟩, ⟨by (with_reducible repeat (first | refine blk_drewN ?_ _ | refine blk_drew ?_ | refine blk_alloc ?_ _)); exact BK150.out⟩, ⟨by repeat (first | (with_reducible first | exact HB.out | apply below_alloc | apply pw_below_drewN | apply below_drew1 | refine below_set ?_ GE149.out | refine below_set ?_ GE150.out) | exact HB.out)⟩⟩
  case rest =>
    clear HC3
    try clear c1
    try clear c2
    try clear p2
    try clear c6
    try clear c6b0
    try clear c6b1
    try clear c7
    try clear c9
    try clear c9b0
    try clear c9b1
    try clear c10
    try clear c11
    try clear c12
    try clear c12b0
    try clear c12b1
    try clear c13
    try clear c16
    try clear c16b0
    try clear c16b1
    try clear c17
    try clear c20
    try clear c20b0
    try clear c20b1
    try clear c21
    try clear c24
    try clear hcz11_0
    try clear hcz11_1
    try clear hcz11_2
    try clear hcz11_3
    try clear hcz11_4
    try clear hcz11_5
    try clear hcz14_0
    try clear hcz14_1
    try clear hcz14_2
    try clear hcz14_3
    try clear hcz14_4
    try clear hcz14_5
    try clear hcz15_0
    try clear hcz15_1
    try clear hcz15_2
    try clear hcz15_3
    try clear hcz15_4
    try clear hcz15_5
    try clear hcz15_6
    try clear hcz15_7
    try clear hcz15_8
    try clear hcz15_9
    try clear hcz18_0
    try clear hcz18_1
    try clear hcz18_2
    try clear hcz18_3
    try clear hcz18_4
    try clear hcz18_5
    try clear hcz19_0
    try clear hcz19_1
    try clear hcz19_2
    try clear hcz19_3
    try clear hcz19_4
    try clear hcz19_5
    try clear hcz19_6
    try clear hcz19_7
    try clear hcz19_8
    try clear hcz19_9
    try clear hcz22_0
    try clear hcz22_1
    try clear hcz22_2
    try clear hcz22_3
    try clear hcz22_4
    try clear hcz22_5
    try clear hcz23_0
    try clear hcz23_1
    try clear hcz23_2
    try clear hcz23_3
    try clear hcz23_4
    try clear hcz23_5
    try clear hcz23_6
    try clear hcz23_7
    try clear hcz23_8
    try clear hcz23_9
    try clear hcz25_0
    try clear hcz25_1
    try clear hcz25_2
    try clear hcz25_3
    try clear hcz25_4
    try clear hcz25_5
    try clear hcz26_0
    try clear hcz26_1
    try clear hcz26_2
    try clear hcz26_3
    try clear hcz26_4
    try clear hcz26_5
    try clear hcz26_6
    try clear hcz26_7
    try clear hcz26_8
    try clear hcz26_9
    try clear hcz8_0
    try clear hcz8_1
    try clear hcz8_2
    try clear hcz8_3
    try clear hcz8_4
    try clear hcz8_5
    try clear hfz11_0
    try clear hfz11_1
    try clear hfz11_2
    try clear hfz11_3
    try clear hfz11_4
    try clear hfz11_5
    try clear hfz14_0
    try clear hfz14_1
    try clear hfz14_2
    try clear hfz14_3
    try clear hfz14_4
    try clear hfz14_5
    try clear hfz15_0
    try clear hfz15_1
    try clear hfz15_2
    try clear hfz15_3
    try clear hfz15_4
    try clear hfz15_5
    try clear hfz15_6
    try clear hfz15_7
    try clear hfz15_8
    try clear hfz15_9
    try clear hfz18_0
    try clear hfz18_1
    try clear hfz18_2
    try clear hfz18_3
    try clear hfz18_4
    try clear hfz18_5
    try clear hfz19_0
    try clear hfz19_1
    try clear hfz19_2
    try clear hfz19_3
    try clear hfz19_4
    try clear hfz19_5
    try clear hfz19_6
    try clear hfz19_7
    try clear hfz19_8
    try clear hfz19_9
    try clear hfz22_0
    try clear hfz22_1
    try clear hfz22_2
    try clear hfz22_3
    try clear hfz22_4
    try clear hfz22_5
    try clear hfz23_0
    try clear hfz23_1
    try clear hfz23_2
    try clear hfz23_3
    try clear hfz23_4
    try clear hfz23_5
    try clear hfz23_6
    try clear hfz23_7
    try clear hfz23_8
    try clear hfz23_9
    try clear hfz25_0
    try clear hfz25_1
    try clear hfz25_2
    try clear hfz25_3
    try clear hfz25_4
    try clear hfz25_5
    try clear hfz26_0
    try clear hfz26_1
    try clear hfz26_2
    try clear hfz26_3
    try clear hfz26_4
    try clear hfz26_5
    try clear hfz26_6
    try clear hfz26_7
    try clear hfz26_8
    try clear hfz26_9
    try clear hfz8_0
    try clear hfz8_1
    try clear hfz8_2
    try clear hfz8_3
    try clear hfz8_4
    try clear hfz8_5
    obtain ⟨kq, x39_2, rfl, HA, HJ2, BK149, BK150, HB⟩ := hcut
    cases kq with
    | zero => exact absurd HA.out (by simp [underwoodref08_Small.j0])
    | succ kj2 =>
      have H := HA.out
      clear HA
      simp only [underwoodref08_Small.j0] at H
      by_cases c27 : x39_2 = true
      · subst c27
        have H1 : (some false) = some r := by rw [if_pos rfl] at H; exact H
        clear H
        have H := H1
        clear H1
        obtain rfl := Option.some.inj H
        go_wp2
        go_ret
        exact ⟨by first | rfl | (simp [errW_none, errW_some] <;> rfl) | (simp [*, errW_none, errW_some] <;> rfl), by repeat (first | (with_reducible first | exact HB.out | apply below_alloc | apply pw_below_drewN | apply below_drew1 | refine below_set ?_ GE149.out | refine below_set ?_ GE150.out) | exact HB.out)⟩
      · replace c27 := Bool.eq_false_iff.mpr c27
        subst c27
        have H1 : (underwoodref08_Small.l0 kj2 0 l0_0 l0_1 a0_2 a0_3 a0_4 a0_5) = some r := by rw [if_neg (show ¬ (false = true) by decide)] at H; exact H
        clear H
        have H := H1
        clear H1
        have H' := Aside0.mk H
        clear H
        go_wp2
        go_loopg [5] kj2 (fun kq v5 w' => ∃ (x5_2 : Int), v5 = .int .i64 x5_2 ∧ Aside0 (underwoodref08_Small.l0 kq x5_2 l0_0 l0_1 a0_2 a0_3 a0_4 a0_5 = some r) ∧ Aside0 (kq ≤ kj2) ∧ Aside0 (w'.heap[gb149]? = some (.cells #[(.slice A0_0 l0_0.length c0_0), (.slice A0_1 l0_1.length c0_1), .int .i64 a0_2, .int .i64 a0_3, .int .i64 a0_4, .int .i64 a0_5] 25 (0, 0))) ∧ Aside0 (w'.heap[gb150]? = some (.cells #[.int .i64 a1_0, (.slice A1_1 l1_1.length c1_1), .int .i64 a1_2, .int .i64 a1_3, (.slice A1_4 l1_4.length c1_4), (.slice A1_5 l1_5.length c1_5), (.slice A1_6 l1_6.length c1_6), .int .i64 a1_7, .int .i64 a1_8, .bool a1_9] 33 (0, 0))) ∧ Aside0 (Below w.heap.size w w'))
        case atStart => exact ⟨(0), (by first | rfl | (simp; done) | (simp [*]; done)), H', ⟨Nat.le_refl _⟩, ⟨by (with_reducible repeat (first | refine blk_drewN ?_ _ | refine blk_drew ?_ | refine blk_alloc ?_ _)); exact BK149.out⟩, ⟨by (with_reducible repeat (first | refine blk_drewN ?_ _ | refine blk_drew ?_ | refine blk_alloc ?_ _)); exact BK150.out⟩, ⟨by repeat (first | (with_reducible first | exact HB.out | apply below_alloc | apply pw_below_drewN | apply below_drew1 | refine below_set ?_ GE149.out | refine below_set ?_ GE150.out) | exact HB.out)⟩⟩
        case round =>
          clear H'
          try clear c1
          try clear c2
          try clear p2
          try clear c6
          try clear c6b0
          try clear c6b1
          try clear c7
          try clear c9
          try clear c9b0
          try clear c9b1
          try clear c10
          try clear c11
          try clear c12
          try clear c12b0
          try clear c12b1
          try clear c13
          try clear c16
          try clear c16b0
          try clear c16b1
          try clear c17
          try clear c20
          try clear c20b0
          try clear c20b1
          try clear c21
          try clear c24
          try clear c27
          try clear hcz11_0
          try clear hcz11_1
          try clear hcz11_2
          try clear hcz11_3
          try clear hcz11_4
          try clear hcz11_5
          try clear hcz14_0
          try clear hcz14_1
          try clear hcz14_2
          try clear hcz14_3
          try clear hcz14_4
          try clear hcz14_5
          try clear hcz15_0
          try clear hcz15_1
          try clear hcz15_2
          try clear hcz15_3
          try clear hcz15_4
          try clear hcz15_5
          try clear hcz15_6
          try clear hcz15_7
          try clear hcz15_8
          try clear hcz15_9
          try clear hcz18_0
          try clear hcz18_1
          try clear hcz18_2
          try clear hcz18_3
          try clear hcz18_4
          try clear hcz18_5
          try clear hcz19_0
          try clear hcz19_1
          try clear hcz19_2
          try clear hcz19_3
          try clear hcz19_4
          try clear hcz19_5
          try clear hcz19_6
          try clear hcz19_7
          try clear hcz19_8
          try clear hcz19_9
          try clear hcz22_0
          try clear hcz22_1
          try clear hcz22_2
          try clear hcz22_3
          try clear hcz22_4
          try clear hcz22_5
          try clear hcz23_0
          try clear hcz23_1
          try clear hcz23_2
          try clear hcz23_3
          try clear hcz23_4
          try clear hcz23_5
          try clear hcz23_6
          try clear hcz23_7
          try clear hcz23_8
          try clear hcz23_9
          try clear hcz25_0
          try clear hcz25_1
          try clear hcz25_2
          try clear hcz25_3
          try clear hcz25_4
          try clear hcz25_5
          try clear hcz26_0
          try clear hcz26_1
          try clear hcz26_2
          try clear hcz26_3
          try clear hcz26_4
          try clear hcz26_5
          try clear hcz26_6
          try clear hcz26_7
          try clear hcz26_8
          try clear hcz26_9
          try clear hcz8_0
          try clear hcz8_1
          try clear hcz8_2
          try clear hcz8_3
          try clear hcz8_4
          try clear hcz8_5
          try clear hfz11_0
          try clear hfz11_1
          try clear hfz11_2
          try clear hfz11_3
          try clear hfz11_4
          try clear hfz11_5
          try clear hfz14_0
          try clear hfz14_1
          try clear hfz14_2
          try clear hfz14_3
          try clear hfz14_4
          try clear hfz14_5
          try clear hfz15_0
          try clear hfz15_1
          try clear hfz15_2
          try clear hfz15_3
          try clear hfz15_4
          try clear hfz15_5
          try clear hfz15_6
          try clear hfz15_7
          try clear hfz15_8
          try clear hfz15_9
          try clear hfz18_0
          try clear hfz18_1
          try clear hfz18_2
          try clear hfz18_3
          try clear hfz18_4
          try clear hfz18_5
          try clear hfz19_0
          try clear hfz19_1
          try clear hfz19_2
          try clear hfz19_3
          try clear hfz19_4
          try clear hfz19_5
          try clear hfz19_6
          try clear hfz19_7
          try clear hfz19_8
          try clear hfz19_9
          try clear hfz22_0
          try clear hfz22_1
          try clear hfz22_2
          try clear hfz22_3
          try clear hfz22_4
          try clear hfz22_5
          try clear hfz23_0
          try clear hfz23_1
          try clear hfz23_2
          try clear hfz23_3
          try clear hfz23_4
          try clear hfz23_5
          try clear hfz23_6
          try clear hfz23_7
          try clear hfz23_8
          try clear hfz23_9
          try clear hfz25_0
          try clear hfz25_1
          try clear hfz25_2
          try clear hfz25_3
          try clear hfz25_4
          try clear hfz25_5
          try clear hfz26_0
          try clear hfz26_1
          try clear hfz26_2
          try clear hfz26_3
          try clear hfz26_4
          try clear hfz26_5
          try clear hfz26_6
          try clear hfz26_7
          try clear hfz26_8
          try clear hfz26_9
          try clear hfz8_0
          try clear hfz8_1
          try clear hfz8_2
          try clear hfz8_3
          try clear hfz8_4
          try clear hfz8_5
          try clear p2
          obtain ⟨x5_2, rfl, HA, HK2, BK149, BK150, HB⟩ := hrel
          cases gk with
          | zero => exact absurd HA.out (by simp [underwoodref08_Small.l0])
          | succ k2 =>
            have H := HA.out
            clear HA
            simp only [underwoodref08_Small.l0] at H
            by_cases c28 : x5_2 < (l0_0.length : Int)
            · rw [if_pos c28] at H
              have c28b0 : decide (x5_2 < (l0_0.length : Int)) = true := decide_eq_true c28
              clear c28
              by_cases c29 : 0 ≤ x5_2
              · rw [if_pos c29] at H
                have c29b0 : decide (0 ≤ x5_2) = true := decide_eq_true c29
                clear c29
                by_cases c30 : (((rd_T65 l0_0 x5_2).f2).length : Int) > 500
                · rw [if_pos c30] at H
                  have c30b0 : decide (500 < (((rd_T65 l0_0 x5_2).f2).length : Int)) = true := decide_eq_true c30
                  have c30b1 : decide (500 < ((rd_T65 l0_0 x5_2).f2).length) = true := decide_eq_true (by omega)
                  clear c30
                  obtain rfl := Option.some.inj H
                  have hnb31 := NB149_150.out
                  have hnc31 := NB150_149.out
                  have hcz32_0 : wr.cell? ⟨gb149, 0, none⟩ = some (.slice A0_0 l0_0.length c0_0) := (blk_cell BK149.out 0).trans rfl
                  have hcz32_1 : wr.cell? ⟨gb149, 1, none⟩ = some (.slice A0_1 l0_1.length c0_1) := (blk_cell BK149.out 1).trans rfl
                  have hcz32_2 : wr.cell? ⟨gb149, 2, none⟩ = some (.int .i64 a0_2) := (blk_cell BK149.out 2).trans rfl
                  have hcz32_3 : wr.cell? ⟨gb149, 3, none⟩ = some (.int .i64 a0_3) := (blk_cell BK149.out 3).trans rfl
                  have hcz32_4 : wr.cell? ⟨gb149, 4, none⟩ = some (.int .i64 a0_4) := (blk_cell BK149.out 4).trans rfl
                  have hcz32_5 : wr.cell? ⟨gb149, 5, none⟩ = some (.int .i64 a0_5) := (blk_cell BK149.out 5).trans rfl
                  have hfz32_0 := blk_frozen BK149.out 0
                  have hfz32_1 := blk_frozen BK149.out 1
                  have hfz32_2 := blk_frozen BK149.out 2
                  have hfz32_3 := blk_frozen BK149.out 3
                  have hfz32_4 := blk_frozen BK149.out 4
                  have hfz32_5 := blk_frozen BK149.out 5
                  have p151 : 0 ≤ (x5_2 : Int) := of_decide_eq_true (by first | (with_reducible assumption) | assumption)
                  have q151 : x5_2 < (l0_0.length : Int) := of_decide_eq_true (by first | (with_reducible assumption) | assumption)
                  obtain ⟨ad151, A151_2, c151_2, e151, hx151_0, hx151_1, hx151_2, hl151_2, hi151_2⟩ := at_T65 HR0_0.out x5_2 p151 q151
                  cases e151
                  replace hx151_0 := (HB.out.cell (World.block_lt_of_cell? w _ hx151_0)).trans hx151_0
                  replace hx151_1 := (HB.out.cell (World.block_lt_of_cell? w _ hx151_1)).trans hx151_1
                  replace hx151_2 := (HB.out.cell (World.block_lt_of_cell? w _ hx151_2)).trans hx151_2
                  have HR151_2 := Aside0.mk hi151_2
                  have HC151_2 := Aside0.mk hl151_2
                  clear hi151_2 hl151_2
                  replace p151 := eq_true p151
                  replace q151 := eq_true q151
                  go_wp2
                  go_ret
                  exact ⟨by first | rfl | (simp [errW_none, errW_some] <;> rfl) | (simp [*, errW_none, errW_some] <;> rfl), by repeat (first | (with_reducible first | exact HB.out | apply below_alloc | apply pw_below_drewN | apply below_drew1 | refine below_set ?_ GE149.out | refine below_set ?_ GE150.out) | exact HB.out)⟩
                · rw [if_neg c30] at H
                  have c30b0 : decide (500 < (((rd_T65 l0_0 x5_2).f2).length : Int)) = false := decide_eq_false c30
                  have c30b1 : decide (500 < ((rd_T65 l0_0 x5_2).f2).length) = false := decide_eq_false (by omega)
                  clear c30
                  by_cases c33 : ((rd_T65 l0_0 x5_2).f1) > 200
                  · rw [if_pos c33] at H
                    have c33b0 : decide (200 < ((rd_T65 l0_0 x5_2).f1)) = true := decide_eq_true c33
                    clear c33
                    obtain rfl := Option.some.inj H
                    have hnb34 := NB149_150.out
                    have hnc34 := NB150_149.out
                    have hcz35_0 : wr.cell? ⟨gb149, 0, none⟩ = some (.slice A0_0 l0_0.length c0_0) := (blk_cell BK149.out 0).trans rfl
                    have hcz35_1 : wr.cell? ⟨gb149, 1, none⟩ = some (.slice A0_1 l0_1.length c0_1) := (blk_cell BK149.out 1).trans rfl
                    have hcz35_2 : wr.cell? ⟨gb149, 2, none⟩ = some (.int .i64 a0_2) := (blk_cell BK149.out 2).trans rfl
                    have hcz35_3 : wr.cell? ⟨gb149, 3, none⟩ = some (.int .i64 a0_3) := (blk_cell BK149.out 3).trans rfl
                    have hcz35_4 : wr.cell? ⟨gb149, 4, none⟩ = some (.int .i64 a0_4) := (blk_cell BK149.out 4).trans rfl
                    have hcz35_5 : wr.cell? ⟨gb149, 5, none⟩ = some (.int .i64 a0_5) := (blk_cell BK149.out 5).trans rfl
                    have hfz35_0 := blk_frozen BK149.out 0
                    have hfz35_1 := blk_frozen BK149.out 1
                    have hfz35_2 := blk_frozen BK149.out 2
                    have hfz35_3 := blk_frozen BK149.out 3
                    have hfz35_4 := blk_frozen BK149.out 4
                    have hfz35_5 := blk_frozen BK149.out 5
                    have p151 : 0 ≤ (x5_2 : Int) := of_decide_eq_true (by first | (with_reducible assumption) | assumption)
                    have q151 : x5_2 < (l0_0.length : Int) := of_decide_eq_true (by first | (with_reducible assumption) | assumption)
                    obtain ⟨ad151, A151_2, c151_2, e151, hx151_0, hx151_1, hx151_2, hl151_2, hi151_2⟩ := at_T65 HR0_0.out x5_2 p151 q151
                    cases e151
                    replace hx151_0 := (HB.out.cell (World.block_lt_of_cell? w _ hx151_0)).trans hx151_0
                    replace hx151_1 := (HB.out.cell (World.block_lt_of_cell? w _ hx151_1)).trans hx151_1
                    replace hx151_2 := (HB.out.cell (World.block_lt_of_cell? w _ hx151_2)).trans hx151_2
                    have HR151_2 := Aside0.mk hi151_2
                    have HC151_2 := Aside0.mk hl151_2
                    clear hi151_2 hl151_2
                    replace p151 := eq_true p151
                    replace q151 := eq_true q151
                    have p152 : 0 ≤ (x5_2 : Int) := of_decide_eq_true (by first | (with_reducible assumption) | assumption)
                    have q152 : x5_2 < (l0_0.length : Int) := of_decide_eq_true (by first | (with_reducible assumption) | assumption)
                    obtain ⟨ad152, A152_2, c152_2, e152, hx152_0, hx152_1, hx152_2, hl152_2, hi152_2⟩ := at_T65 HR0_0.out x5_2 p152 q152
                    obtain rfl : ad151 = ad152 := (by injection e152)
                    replace hx152_0 := (HB.out.cell (World.block_lt_of_cell? w _ hx152_0)).trans hx152_0
                    replace hx152_1 := (HB.out.cell (World.block_lt_of_cell? w _ hx152_1)).trans hx152_1
                    replace hx152_2 := (HB.out.cell (World.block_lt_of_cell? w _ hx152_2)).trans hx152_2
                    have HR152_2 := Aside0.mk hi152_2
                    have HC152_2 := Aside0.mk hl152_2
                    clear hi152_2 hl152_2
                    replace p152 := eq_true p152
                    replace q152 := eq_true q152
                    have ea_ := Option.some.inj (hx151_2.symm.trans hx152_2)
                    injection ea_ with ea_ en_ ec_
                    subst ea_
                    subst ec_
                    clear en_
                    go_wp2
                    go_ret
                    exact ⟨by first | rfl | (simp [errW_none, errW_some] <;> rfl) | (simp [*, errW_none, errW_some] <;> rfl), by repeat (first | (with_reducible first | exact HB.out | apply below_alloc | apply pw_below_drewN | apply below_drew1 | refine below_set ?_ GE149.out | refine below_set ?_ GE150.out) | exact HB.out)⟩
                  · rw [if_neg c33] at H
                    have c33b0 : decide (200 < ((rd_T65 l0_0 x5_2).f1)) = false := decide_eq_false c33
                    clear c33
                    have H' := Aside0.mk H
                    clear H
                    have hnb36 := NB149_150.out
                    have hnc36 := NB150_149.out
                    have hcz37_0 : wr.cell? ⟨gb149, 0, none⟩ = some (.slice A0_0 l0_0.length c0_0) := (blk_cell BK149.out 0).trans rfl
                    have hcz37_1 : wr.cell? ⟨gb149, 1, none⟩ = some (.slice A0_1 l0_1.length c0_1) := (blk_cell BK149.out 1).trans rfl
                    have hcz37_2 : wr.cell? ⟨gb149, 2, none⟩ = some (.int .i64 a0_2) := (blk_cell BK149.out 2).trans rfl
                    have hcz37_3 : wr.cell? ⟨gb149, 3, none⟩ = some (.int .i64 a0_3) := (blk_cell BK149.out 3).trans rfl
                    have hcz37_4 : wr.cell? ⟨gb149, 4, none⟩ = some (.int .i64 a0_4) := (blk_cell BK149.out 4).trans rfl
                    have hcz37_5 : wr.cell? ⟨gb149, 5, none⟩ = some (.int .i64 a0_5) := (blk_cell BK149.out 5).trans rfl
                    have hfz37_0 := blk_frozen BK149.out 0
                    have hfz37_1 := blk_frozen BK149.out 1
                    have hfz37_2 := blk_frozen BK149.out 2
                    have hfz37_3 := blk_frozen BK149.out 3
                    have hfz37_4 := blk_frozen BK149.out 4
                    have hfz37_5 := blk_frozen BK149.out 5
                    have p151 : 0 ≤ (x5_2 : Int) := of_decide_eq_true (by first | (with_reducible assumption) | assumption)
                    have q151 : x5_2 < (l0_0.length : Int) := of_decide_eq_true (by first | (with_reducible assumption) | assumption)
                    obtain ⟨ad151, A151_2, c151_2, e151, hx151_0, hx151_1, hx151_2, hl151_2, hi151_2⟩ := at_T65 HR0_0.out x5_2 p151 q151
                    cases e151
                    replace hx151_0 := (HB.out.cell (World.block_lt_of_cell? w _ hx151_0)).trans hx151_0
                    replace hx151_1 := (HB.out.cell (World.block_lt_of_cell? w _ hx151_1)).trans hx151_1
                    replace hx151_2 := (HB.out.cell (World.block_lt_of_cell? w _ hx151_2)).trans hx151_2
                    have HR151_2 := Aside0.mk hi151_2
                    have HC151_2 := Aside0.mk hl151_2
                    clear hi151_2 hl151_2
                    replace p151 := eq_true p151
                    replace q151 := eq_true q151
                    have p152 : 0 ≤ (x5_2 : Int) := of_decide_eq_true (by first | (with_reducible assumption) | assumption)
                    have q152 : x5_2 < (l0_0.length : Int) := of_decide_eq_true (by first | (with_reducible assumption) | assumption)
                    obtain ⟨ad152, A152_2, c152_2, e152, hx152_0, hx152_1, hx152_2, hl152_2, hi152_2⟩ := at_T65 HR0_0.out x5_2 p152 q152
                    obtain rfl : ad151 = ad152 := (by injection e152)
                    replace hx152_0 := (HB.out.cell (World.block_lt_of_cell? w _ hx152_0)).trans hx152_0
                    replace hx152_1 := (HB.out.cell (World.block_lt_of_cell? w _ hx152_1)).trans hx152_1
                    replace hx152_2 := (HB.out.cell (World.block_lt_of_cell? w _ hx152_2)).trans hx152_2
                    have HR152_2 := Aside0.mk hi152_2
                    have HC152_2 := Aside0.mk hl152_2
                    clear hi152_2 hl152_2
                    replace p152 := eq_true p152
                    replace q152 := eq_true q152
                    have ea_ := Option.some.inj (hx151_2.symm.trans hx152_2)
                    injection ea_ with ea_ en_ ec_
                    subst ea_
                    subst ec_
                    clear en_
                    go_wp2
                    go_roundg k2
                    case measure => have := HJ2.out; have := HK2.out; omega
                    case rel => exact ⟨(wrap64 (x5_2 + 1)), (by first | rfl | (simp; done) | (simp [*]; done)), H', ⟨by have := HJ2.out; have := HK2.out; omega⟩, ⟨by (with_reducible repeat (first | refine blk_drewN ?_ _ | refine blk_drew ?_ | refine blk_alloc ?_ _)); exact BK149.out⟩, ⟨by (with_reducible repeat (first | refine blk_drewN ?_ _ | refine blk_drew ?_ | refine blk_alloc ?_ _)); exact BK150.out⟩, ⟨by repeat (first | (with_reducible first | exact HB.out | apply below_alloc | apply pw_below_drewN | apply below_drew1 | refine below_set ?_ GE149.out | refine below_set ?_ GE150.out) | exact HB.out)⟩⟩
              · rw [if_neg c29] at H
                exact absurd H (by simp)
            · rw [if_neg c28] at H
              have c28b0 : decide (x5_2 < (l0_0.length : Int)) = false := decide_eq_false c28
              clear c28
              obtain rfl := Option.some.inj H
              have hnb38 := NB149_150.out
              have hnc38 := NB150_149.out
              have hcz39_0 : wr.cell? ⟨gb149, 0, none⟩ = some (.slice A0_0 l0_0.length c0_0) := (blk_cell BK149.out 0).trans rfl
              have hcz39_1 : wr.cell? ⟨gb149, 1, none⟩ = some (.slice A0_1 l0_1.length c0_1) := (blk_cell BK149.out 1).trans rfl
              have hcz39_2 : wr.cell? ⟨gb149, 2, none⟩ = some (.int .i64 a0_2) := (blk_cell BK149.out 2).trans rfl
              have hcz39_3 : wr.cell? ⟨gb149, 3, none⟩ = some (.int .i64 a0_3) := (blk_cell BK149.out 3).trans rfl
              have hcz39_4 : wr.cell? ⟨gb149, 4, none⟩ = some (.int .i64 a0_4) := (blk_cell BK149.out 4).trans rfl
              have hcz39_5 : wr.cell? ⟨gb149, 5, none⟩ = some (.int .i64 a0_5) := (blk_cell BK149.out 5).trans rfl
              have hfz39_0 := blk_frozen BK149.out 0
              have hfz39_1 := blk_frozen BK149.out 1
              have hfz39_2 := blk_frozen BK149.out 2
              have hfz39_3 := blk_frozen BK149.out 3
              have hfz39_4 := blk_frozen BK149.out 4
              have hfz39_5 := blk_frozen BK149.out 5
              go_wp2
              go_ret
              exact ⟨by first | rfl | (simp [errW_none, errW_some] <;> rfl) | (simp [*, errW_none, errW_some] <;> rfl), by repeat (first | (with_reducible first | exact HB.out | apply below_alloc | apply pw_below_drewN | apply below_drew1 | refine below_set ?_ GE149.out | refine below_set ?_ GE150.out) | exact HB.out)⟩

end Go.Proofs.YtfcgjadfhojogaaDoor.PVmStarts
