-- PRINTED BY print.sh 35421559b90ae4d0a3588c463048766b98c2df88dd9212a6774a882060cdf62d: not written by this session
import Derived.Test.YtfcgjadfhojogaaDoorPVmStartsx0
import Derived.Test.YtfcgjadfhojogaaDoorPVmStartsx6
namespace Go.Proofs.YtfcgjadfhojogaaDoor.PVmStarts
open Go.RowKit Go.Proofs.YtfcgjadfhojogaaDoorW.PrintWords Go.Proofs.YtfcgjadfhojogaaDoorW.PrintLast Go.Proofs.YtfcgjadfhojogaaDoorW.PrintMore
attribute [local go_sem] max2_int min2_int max_two min_two max_three min_three max_four min_four   -- for this text's walks alone
set_option linter.unusedVariables false
set_option linter.unusedSimpArgs false

/-! ### underwoodref08_Same: function 15 -/
def underwoodref08_Same.j0 : Nat → Bool → Int → List Int → Int → Int → List Int → List Int → List (S74) → Int → Int → Bool → Int → List Int → Int → Int → List Int → List Int → List (S74) → Int → Int → Bool → Option (Bool)
  | 0, _, _, _, _, _, _, _, _, _, _, _, _, _, _, _, _, _, _, _, _, _ => none
  | k + 1, x44, x180000, x180001, x180002, x180003, x180004, x180005, x180006, x180007, x180008, x180009, x181000, x181001, x181002, x181003, x181004, x181005, x181006, x181007, x181008, x181009 => if x44 = true then (some false) else ((underwoodref08_ints.f k x180001 x181001).bind fun t181 => (if t181 = true then ((underwoodref08_ints.f k x180004 x181004).bind fun t182 => (if t182 = true then ((underwoodref08_ints.f k x180005 x181005).bind fun t183 => (if t183 = true then ((underwoodref08_kids.f k x180006 x181006).bind fun t184 => (some t184)) else (some false))) else (some false))) else (some false)))
def underwoodref08_Same.f (k : Nat) (a0_0 : Int) (l0_1 : List Int) (a0_2 : Int) (a0_3 : Int) (l0_4 : List Int) (l0_5 : List Int) (l0_6 : List (S74)) (a0_7 : Int) (a0_8 : Int) (a0_9 : Bool) (a1_0 : Int) (l1_1 : List Int) (a1_2 : Int) (a1_3 : Int) (l1_4 : List Int) (l1_5 : List Int) (l1_6 : List (S74)) (a1_7 : Int) (a1_8 : Int) (a1_9 : Bool) : Option (Bool) := if a0_0 = a1_0 then (if a0_2 = a1_2 then (if a0_3 = a1_3 then (if a0_7 = a1_7 then (if a0_8 = a1_8 then (underwoodref08_Same.j0 k (a0_9 != a1_9) a0_0 l0_1 a0_2 a0_3 l0_4 l0_5 l0_6 a0_7 a0_8 a0_9 a1_0 l1_1 a1_2 a1_3 l1_4 l1_5 l1_6 a1_7 a1_8 a1_9) else (underwoodref08_Same.j0 k true a0_0 l0_1 a0_2 a0_3 l0_4 l0_5 l0_6 a0_7 a0_8 a0_9 a1_0 l1_1 a1_2 a1_3 l1_4 l1_5 l1_6 a1_7 a1_8 a1_9)) else (underwoodref08_Same.j0 k true a0_0 l0_1 a0_2 a0_3 l0_4 l0_5 l0_6 a0_7 a0_8 a0_9 a1_0 l1_1 a1_2 a1_3 l1_4 l1_5 l1_6 a1_7 a1_8 a1_9)) else (underwoodref08_Same.j0 k true a0_0 l0_1 a0_2 a0_3 l0_4 l0_5 l0_6 a0_7 a0_8 a0_9 a1_0 l1_1 a1_2 a1_3 l1_4 l1_5 l1_6 a1_7 a1_8 a1_9)) else (underwoodref08_Same.j0 k true a0_0 l0_1 a0_2 a0_3 l0_4 l0_5 l0_6 a0_7 a0_8 a0_9 a1_0 l1_1 a1_2 a1_3 l1_4 l1_5 l1_6 a1_7 a1_8 a1_9)) else (underwoodref08_Same.j0 k true a0_0 l0_1 a0_2 a0_3 l0_4 l0_5 l0_6 a0_7 a0_8 a0_9 a1_0 l1_1 a1_2 a1_3 l1_4 l1_5 l1_6 a1_7 a1_8 a1_9)
theorem underwoodref08_Same.mono_l : ∀ k, (∀ y0 y1 y2 y3 y4 y5 y6 y7 y8 y9 y10 y11 y12 y13 y14 y15 y16 y17 y18 y19 y20, LeO (underwoodref08_Same.j0 k y0 y1 y2 y3 y4 y5 y6 y7 y8 y9 y10 y11 y12 y13 y14 y15 y16 y17 y18 y19 y20) (underwoodref08_Same.j0 (k + 1) y0 y1 y2 y3 y4 y5 y6 y7 y8 y9 y10 y11 y12 y13 y14 y15 y16 y17 y18 y19 y20))
  | 0 => fun _ _ _ _ _ _ _ _ _ _ _ _ _ _ _ _ _ _ _ _ _ r h => by simp [underwoodref08_Same.j0] at h
  | k + 1 => by
    have ih0 := underwoodref08_Same.mono_l k
    · intro y0 y1 y2 y3 y4 y5 y6 y7 y8 y9 y10 y11 y12 y13 y14 y15 y16 y17 y18 y19 y20
      unfold underwoodref08_Same.j0
      repeat' first
      | (with_reducible exact ih0 _ _ _ _ _ _ _ _ _ _ _ _ _ _ _ _ _ _ _ _ _)
      | (with_reducible exact underwoodref08_ints.mono _ _ _)
      | (with_reducible exact underwoodref08_kids.mono _ _ _)
      | (with_reducible exact LeO.refl _)
      | (with_reducible exact LeO.none _)
      | (with_reducible refine LeO.ite ?_ ?_)
      | (with_reducible refine LeO.bind ?_ (fun _ => ?_))
      | exact ih0 _ _ _ _ _ _ _ _ _ _ _ _ _ _ _ _ _ _ _ _ _
      | exact underwoodref08_ints.mono _ _ _
      | exact underwoodref08_kids.mono _ _ _
      | exact LeO.none _
      | refine LeO.ite ?_ ?_
      | refine LeO.bind ?_ (fun _ => ?_)
theorem underwoodref08_Same.mono : ∀ a0 a1 a2 a3 a4 a5 a6 a7 a8 a9 a10 a11 a12 a13 a14 a15 a16 a17 a18 a19 k, LeO (underwoodref08_Same.f k a0 a1 a2 a3 a4 a5 a6 a7 a8 a9 a10 a11 a12 a13 a14 a15 a16 a17 a18 a19) (underwoodref08_Same.f (k + 1) a0 a1 a2 a3 a4 a5 a6 a7 a8 a9 a10 a11 a12 a13 a14 a15 a16 a17 a18 a19) := by
  intro a0 a1 a2 a3 a4 a5 a6 a7 a8 a9 a10 a11 a12 a13 a14 a15 a16 a17 a18 a19 k
  have ih0 := underwoodref08_Same.mono_l k
  unfold underwoodref08_Same.f
  repeat' first
      | (with_reducible exact ih0 _ _ _ _ _ _ _ _ _ _ _ _ _ _ _ _ _ _ _ _ _)
      | (with_reducible exact underwoodref08_ints.mono _ _ _)
      | (with_reducible exact underwoodref08_kids.mono _ _ _)
      | (with_reducible exact LeO.refl _)
      | (with_reducible exact LeO.none _)
      | (with_reducible refine LeO.ite ?_ ?_)
      | (with_reducible refine LeO.bind ?_ (fun _ => ?_))
      | exact ih0 _ _ _ _ _ _ _ _ _ _ _ _ _ _ _ _ _ _ _ _ _
      | exact underwoodref08_ints.mono _ _ _
      | exact underwoodref08_kids.mono _ _ _
      | exact LeO.none _
      | refine LeO.ite ?_ ?_
      | refine LeO.bind ?_ (fun _ => ?_)
set_option maxHeartbeats 8000000 in
set_option maxRecDepth 100000 in
theorem underwoodref08_Same.calls (k : Nat) (a0_0 : Int) (A0_1 : Option Addr) (c0_1 : Nat) (l0_1 : List Int) (a0_2 : Int) (a0_3 : Int) (A0_4 : Option Addr) (c0_4 : Nat) (l0_4 : List Int) (A0_5 : Option Addr) (c0_5 : Nat) (l0_5 : List Int) (A0_6 : Option Addr) (c0_6 : Nat) (l0_6 : List (S74)) (a0_7 : Int) (a0_8 : Int) (a0_9 : Bool) (a1_0 : Int) (A1_1 : Option Addr) (c1_1 : Nat) (l1_1 : List Int) (a1_2 : Int) (a1_3 : Int) (A1_4 : Option Addr) (c1_4 : Nat) (l1_4 : List Int) (A1_5 : Option Addr) (c1_5 : Nat) (l1_5 : List Int) (A1_6 : Option Addr) (c1_6 : Nat) (l1_6 : List (S74)) (a1_7 : Int) (a1_8 : Int) (a1_9 : Bool) (r : Bool) (w : World) (hr0_1 : Kd.C (Kd.int .i64) w A0_1 l0_1.length l0_1) (hc0_1 : l0_1.length ≤ c0_1) (hr0_4 : Kd.C (Kd.int .i64) w A0_4 l0_4.length l0_4) (hc0_4 : l0_4.length ≤ c0_4) (hr0_5 : Kd.C (Kd.int .i64) w A0_5 l0_5.length l0_5) (hc0_5 : l0_5.length ≤ c0_5) (hr0_6 : Kd.C k74 w A0_6 l0_6.length l0_6) (hc0_6 : l0_6.length ≤ c0_6) (hr1_1 : Kd.C (Kd.int .i64) w A1_1 l1_1.length l1_1) (hc1_1 : l1_1.length ≤ c1_1) (hr1_4 : Kd.C (Kd.int .i64) w A1_4 l1_4.length l1_4) (hc1_4 : l1_4.length ≤ c1_4) (hr1_5 : Kd.C (Kd.int .i64) w A1_5 l1_5.length l1_5) (hc1_5 : l1_5.length ≤ c1_5) (hr1_6 : Kd.C k74 w A1_6 l1_6.length l1_6) (hc1_6 : l1_6.length ≤ c1_6) (h : underwoodref08_Same.f k a0_0 l0_1 a0_2 a0_3 l0_4 l0_5 l0_6 a0_7 a0_8 a0_9 a1_0 l1_1 a1_2 a1_3 l1_4 l1_5 l1_6 a1_7 a1_8 a1_9 = some r) :
    Calls Tryd.prog 15 #[.agg #[.int .i64 a0_0, .slice A0_1 l0_1.length c0_1, .int .i64 a0_2, .int .i64 a0_3, .slice A0_4 l0_4.length c0_4, .slice A0_5 l0_5.length c0_5, .slice A0_6 l0_6.length c0_6, .int .i64 a0_7, .int .i64 a0_8, .bool a0_9], .agg #[.int .i64 a1_0, .slice A1_1 l1_1.length c1_1, .int .i64 a1_2, .int .i64 a1_3, .slice A1_4 l1_4.length c1_4, .slice A1_5 l1_5.length c1_5, .slice A1_6 l1_6.length c1_6, .int .i64 a1_7, .int .i64 a1_8, .bool a1_9]] w fun e w' => e = .returned (.bool r) ∧ Below w.heap.size w w' := by
  have hu33 := Tryd.underlying33
  have HR0_1 := Aside0.mk hr0_1
  have HC0_1 := Aside0.mk hc0_1
  clear hr0_1 hc0_1
  have HR0_4 := Aside0.mk hr0_4
  have HC0_4 := Aside0.mk hc0_4
  clear hr0_4 hc0_4
  have HR0_5 := Aside0.mk hr0_5
  have HC0_5 := Aside0.mk hc0_5
  clear hr0_5 hc0_5
  have HR0_6 := Aside0.mk hr0_6
  have HC0_6 := Aside0.mk hc0_6
  clear hr0_6 hc0_6
  have HR1_1 := Aside0.mk hr1_1
  have HC1_1 := Aside0.mk hc1_1
  clear hr1_1 hc1_1
  have HR1_4 := Aside0.mk hr1_4
  have HC1_4 := Aside0.mk hc1_4
  clear hr1_4 hc1_4
  have HR1_5 := Aside0.mk hr1_5
  have HC1_5 := Aside0.mk hc1_5
  clear hr1_5 hc1_5
  have HR1_6 := Aside0.mk hr1_6
  have HC1_6 := Aside0.mk hc1_6
  clear hr1_6 hc1_6
  have HB := Aside0.mk (Below.refl w.heap.size w)
  have H : (if a0_0 = a1_0 then (if a0_2 = a1_2 then (if a0_3 = a1_3 then (if a0_7 = a1_7 then (if a0_8 = a1_8 then (underwoodref08_Same.j0 k (a0_9 != a1_9) a0_0 l0_1 a0_2 a0_3 l0_4 l0_5 l0_6 a0_7 a0_8 a0_9 a1_0 l1_1 a1_2 a1_3 l1_4 l1_5 l1_6 a1_7 a1_8 a1_9) else (underwoodref08_Same.j0 k true a0_0 l0_1 a0_2 a0_3 l0_4 l0_5 l0_6 a0_7 a0_8 a0_9 a1_0 l1_1 a1_2 a1_3 l1_4 l1_5 l1_6 a1_7 a1_8 a1_9)) else (underwoodref08_Same.j0 k true a0_0 l0_1 a0_2 a0_3 l0_4 l0_5 l0_6 a0_7 a0_8 a0_9 a1_0 l1_1 a1_2 a1_3 l1_4 l1_5 l1_6 a1_7 a1_8 a1_9)) else (underwoodref08_Same.j0 k true a0_0 l0_1 a0_2 a0_3 l0_4 l0_5 l0_6 a0_7 a0_8 a0_9 a1_0 l1_1 a1_2 a1_3 l1_4 l1_5 l1_6 a1_7 a1_8 a1_9)) else (underwoodref08_Same.j0 k true a0_0 l0_1 a0_2 a0_3 l0_4 l0_5 l0_6 a0_7 a0_8 a0_9 a1_0 l1_1 a1_2 a1_3 l1_4 l1_5 l1_6 a1_7 a1_8 a1_9)) else (underwoodref08_Same.j0 k true a0_0 l0_1 a0_2 a0_3 l0_4 l0_5 l0_6 a0_7 a0_8 a0_9 a1_0 l1_1 a1_2 a1_3 l1_4 l1_5 l1_6 a1_7 a1_8 a1_9)) = some r := h
  clear h
  have HC3 := Aside0.mk H
  clear H
  go_enter Tryd.func15, Tryd.ntmps15
  go_upto_region 1 with (first | ((with_reducible refine gate_dst (N := 2) rfl ?_); refine box_event ?hg (N := 2) ?hd (cs := #[.int .i64 a0_0, .slice A0_1 l0_1.length c0_1, .int .i64 a0_2, .int .i64 a0_3, .slice A0_4 l0_4.length c0_4, .slice A0_5 l0_5.length c0_5, .slice A0_6 l0_6.length c0_6, .int .i64 a0_7, .int .i64 a0_8, .bool a0_9]) (t := 33) ?hr ?_; (case hd => rfl); (case hg => rfl); (case hr => first | (go_simp; done) | (go_simp; rfl)); intro gb179 hg w4 hbox hb; have n0_ := Aside0.mk (below_step (by repeat (first | (with_reducible first | exact HB.out | apply below_alloc | apply pw_below_drewN | apply below_drew1) | exact HB.out)) hb); have n1_ := Aside0.mk (hbox); have n2_ := Aside0.mk ((by rw [hg]; exact (below_size (by repeat (first | (with_reducible first | exact HB.out | apply below_alloc | apply pw_below_drewN | apply below_drew1) | exact HB.out))) : w.heap.size ≤ gb179)); have n3_ := Aside0.mk ((by rw [hg]; exact (below_size (by repeat (first | (with_reducible first | exact HB.out | apply below_alloc | apply pw_below_drewN | apply below_drew1) | exact HB.out))) : w.heap.size ≤ gb179)); clear HB; have HB := n0_; have BK179 := n1_; have GW179 := n2_; have GE179 := n3_; clear n0_ n1_ n2_ n3_; clear hb hbox hg) | ((with_reducible refine gate_dst (N := 3) rfl ?_); refine box_event ?hg (N := 3) ?hd (cs := #[.int .i64 a1_0, .slice A1_1 l1_1.length c1_1, .int .i64 a1_2, .int .i64 a1_3, .slice A1_4 l1_4.length c1_4, .slice A1_5 l1_5.length c1_5, .slice A1_6 l1_6.length c1_6, .int .i64 a1_7, .int .i64 a1_8, .bool a1_9]) (t := 33) ?hr ?_; (case hd => rfl); (case hg => rfl); (case hr => first | (go_simp; done) | (go_simp; rfl)); intro gb180 hg w5 hbox hb; have n0_ := Aside0.mk (blk_below (g := gb179) (o := .cells #[.int .i64 a0_0, .slice A0_1 l0_1.length c0_1, .int .i64 a0_2, .int .i64 a0_3, .slice A0_4 l0_4.length c0_4, .slice A0_5 l0_5.length c0_5, .slice A0_6 l0_6.length c0_6, .int .i64 a0_7, .int .i64 a0_8, .bool a0_9] 33 (0, 0)) (by (with_reducible repeat (first | refine blk_drewN ?_ _ | refine blk_drew ?_ | refine blk_alloc ?_ _)); exact BK179.out) hb); have n1_ := Aside0.mk (below_step (by repeat (first | (with_reducible first | exact HB.out | apply below_alloc | apply pw_below_drewN | apply below_drew1 | refine below_set ?_ GE179.out) | exact HB.out)) hb); have n2_ := Aside0.mk (hbox); have n3_ := Aside0.mk ((by rw [hg]; exact (below_size (by repeat (first | (with_reducible first | exact HB.out | apply below_alloc | apply pw_below_drewN | apply below_drew1 | refine below_set ?_ GE179.out) | exact HB.out))) : w.heap.size ≤ gb180)); have n4_ := Aside0.mk ((by rw [hg]; exact (below_size (by repeat (first | (with_reducible first | exact HB.out | apply below_alloc | apply pw_below_drewN | apply below_drew1 | refine below_set ?_ GE179.out) | exact HB.out))) : w.heap.size ≤ gb180)); have n5_ := Aside0.mk ((by rw [hg]; exact Nat.ne_of_lt (blk_lt (g := gb179) (o := .cells #[.int .i64 a0_0, .slice A0_1 l0_1.length c0_1, .int .i64 a0_2, .int .i64 a0_3, .slice A0_4 l0_4.length c0_4, .slice A0_5 l0_5.length c0_5, .slice A0_6 l0_6.length c0_6, .int .i64 a0_7, .int .i64 a0_8, .bool a0_9] 33 (0, 0)) (by (with_reducible repeat (first | refine blk_drewN ?_ _ | refine blk_drew ?_ | refine blk_alloc ?_ _)); exact BK179.out)) : gb179 ≠ gb180)); have n6_ := Aside0.mk ((by rw [hg]; exact Nat.ne_of_gt (blk_lt (g := gb179) (o := .cells #[.int .i64 a0_0, .slice A0_1 l0_1.length c0_1, .int .i64 a0_2, .int .i64 a0_3, .slice A0_4 l0_4.length c0_4, .slice A0_5 l0_5.length c0_5, .slice A0_6 l0_6.length c0_6, .int .i64 a0_7, .int .i64 a0_8, .bool a0_9] 33 (0, 0)) (by (with_reducible repeat (first | refine blk_drewN ?_ _ | refine blk_drew ?_ | refine blk_alloc ?_ _)); exact BK179.out)) : gb180 ≠ gb179)); clear BK179; clear HB; have BK179 := n0_; have HB := n1_; have BK180 := n2_; have GW180 := n3_; have GE180 := n4_; have NB179_180 := n5_; have NB180_179 := n6_; clear n0_ n1_ n2_ n3_ n4_ n5_ n6_; clear hb hbox hg))
  (try simp only [Act.put, List.setIfInBounds_toArray, List.set_cons_zero, List.set_cons_succ])
  go_cut [44] (fun v44 wc => ∃ (kq : Nat) (x44_2 : Bool), v44 = .bool x44_2 ∧ Aside0 (underwoodref08_Same.j0 kq x44_2 a0_0 l0_1 a0_2 a0_3 l0_4 l0_5 l0_6 a0_7 a0_8 a0_9 a1_0 l1_1 a1_2 a1_3 l1_4 l1_5 l1_6 a1_7 a1_8 a1_9 = some r) ∧ Aside0 (kq ≤ k) ∧ Aside0 (wc.heap[gb179]? = some (.cells #[.int .i64 a0_0, (.slice A0_1 l0_1.length c0_1), .int .i64 a0_2, .int .i64 a0_3, (.slice A0_4 l0_4.length c0_4), (.slice A0_5 l0_5.length c0_5), (.slice A0_6 l0_6.length c0_6), .int .i64 a0_7, .int .i64 a0_8, .bool a0_9] 33 (0, 0))) ∧ Aside0 (wc.heap[gb180]? = some (.cells #[.int .i64 a1_0, (.slice A1_1 l1_1.length c1_1), .int .i64 a1_2, .int .i64 a1_3, (.slice A1_4 l1_4.length c1_4), (.slice A1_5 l1_5.length c1_5), (.slice A1_6 l1_6.length c1_6), .int .i64 a1_7, .int .i64 a1_8, .bool a1_9] 33 (0, 0))) ∧ Aside0 (Below w.heap.size w wc))
  case first =>
    have H := HC3.out
    clear HC3
    by_cases c6 : a0_0 = a1_0
    · rw [if_pos c6] at H
      have c6b0 : (a0_0 == a1_0) = true := beq_iff_eq.mpr c6
      have c6b1 : (a0_0 != a1_0) = false := bne_eq_false_iff_eq.mpr c6
      clear c6
      (first | rw [c6b0] | (simp only [i64_w, i32_w]; rw [c6b0]) | skip)
      by_cases c7 : a0_2 = a1_2
      · rw [if_pos c7] at H
        have c7b0 : (a0_2 == a1_2) = true := beq_iff_eq.mpr c7
        have c7b1 : (a0_2 != a1_2) = false := bne_eq_false_iff_eq.mpr c7
        clear c7
        by_cases c8 : a0_3 = a1_3
        · rw [if_pos c8] at H
          have c8b0 : (a0_3 == a1_3) = true := beq_iff_eq.mpr c8
          have c8b1 : (a0_3 != a1_3) = false := bne_eq_false_iff_eq.mpr c8
          clear c8
          by_cases c9 : a0_7 = a1_7
          · rw [if_pos c9] at H
            have c9b0 : (a0_7 == a1_7) = true := beq_iff_eq.mpr c9
            have c9b1 : (a0_7 != a1_7) = false := bne_eq_false_iff_eq.mpr c9
            clear c9
            by_cases c10 : a0_8 = a1_8
            · rw [if_pos c10] at H
              have c10b0 : (a0_8 == a1_8) = true := beq_iff_eq.mpr c10
              have c10b1 : (a0_8 != a1_8) = false := bne_eq_false_iff_eq.mpr c10
              clear c10
              have H' := Aside0.mk H
              clear H
              have hnb11 := NB179_180.out
              have hnc11 := NB180_179.out
              have hcz12_0 : w5.cell? ⟨gb179, 0, none⟩ = some (.int .i64 a0_0) := (blk_cell BK179.out 0).trans rfl
              have hcz12_1 : w5.cell? ⟨gb179, 1, none⟩ = some (.slice A0_1 l0_1.length c0_1) := (blk_cell BK179.out 1).trans rfl
              have hcz12_2 : w5.cell? ⟨gb179, 2, none⟩ = some (.int .i64 a0_2) := (blk_cell BK179.out 2).trans rfl
              have hcz12_3 : w5.cell? ⟨gb179, 3, none⟩ = some (.int .i64 a0_3) := (blk_cell BK179.out 3).trans rfl
              have hcz12_4 : w5.cell? ⟨gb179, 4, none⟩ = some (.slice A0_4 l0_4.length c0_4) := (blk_cell BK179.out 4).trans rfl
              have hcz12_5 : w5.cell? ⟨gb179, 5, none⟩ = some (.slice A0_5 l0_5.length c0_5) := (blk_cell BK179.out 5).trans rfl
              have hcz12_6 : w5.cell? ⟨gb179, 6, none⟩ = some (.slice A0_6 l0_6.length c0_6) := (blk_cell BK179.out 6).trans rfl
              have hcz12_7 : w5.cell? ⟨gb179, 7, none⟩ = some (.int .i64 a0_7) := (blk_cell BK179.out 7).trans rfl
              have hcz12_8 : w5.cell? ⟨gb179, 8, none⟩ = some (.int .i64 a0_8) := (blk_cell BK179.out 8).trans rfl
              have hcz12_9 : w5.cell? ⟨gb179, 9, none⟩ = some (.bool a0_9) := (blk_cell BK179.out 9).trans rfl
              have hfz12_0 := blk_frozen BK179.out 0
              have hfz12_1 := blk_frozen BK179.out 1
              have hfz12_2 := blk_frozen BK179.out 2
              have hfz12_3 := blk_frozen BK179.out 3
              have hfz12_4 := blk_frozen BK179.out 4
              have hfz12_5 := blk_frozen BK179.out 5
              have hfz12_6 := blk_frozen BK179.out 6
              have hfz12_7 := blk_frozen BK179.out 7
              have hfz12_8 := blk_frozen BK179.out 8
              have hfz12_9 := blk_frozen BK179.out 9
              have hcz13_0 : w5.cell? ⟨gb180, 0, none⟩ = some (.int .i64 a1_0) := (blk_cell BK180.out 0).trans rfl
              have hcz13_1 : w5.cell? ⟨gb180, 1, none⟩ = some (.slice A1_1 l1_1.length c1_1) := (blk_cell BK180.out 1).trans rfl
              have hcz13_2 : w5.cell? ⟨gb180, 2, none⟩ = some (.int .i64 a1_2) := (blk_cell BK180.out 2).trans rfl
              have hcz13_3 : w5.cell? ⟨gb180, 3, none⟩ = some (.int .i64 a1_3) := (blk_cell BK180.out 3).trans rfl
              have hcz13_4 : w5.cell? ⟨gb180, 4, none⟩ = some (.slice A1_4 l1_4.length c1_4) := (blk_cell BK180.out 4).trans rfl
              have hcz13_5 : w5.cell? ⟨gb180, 5, none⟩ = some (.slice A1_5 l1_5.length c1_5) := (blk_cell BK180.out 5).trans rfl
              have hcz13_6 : w5.cell? ⟨gb180, 6, none⟩ = some (.slice A1_6 l1_6.length c1_6) := (blk_cell BK180.out 6).trans rfl
              have hcz13_7 : w5.cell? ⟨gb180, 7, none⟩ = some (.int .i64 a1_7) := (blk_cell BK180.out 7).trans rfl
              have hcz13_8 : w5.cell? ⟨gb180, 8, none⟩ = some (.int .i64 a1_8) := (blk_cell BK180.out 8).trans rfl
              have hcz13_9 : w5.cell? ⟨gb180, 9, none⟩ = some (.bool a1_9) := (blk_cell BK180.out 9).trans rfl
              have hfz13_0 := blk_frozen BK180.out 0
              have hfz13_1 := blk_frozen BK180.out 1
              have hfz13_2 := blk_frozen BK180.out 2
              have hfz13_3 := blk_frozen BK180.out 3
              have hfz13_4 := blk_frozen BK180.out 4
              have hfz13_5 := blk_frozen BK180.out 5
              have hfz13_6 := blk_frozen BK180.out 6
              have hfz13_7 := blk_frozen BK180.out 7
              have hfz13_8 := blk_frozen BK180.out 8
              have hfz13_9 := blk_frozen BK180.out 9
              go_wp2
              go_meet
              case rel => exact ⟨_, ((a0_9 != a1_9)), (by first | rfl | (simp; done) | (simp [*]; done)), H', ⟨by first | omega | exact Nat.le_refl _⟩, ⟨by (with_reducible repeat (first | refine blk_drewN ?_ _ | refine blk_drew ?_ | refine blk_alloc ?_ _)); exact BK179.out⟩, ⟨by (with_reducible repeat (first | refine blk_drewN ?_ _ | refine blk_drew ?_ | refine blk_alloc ?_ _)); exact BK180.out⟩, ⟨by repeat (first | (with_reducible first | exact HB.out | apply below_alloc | apply pw_below_drewN | apply below_drew1 | refine below_set ?_ GE179.out | refine below_set ?_ GE180.out) | exact HB.out)⟩⟩
            · rw [if_neg c10] at H
              have c10b0 : (a0_8 == a1_8) = false := beq_eq_false_iff_ne.mpr c10
              have c10b1 : (a0_8 != a1_8) = true := bne_iff_ne.mpr c10
              have H' := Aside0.mk H
              clear H
              have hnb14 := NB179_180.out
              have hnc14 := NB180_179.out
              have hcz15_0 : w5.cell? ⟨gb179, 0, none⟩ = some (.int .i64 a0_0) := (blk_cell BK179.out 0).trans rfl
              have hcz15_1 : w5.cell? ⟨gb179, 1, none⟩ = some (.slice A0_1 l0_1.length c0_1) := (blk_cell BK179.out 1).trans rfl
              have hcz15_2 : w5.cell? ⟨gb179, 2, none⟩ = some (.int .i64 a0_2) := (blk_cell BK179.out 2).trans rfl
              have hcz15_3 : w5.cell? ⟨gb179, 3, none⟩ = some (.int .i64 a0_3) := (blk_cell BK179.out 3).trans rfl
              have hcz15_4 : w5.cell? ⟨gb179, 4, none⟩ = some (.slice A0_4 l0_4.length c0_4) := (blk_cell BK179.out 4).trans rfl
              have hcz15_5 : w5.cell? ⟨gb179, 5, none⟩ = some (.slice A0_5 l0_5.length c0_5) := (blk_cell BK179.out 5).trans rfl
              have hcz15_6 : w5.cell? ⟨gb179, 6, none⟩ = some (.slice A0_6 l0_6.length c0_6) := (blk_cell BK179.out 6).trans rfl
              have hcz15_7 : w5.cell? ⟨gb179, 7, none⟩ = some (.int .i64 a0_7) := (blk_cell BK179.out 7).trans rfl
              have hcz15_8 : w5.cell? ⟨gb179, 8, none⟩ = some (.int .i64 a0_8) := (blk_cell BK179.out 8).trans rfl
              have hcz15_9 : w5.cell? ⟨gb179, 9, none⟩ = some (.bool a0_9) := (blk_cell BK179.out 9).trans rfl
              have hfz15_0 := blk_frozen BK179.out 0
              have hfz15_1 := blk_frozen BK179.out 1
              have hfz15_2 := blk_frozen BK179.out 2
              have hfz15_3 := blk_frozen BK179.out 3
              have hfz15_4 := blk_frozen BK179.out 4
              have hfz15_5 := blk_frozen BK179.out 5
              have hfz15_6 := blk_frozen BK179.out 6
              have hfz15_7 := blk_frozen BK179.out 7
              have hfz15_8 := blk_frozen BK179.out 8
              have hfz15_9 := blk_frozen BK179.out 9
              have hcz16_0 : w5.cell? ⟨gb180, 0, none⟩ = some (.int .i64 a1_0) := (blk_cell BK180.out 0).trans rfl
              have hcz16_1 : w5.cell? ⟨gb180, 1, none⟩ = some (.slice A1_1 l1_1.length c1_1) := (blk_cell BK180.out 1).trans rfl
              have hcz16_2 : w5.cell? ⟨gb180, 2, none⟩ = some (.int .i64 a1_2) := (blk_cell BK180.out 2).trans rfl
              have hcz16_3 : w5.cell? ⟨gb180, 3, none⟩ = some (.int .i64 a1_3) := (blk_cell BK180.out 3).trans rfl
              have hcz16_4 : w5.cell? ⟨gb180, 4, none⟩ = some (.slice A1_4 l1_4.length c1_4) := (blk_cell BK180.out 4).trans rfl
              have hcz16_5 : w5.cell? ⟨gb180, 5, none⟩ = some (.slice A1_5 l1_5.length c1_5) := (blk_cell BK180.out 5).trans rfl
              have hcz16_6 : w5.cell? ⟨gb180, 6, none⟩ = some (.slice A1_6 l1_6.length c1_6) := (blk_cell BK180.out 6).trans rfl
              have hcz16_7 : w5.cell? ⟨gb180, 7, none⟩ = some (.int .i64 a1_7) := (blk_cell BK180.out 7).trans rfl
              have hcz16_8 : w5.cell? ⟨gb180, 8, none⟩ = some (.int .i64 a1_8) := (blk_cell BK180.out 8).trans rfl
              have hcz16_9 : w5.cell? ⟨gb180, 9, none⟩ = some (.bool a1_9) := (blk_cell BK180.out 9).trans rfl
              have hfz16_0 := blk_frozen BK180.out 0
              have hfz16_1 := blk_frozen BK180.out 1
              have hfz16_2 := blk_frozen BK180.out 2
              have hfz16_3 := blk_frozen BK180.out 3
              have hfz16_4 := blk_frozen BK180.out 4
              have hfz16_5 := blk_frozen BK180.out 5
              have hfz16_6 := blk_frozen BK180.out 6
              have hfz16_7 := blk_frozen BK180.out 7
              have hfz16_8 := blk_frozen BK180.out 8
              have hfz16_9 := blk_frozen BK180.out 9
              go_wp2
              go_meet
              case rel => exact ⟨_, (true), (by first | rfl | (simp; done) | (simp [*]; done)), H', ⟨by first | omega | exact Nat.le_refl _⟩, ⟨by (with_reducible repeat (first | refine blk_drewN ?_ _ | refine blk_drew ?_ | refine blk_alloc ?_ _)); exact BK179.out⟩, ⟨by (with_reducible repeat (first | refine blk_drewN ?_ _ | refine blk_drew ?_ | refine blk_alloc ?_ _)); exact BK180.out⟩, ⟨by repeat (first | (with_reducible first | exact HB.out | apply below_alloc | apply pw_below_drewN | apply below_drew1 | refine below_set ?_ GE179.out | refine below_set ?_ GE180.out) | exact HB.out)⟩⟩
          · rw [if_neg c9] at H
            have c9b0 : (a0_7 == a1_7) = false := beq_eq_false_iff_ne.mpr c9
            have c9b1 : (a0_7 != a1_7) = true := bne_iff_ne.mpr c9
            have H' := Aside0.mk H
            clear H
            have hnb17 := NB179_180.out
            have hnc17 := NB180_179.out
            have hcz18_0 : w5.cell? ⟨gb179, 0, none⟩ = some (.int .i64 a0_0) := (blk_cell BK179.out 0).trans rfl
            have hcz18_1 : w5.cell? ⟨gb179, 1, none⟩ = some (.slice A0_1 l0_1.length c0_1) := (blk_cell BK179.out 1).trans rfl
            have hcz18_2 : w5.cell? ⟨gb179, 2, none⟩ = some (.int .i64 a0_2) := (blk_cell BK179.out 2).trans rfl
            have hcz18_3 : w5.cell? ⟨gb179, 3, none⟩ = some (.int .i64 a0_3) := (blk_cell BK179.out 3).trans rfl
            have hcz18_4 : w5.cell? ⟨gb179, 4, none⟩ = some (.slice A0_4 l0_4.length c0_4) := (blk_cell BK179.out 4).trans rfl
            have hcz18_5 : w5.cell? ⟨gb179, 5, none⟩ = some (.slice A0_5 l0_5.length c0_5) := (blk_cell BK179.out 5).trans rfl
            have hcz18_6 : w5.cell? ⟨gb179, 6, none⟩ = some (.slice A0_6 l0_6.length c0_6) := (blk_cell BK179.out 6).trans rfl
            have hcz18_7 : w5.cell? ⟨gb179, 7, none⟩ = some (.int .i64 a0_7) := (blk_cell BK179.out 7).trans rfl
            have hcz18_8 : w5.cell? ⟨gb179, 8, none⟩ = some (.int .i64 a0_8) := (blk_cell BK179.out 8).trans rfl
            have hcz18_9 : w5.cell? ⟨gb179, 9, none⟩ = some (.bool a0_9) := (blk_cell BK179.out 9).trans rfl
            have hfz18_0 := blk_frozen BK179.out 0
            have hfz18_1 := blk_frozen BK179.out 1
            have hfz18_2 := blk_frozen BK179.out 2
            have hfz18_3 := blk_frozen BK179.out 3
            have hfz18_4 := blk_frozen BK179.out 4
            have hfz18_5 := blk_frozen BK179.out 5
            have hfz18_6 := blk_frozen BK179.out 6
            have hfz18_7 := blk_frozen BK179.out 7
            have hfz18_8 := blk_frozen BK179.out 8
            have hfz18_9 := blk_frozen BK179.out 9
            have hcz19_0 : w5.cell? ⟨gb180, 0, none⟩ = some (.int .i64 a1_0) := (blk_cell BK180.out 0).trans rfl
            have hcz19_1 : w5.cell? ⟨gb180, 1, none⟩ = some (.slice A1_1 l1_1.length c1_1) := (blk_cell BK180.out 1).trans rfl
            have hcz19_2 : w5.cell? ⟨gb180, 2, none⟩ = some (.int .i64 a1_2) := (blk_cell BK180.out 2).trans rfl
            have hcz19_3 : w5.cell? ⟨gb180, 3, none⟩ = some (.int .i64 a1_3) := (blk_cell BK180.out 3).trans rfl
            have hcz19_4 : w5.cell? ⟨gb180, 4, none⟩ = some (.slice A1_4 l1_4.length c1_4) := (blk_cell BK180.out 4).trans rfl
            have hcz19_5 : w5.cell? ⟨gb180, 5, none⟩ = some (.slice A1_5 l1_5.length c1_5) := (blk_cell BK180.out 5).trans rfl
            have hcz19_6 : w5.cell? ⟨gb180, 6, none⟩ = some (.slice A1_6 l1_6.length c1_6) := (blk_cell BK180.out 6).trans rfl
            have hcz19_7 : w5.cell? ⟨gb180, 7, none⟩ = some (.int .i64 a1_7) := (blk_cell BK180.out 7).trans rfl
            have hcz19_8 : w5.cell? ⟨gb180, 8, none⟩ = some (.int .i64 a1_8) := (blk_cell BK180.out 8).trans rfl
            have hcz19_9 : w5.cell? ⟨gb180, 9, none⟩ = some (.bool a1_9) := (blk_cell BK180.out 9).trans rfl
            have hfz19_0 := blk_frozen BK180.out 0
            have hfz19_1 := blk_frozen BK180.out 1
            have hfz19_2 := blk_frozen BK180.out 2
            have hfz19_3 := blk_frozen BK180.out 3
            have hfz19_4 := blk_frozen BK180.out 4
            have hfz19_5 := blk_frozen BK180.out 5
            have hfz19_6 := blk_frozen BK180.out 6
            have hfz19_7 := blk_frozen BK180.out 7
            have hfz19_8 := blk_frozen BK180.out 8
            have hfz19_9 := blk_frozen BK180.out 9
            go_wp2
            go_meet
            case rel => exact ⟨_, (true), (by first | rfl | (simp; done) | (simp [*]; done)), H', ⟨by first | omega | exact Nat.le_refl _⟩, ⟨by (with_reducible repeat (first | refine blk_drewN ?_ _ | refine blk_drew ?_ | refine blk_alloc ?_ _)); exact BK179.out⟩, ⟨by (with_reducible repeat (first | refine blk_drewN ?_ _ | refine blk_drew ?_ | refine blk_alloc ?_ _)); exact BK180.out⟩, ⟨by repeat (first | (with_reducible first | exact HB.out | apply below_alloc | apply pw_below_drewN | apply below_drew1 | refine below_set ?_ GE179.out | refine below_set ?_ GE180.out) | exact HB.out)⟩⟩
        · rw [if_neg c8] at H
          have c8b0 : (a0_3 == a1_3) = false := beq_eq_false_iff_ne.mpr c8
          have c8b1 : (a0_3 != a1_3) = true := bne_iff_ne.mpr c8
          have H' := Aside0.mk H
          clear H
          have hnb20 := NB179_180.out
          have hnc20 := NB180_179.out
          have hcz21_0 : w5.cell? ⟨gb179, 0, none⟩ = some (.int .i64 a0_0) := (blk_cell BK179.out 0).trans rfl
          have hcz21_1 : w5.cell? ⟨gb179, 1, none⟩ = some (.slice A0_1 l0_1.length c0_1) := (blk_cell BK179.out 1).trans rfl
          have hcz21_2 : w5.cell? ⟨gb179, 2, none⟩ = some (.int .i64 a0_2) := (blk_cell BK179.out 2).trans rfl
          have hcz21_3 : w5.cell? ⟨gb179, 3, none⟩ = some (.int .i64 a0_3) := (blk_cell BK179.out 3).trans rfl
          have hcz21_4 : w5.cell? ⟨gb179, 4, none⟩ = some (.slice A0_4 l0_4.length c0_4) := (blk_cell BK179.out 4).trans rfl
          have hcz21_5 : w5.cell? ⟨gb179, 5, none⟩ = some (.slice A0_5 l0_5.length c0_5) := (blk_cell BK179.out 5).trans rfl
          have hcz21_6 : w5.cell? ⟨gb179, 6, none⟩ = some (.slice A0_6 l0_6.length c0_6) := (blk_cell BK179.out 6).trans rfl
          have hcz21_7 : w5.cell? ⟨gb179, 7, none⟩ = some (.int .i64 a0_7) := (blk_cell BK179.out 7).trans rfl
          have hcz21_8 : w5.cell? ⟨gb179, 8, none⟩ = some (.int .i64 a0_8) := (blk_cell BK179.out 8).trans rfl
          have hcz21_9 : w5.cell? ⟨gb179, 9, none⟩ = some (.bool a0_9) := (blk_cell BK179.out 9).trans rfl
          have hfz21_0 := blk_frozen BK179.out 0
          have hfz21_1 := blk_frozen BK179.out 1
          have hfz21_2 := blk_frozen BK179.out 2
          have hfz21_3 := blk_frozen BK179.out 3
          have hfz21_4 := blk_frozen BK179.out 4
          have hfz21_5 := blk_frozen BK179.out 5
          have hfz21_6 := blk_frozen BK179.out 6
          have hfz21_7 := blk_frozen BK179.out 7
          have hfz21_8 := blk_frozen BK179.out 8
          have hfz21_9 := blk_frozen BK179.out 9
          have hcz22_0 : w5.cell? ⟨gb180, 0, none⟩ = some (.int .i64 a1_0) := (blk_cell BK180.out 0).trans rfl
          have hcz22_1 : w5.cell? ⟨gb180, 1, none⟩ = some (.slice A1_1 l1_1.length c1_1) := (blk_cell BK180.out 1).trans rfl
          have hcz22_2 : w5.cell? ⟨gb180, 2, none⟩ = some (.int .i64 a1_2) := (blk_cell BK180.out 2).trans rfl
          have hcz22_3 : w5.cell? ⟨gb180, 3, none⟩ = some (.int .i64 a1_3) := (blk_cell BK180.out 3).trans rfl
          have hcz22_4 : w5.cell? ⟨gb180, 4, none⟩ = some (.slice A1_4 l1_4.length c1_4) := (blk_cell BK180.out 4).trans rfl
          have hcz22_5 : w5.cell? ⟨gb180, 5, none⟩ = some (.slice A1_5 l1_5.length c1_5) := (blk_cell BK180.out 5).trans rfl
          have hcz22_6 : w5.cell? ⟨gb180, 6, none⟩ = some (.slice A1_6 l1_6.length c1_6) := (blk_cell BK180.out 6).trans rfl
          have hcz22_7 : w5.cell? ⟨gb180, 7, none⟩ = some (.int .i64 a1_7) := (blk_cell BK180.out 7).trans rfl
          have hcz22_8 : w5.cell? ⟨gb180, 8, none⟩ = some (.int .i64 a1_8) := (blk_cell BK180.out 8).trans rfl
          have hcz22_9 : w5.cell? ⟨gb180, 9, none⟩ = some (.bool a1_9) := (blk_cell BK180.out 9).trans rfl
          have hfz22_0 := blk_frozen BK180.out 0
          have hfz22_1 := blk_frozen BK180.out 1
          have hfz22_2 := blk_frozen BK180.out 2
          have hfz22_3 := blk_frozen BK180.out 3
          have hfz22_4 := blk_frozen BK180.out 4
          have hfz22_5 := blk_frozen BK180.out 5
          have hfz22_6 := blk_frozen BK180.out 6
          have hfz22_7 := blk_frozen BK180.out 7
          have hfz22_8 := blk_frozen BK180.out 8
          have hfz22_9 := blk_frozen BK180.out 9
          go_wp2
          go_meet
          case rel => exact ⟨_, (true), (by first | rfl | (simp; done) | (simp [*]; done)), H', ⟨by first | omega | exact Nat.le_refl _⟩, ⟨by (with_reducible repeat (first | refine blk_drewN ?_ _ | refine blk_drew ?_ | refine blk_alloc ?_ _)); exact BK179.out⟩, ⟨by (with_reducible repeat (first | refine blk_drewN ?_ _ | refine blk_drew ?_ | refine blk_alloc ?_ _)); exact BK180.out⟩, ⟨by repeat (first | (with_reducible first | exact HB.out | apply below_alloc | apply pw_below_drewN | apply below_drew1 | refine below_set ?_ GE179.out | refine below_set ?_ GE180.out) | exact HB.out)⟩⟩
      · rw [if_neg c7] at H
        have c7b0 : (a0_2 == a1_2) = false := beq_eq_false_iff_ne.mpr c7
        have c7b1 : (a0_2 != a1_2) = true := bne_iff_ne.mpr c7
        have H' := Aside0.mk H
        clear H
        have hnb23 := NB179_180.out
        have hnc23 := NB180_179.out
        have hcz24_0 : w5.cell? ⟨gb179, 0, none⟩ = some (.int .i64 a0_0) := (blk_cell BK179.out 0).trans rfl
        have hcz24_1 : w5.cell? ⟨gb179, 1, none⟩ = some (.slice A0_1 l0_1.length c0_1) := (blk_cell BK179.out 1).trans rfl
        have hcz24_2 : w5.cell? ⟨gb179, 2, none⟩ = some (.int .i64 a0_2) := (blk_cell BK179.out 2).trans rfl
        have hcz24_3 : w5.cell? ⟨gb179, 3, none⟩ = some (.int .i64 a0_3) := (blk_cell BK179.out 3).trans rfl
        have hcz24_4 : w5.cell? ⟨gb179, 4, none⟩ = some (.slice A0_4 l0_4.length c0_4) := (blk_cell BK179.out 4).trans rfl
        have hcz24_5 : w5.cell? ⟨gb179, 5, none⟩ = some (.slice A0_5 l0_5.length c0_5) := (blk_cell BK179.out 5).trans rfl
        have hcz24_6 : w5.cell? ⟨gb179, 6, none⟩ = some (.slice A0_6 l0_6.length c0_6) := (blk_cell BK179.out 6).trans rfl
        have hcz24_7 : w5.cell? ⟨gb179, 7, none⟩ = some (.int .i64 a0_7) := (blk_cell BK179.out 7).trans rfl
        have hcz24_8 : w5.cell? ⟨gb179, 8, none⟩ = some (.int .i64 a0_8) := (blk_cell BK179.out 8).trans rfl
        have hcz24_9 : w5.cell? ⟨gb179, 9, none⟩ = some (.bool a0_9) := (blk_cell BK179.out 9).trans rfl
        have hfz24_0 := blk_frozen BK179.out 0
        have hfz24_1 := blk_frozen BK179.out 1
        have hfz24_2 := blk_frozen BK179.out 2
        have hfz24_3 := blk_frozen BK179.out 3
        have hfz24_4 := blk_frozen BK179.out 4
        have hfz24_5 := blk_frozen BK179.out 5
        have hfz24_6 := blk_frozen BK179.out 6
        have hfz24_7 := blk_frozen BK179.out 7
        have hfz24_8 := blk_frozen BK179.out 8
        have hfz24_9 := blk_frozen BK179.out 9
        have hcz25_0 : w5.cell? ⟨gb180, 0, none⟩ = some (.int .i64 a1_0) := (blk_cell BK180.out 0).trans rfl
        have hcz25_1 : w5.cell? ⟨gb180, 1, none⟩ = some (.slice A1_1 l1_1.length c1_1) := (blk_cell BK180.out 1).trans rfl
        have hcz25_2 : w5.cell? ⟨gb180, 2, none⟩ = some (.int .i64 a1_2) := (blk_cell BK180.out 2).trans rfl
        have hcz25_3 : w5.cell? ⟨gb180, 3, none⟩ = some (.int .i64 a1_3) := (blk_cell BK180.out 3).trans rfl
        have hcz25_4 : w5.cell? ⟨gb180, 4, none⟩ = some (.slice A1_4 l1_4.length c1_4) := (blk_cell BK180.out 4).trans rfl
        have hcz25_5 : w5.cell? ⟨gb180, 5, none⟩ = some (.slice A1_5 l1_5.length c1_5) := (blk_cell BK180.out 5).trans rfl
        have hcz25_6 : w5.cell? ⟨gb180, 6, none⟩ = some (.slice A1_6 l1_6.length c1_6) := (blk_cell BK180.out 6).trans rfl
        have hcz25_7 : w5.cell? ⟨gb180, 7, none⟩ = some (.int .i64 a1_7) := (blk_cell BK180.out 7).trans rfl
        have hcz25_8 : w5.cell? ⟨gb180, 8, none⟩ = some (.int .i64 a1_8) := (blk_cell BK180.out 8).trans rfl
        have hcz25_9 : w5.cell? ⟨gb180, 9, none⟩ = some (.bool a1_9) := (blk_cell BK180.out 9).trans rfl
        have hfz25_0 := blk_frozen BK180.out 0
        have hfz25_1 := blk_frozen BK180.out 1
        have hfz25_2 := blk_frozen BK180.out 2
        have hfz25_3 := blk_frozen BK180.out 3
        have hfz25_4 := blk_frozen BK180.out 4
        have hfz25_5 := blk_frozen BK180.out 5
        have hfz25_6 := blk_frozen BK180.out 6
        have hfz25_7 := blk_frozen BK180.out 7
        have hfz25_8 := blk_frozen BK180.out 8
        have hfz25_9 := blk_frozen BK180.out 9
        go_wp2
        go_meet
        case rel => exact ⟨_, (true), (by first | rfl | (simp; done) | (simp [*]; done)), H', ⟨by first | omega | exact Nat.le_refl _⟩, ⟨by (with_reducible repeat (first | refine blk_drewN ?_ _ | refine blk_drew ?_ | refine blk_alloc ?_ _)); exact BK179.out⟩, ⟨by (with_reducible repeat (first | refine blk_drewN ?_ _ | refine blk_drew ?_ | refine blk_alloc ?_ _)); exact BK180.out⟩, ⟨by repeat (first | (with_reducible first | exact HB.out | apply below_alloc | apply pw_below_drewN | apply below_drew1 | refine below_set ?_ GE179.out | refine below_set ?_ GE180.out) | exact HB.out)⟩⟩
    · rw [if_neg c6] at H
      have c6b0 : (a0_0 == a1_0) = false := beq_eq_false_iff_ne.mpr c6
      have c6b1 : (a0_0 != a1_0) = true := bne_iff_ne.mpr c6
      (first | rw [c6b0] | (simp only [i64_w, i32_w]; rw [c6b0]) | skip)
      have H' := Aside0.mk H
      clear H
      have hnb26 := NB179_180.out
      have hnc26 := NB180_179.out
      have hcz27_0 : w5.cell? ⟨gb179, 0, none⟩ = some (.int .i64 a0_0) := (blk_cell BK179.out 0).trans rfl
      have hcz27_1 : w5.cell? ⟨gb179, 1, none⟩ = some (.slice A0_1 l0_1.length c0_1) := (blk_cell BK179.out 1).trans rfl
      have hcz27_2 : w5.cell? ⟨gb179, 2, none⟩ = some (.int .i64 a0_2) := (blk_cell BK179.out 2).trans rfl
      have hcz27_3 : w5.cell? ⟨gb179, 3, none⟩ = some (.int .i64 a0_3) := (blk_cell BK179.out 3).trans rfl
      have hcz27_4 : w5.cell? ⟨gb179, 4, none⟩ = some (.slice A0_4 l0_4.length c0_4) := (blk_cell BK179.out 4).trans rfl
      have hcz27_5 : w5.cell? ⟨gb179, 5, none⟩ = some (.slice A0_5 l0_5.length c0_5) := (blk_cell BK179.out 5).trans rfl
      have hcz27_6 : w5.cell? ⟨gb179, 6, none⟩ = some (.slice A0_6 l0_6.length c0_6) := (blk_cell BK179.out 6).trans rfl
      have hcz27_7 : w5.cell? ⟨gb179, 7, none⟩ = some (.int .i64 a0_7) := (blk_cell BK179.out 7).trans rfl
      have hcz27_8 : w5.cell? ⟨gb179, 8, none⟩ = some (.int .i64 a0_8) := (blk_cell BK179.out 8).trans rfl
      have hcz27_9 : w5.cell? ⟨gb179, 9, none⟩ = some (.bool a0_9) := (blk_cell BK179.out 9).trans rfl
      have hfz27_0 := blk_frozen BK179.out 0
      have hfz27_1 := blk_frozen BK179.out 1
      have hfz27_2 := blk_frozen BK179.out 2
      have hfz27_3 := blk_frozen BK179.out 3
      have hfz27_4 := blk_frozen BK179.out 4
      have hfz27_5 := blk_frozen BK179.out 5
      have hfz27_6 := blk_frozen BK179.out 6
      have hfz27_7 := blk_frozen BK179.out 7
      have hfz27_8 := blk_frozen BK179.out 8
      have hfz27_9 := blk_frozen BK179.out 9
      have hcz28_0 : w5.cell? ⟨gb180, 0, none⟩ = some (.int .i64 a1_0) := (blk_cell BK180.out 0).trans rfl
      have hcz28_1 : w5.cell? ⟨gb180, 1, none⟩ = some (.slice A1_1 l1_1.length c1_1) := (blk_cell BK180.out 1).trans rfl
      have hcz28_2 : w5.cell? ⟨gb180, 2, none⟩ = some (.int .i64 a1_2) := (blk_cell BK180.out 2).trans rfl
      have hcz28_3 : w5.cell? ⟨gb180, 3, none⟩ = some (.int .i64 a1_3) := (blk_cell BK180.out 3).trans rfl
      have hcz28_4 : w5.cell? ⟨gb180, 4, none⟩ = some (.slice A1_4 l1_4.length c1_4) := (blk_cell BK180.out 4).trans rfl
      have hcz28_5 : w5.cell? ⟨gb180, 5, none⟩ = some (.slice A1_5 l1_5.length c1_5) := (blk_cell BK180.out 5).trans rfl
      have hcz28_6 : w5.cell? ⟨gb180, 6, none⟩ = some (.slice A1_6 l1_6.length c1_6) := (blk_cell BK180.out 6).trans rfl
      have hcz28_7 : w5.cell? ⟨gb180, 7, none⟩ = some (.int .i64 a1_7) := (blk_cell BK180.out 7).trans rfl
      have hcz28_8 : w5.cell? ⟨gb180, 8, none⟩ = some (.int .i64 a1_8) := (blk_cell BK180.out 8).trans rfl
      have hcz28_9 : w5.cell? ⟨gb180, 9, none⟩ = some (.bool a1_9) := (blk_cell BK180.out 9).trans rfl
      have hfz28_0 := blk_frozen BK180.out 0
      have hfz28_1 := blk_frozen BK180.out 1
      have hfz28_2 := blk_frozen BK180.out 2
      have hfz28_3 := blk_frozen BK180.out 3
      have hfz28_4 := blk_frozen BK180.out 4
      have hfz28_5 := blk_frozen BK180.out 5
      have hfz28_6 := blk_frozen BK180.out 6
      have hfz28_7 := blk_frozen BK180.out 7
      have hfz28_8 := blk_frozen BK180.out 8
      have hfz28_9 := blk_frozen BK180.out 9
      go_wp2
      go_meet
      case rel => exact ⟨_, (true), (by first | rfl | (simp; done) | (simp [*]; done)), H', ⟨by first | omega | exact Nat.le_refl _⟩, ⟨by (with_reducible repeat (first | refine blk_drewN ?_ _ | refine blk_drew ?_ | refine blk_alloc ?_ _)); exact BK179.out⟩, ⟨by (with_reducible repeat (first | refine blk_drewN ?_ _ | refine blk_drew ?_ | refine blk_alloc ?_ _)); exact BK180.out⟩, ⟨by repeat (first | (with_reducible first | exact HB.out | apply below_alloc | apply pw_below_drewN | apply below_drew1 | refine below_set ?_ GE179.out | refine below_set ?_ GE180.out) | exact HB.out)⟩⟩
  case rest =>
    clear HC3
    try clear c1
    try clear c2
    try clear p2
    try clear c6
    try clear c6b0
    try clear c6b1
    try clear c7
    try clear c7b0
    try clear c7b1
    try clear c8
    try clear c8b0
    try clear c8b1
    try clear c9
    try clear c9b0
    try clear c9b1
    try clear c10
    try clear c10b0
    try clear c10b1
    try clear c11
    try clear c14
    try clear c15
    try clear c17
    try clear c20
    try clear c23
    try clear c26
    try clear hcz12_0
    try clear hcz12_1
    try clear hcz12_2
    try clear hcz12_3
    try clear hcz12_4
    try clear hcz12_5
    try clear hcz12_6
    try clear hcz12_7
    try clear hcz12_8
    try clear hcz12_9
    try clear hcz13_0
    try clear hcz13_1
    try clear hcz13_2
    try clear hcz13_3
    try clear hcz13_4
    try clear hcz13_5
    try clear hcz13_6
    try clear hcz13_7
    try clear hcz13_8
    try clear hcz13_9
    try clear hcz15_0
    try clear hcz15_1
    try clear hcz15_2
    try clear hcz15_3
    try clear hcz15_4
    try clear hcz15_5
    try clear hcz15_6
    try clear hcz15_7
    try clear hcz15_8
    try clear hcz15_9
    try clear hcz16_0
    try clear hcz16_1
    try clear hcz16_2
    try clear hcz16_3
    try clear hcz16_4
    try clear hcz16_5
    try clear hcz16_6
    try clear hcz16_7
    try clear hcz16_8
    try clear hcz16_9
    try clear hcz18_0
    try clear hcz18_1
    try clear hcz18_2
    try clear hcz18_3
    try clear hcz18_4
    try clear hcz18_5
    try clear hcz18_6
    try clear hcz18_7
    try clear hcz18_8
    try clear hcz18_9
    try clear hcz19_0
    try clear hcz19_1
    try clear hcz19_2
    try clear hcz19_3
    try clear hcz19_4
    try clear hcz19_5
    try clear hcz19_6
    try clear hcz19_7
    try clear hcz19_8
    try clear hcz19_9
    try clear hcz21_0
    try clear hcz21_1
    try clear hcz21_2
    try clear hcz21_3
    try clear hcz21_4
    try clear hcz21_5
    try clear hcz21_6
    try clear hcz21_7
    try clear hcz21_8
    try clear hcz21_9
    try clear hcz22_0
    try clear hcz22_1
    try clear hcz22_2
    try clear hcz22_3
    try clear hcz22_4
    try clear hcz22_5
    try clear hcz22_6
    try clear hcz22_7
    try clear hcz22_8
    try clear hcz22_9
    try clear hcz24_0
    try clear hcz24_1
    try clear hcz24_2
    try clear hcz24_3
    try clear hcz24_4
    try clear hcz24_5
    try clear hcz24_6
    try clear hcz24_7
    try clear hcz24_8
    try clear hcz24_9
    try clear hcz25_0
    try clear hcz25_1
    try clear hcz25_2
    try clear hcz25_3
    try clear hcz25_4
    try clear hcz25_5
    try clear hcz25_6
    try clear hcz25_7
    try clear hcz25_8
    try clear hcz25_9
    try clear hcz27_0
    try clear hcz27_1
    try clear hcz27_2
    try clear hcz27_3
    try clear hcz27_4
    try clear hcz27_5
    try clear hcz27_6
    try clear hcz27_7
    try clear hcz27_8
    try clear hcz27_9
    try clear hcz28_0
    try clear hcz28_1
    try clear hcz28_2
    try clear hcz28_3
    try clear hcz28_4
    try clear hcz28_5
    try clear hcz28_6
    try clear hcz28_7
    try clear hcz28_8
    try clear hcz28_9
    try clear hfz12_0
    try clear hfz12_1
    try clear hfz12_2
    try clear hfz12_3
    try clear hfz12_4
    try clear hfz12_5
    try clear hfz12_6
    try clear hfz12_7
    try clear hfz12_8
    try clear hfz12_9
    try clear hfz13_0
    try clear hfz13_1
    try clear hfz13_2
    try clear hfz13_3
    try clear hfz13_4
    try clear hfz13_5
    try clear hfz13_6
    try clear hfz13_7
    try clear hfz13_8
    try clear hfz13_9
    try clear hfz15_0
    try clear hfz15_1
    try clear hfz15_2
    try clear hfz15_3
    try clear hfz15_4
    try clear hfz15_5
    try clear hfz15_6
    try clear hfz15_7
    try clear hfz15_8
    try clear hfz15_9
    try clear hfz16_0
    try clear hfz16_1
    try clear hfz16_2
    try clear hfz16_3
    try clear hfz16_4
    try clear hfz16_5
    try clear hfz16_6
    try clear hfz16_7
    try clear hfz16_8
    try clear hfz16_9
    try clear hfz18_0
    try clear hfz18_1
    try clear hfz18_2
    try clear hfz18_3
    try clear hfz18_4
    try clear hfz18_5
    try clear hfz18_6
    try clear hfz18_7
    try clear hfz18_8
    try clear hfz18_9
    try clear hfz19_0
    try clear hfz19_1
    try clear hfz19_2
    try clear hfz19_3
    try clear hfz19_4
    try clear hfz19_5
    try clear hfz19_6
    try clear hfz19_7
    try clear hfz19_8
    try clear hfz19_9
    try clear hfz21_0
    try clear hfz21_1
    try clear hfz21_2
    try clear hfz21_3
    try clear hfz21_4
    try clear hfz21_5
    try clear hfz21_6
    try clear hfz21_7
    try clear hfz21_8
    try clear hfz21_9
    try clear hfz22_0
    try clear hfz22_1
    try clear hfz22_2
    try clear hfz22_3
    try clear hfz22_4
    try clear hfz22_5
    try clear hfz22_6
    try clear hfz22_7
    try clear hfz22_8
    try clear hfz22_9
    try clear hfz24_0
    try clear hfz24_1
    try clear hfz24_2
    try clear hfz24_3
    try clear hfz24_4
    try clear hfz24_5
    try clear hfz24_6
    try clear hfz24_7
    try clear hfz24_8
    try clear hfz24_9
    try clear hfz25_0
    try clear hfz25_1
    try clear hfz25_2
    try clear hfz25_3
    try clear hfz25_4
    try clear hfz25_5
    try clear hfz25_6
    try clear hfz25_7
    try clear hfz25_8
    try clear hfz25_9
    try clear hfz27_0
    try clear hfz27_1
    try clear hfz27_2
    try clear hfz27_3
    try clear hfz27_4
    try clear hfz27_5
    try clear hfz27_6
    try clear hfz27_7
    try clear hfz27_8
    try clear hfz27_9
    try clear hfz28_0
    try clear hfz28_1
    try clear hfz28_2
    try clear hfz28_3
    try clear hfz28_4
    try clear hfz28_5
    try clear hfz28_6
    try clear hfz28_7
    try clear hfz28_8
    try clear hfz28_9
    obtain ⟨kq, x44_2, rfl, HA, HJ2, BK179, BK180, HB⟩ := hcut
    cases kq with
    | zero => exact absurd HA.out (by simp [underwoodref08_Same.j0])
    | succ kj2 =>
      have H := HA.out
      clear HA
      simp only [underwoodref08_Same.j0] at H
      by_cases c29 : x44_2 = true
      · subst c29
        have H1 : (some false) = some r := by rw [if_pos rfl] at H; exact H
        clear H
        have H := H1
        clear H1
        obtain rfl := Option.some.inj H
        go_wp2
        go_ret
        exact ⟨by first | rfl | (simp [errW_none, errW_some] <;> rfl) | (simp [*, errW_none, errW_some] <;> rfl), by repeat (first | (with_reducible first | exact HB.out | apply below_alloc | apply pw_below_drewN | apply below_drew1 | refine below_set ?_ GE179.out | refine below_set ?_ GE180.out) | exact HB.out)⟩
      · replace c29 := Bool.eq_false_iff.mpr c29
        subst c29
        have H1 : ((underwoodref08_ints.f kj2 l0_1 l1_1).bind fun t181 => (if t181 = true then ((underwoodref08_ints.f kj2 l0_4 l1_4).bind fun t182 => (if t182 = true then ((underwoodref08_ints.f kj2 l0_5 l1_5).bind fun t183 => (if t183 = true then ((underwoodref08_kids.f kj2 l0_6 l1_6).bind fun t184 => (some t184)) else (some false))) else (some false))) else (some false))) = some r := by rw [if_neg (show ¬ (false = true) by decide)] at H; exact H
        clear H
        have H := H1
        clear H1
        replace H := Option.bind_eq_some_iff.mp H
        obtain ⟨t181, A300, H⟩ := H
        replace H : (if t181 = true then ((underwoodref08_ints.f kj2 l0_4 l1_4).bind fun t182 => (if t182 = true then ((underwoodref08_ints.f kj2 l0_5 l1_5).bind fun t183 => (if t183 = true then ((underwoodref08_kids.f kj2 l0_6 l1_6).bind fun t184 => (some t184)) else (some false))) else (some false))) else (some false)) = some r := H
        have A30 := Aside0.mk A300
        clear A300
        by_cases c31 : t181 = true
        · subst c31
          have H1 : ((underwoodref08_ints.f kj2 l0_4 l1_4).bind fun t182 => (if t182 = true then ((underwoodref08_ints.f kj2 l0_5 l1_5).bind fun t183 => (if t183 = true then ((underwoodref08_kids.f kj2 l0_6 l1_6).bind fun t184 => (some t184)) else (some false))) else (some false))) = some r := by rw [if_pos rfl] at H; exact H
          clear H
          have H := H1
          clear H1
          replace H := Option.bind_eq_some_iff.mp H
          obtain ⟨t182, A320, H⟩ := H
          replace H : (if t182 = true then ((underwoodref08_ints.f kj2 l0_5 l1_5).bind fun t183 => (if t183 = true then ((underwoodref08_kids.f kj2 l0_6 l1_6).bind fun t184 => (some t184)) else (some false))) else (some false)) = some r := H
          have A32 := Aside0.mk A320
          clear A320
          by_cases c33 : t182 = true
          · subst c33
            have H1 : ((underwoodref08_ints.f kj2 l0_5 l1_5).bind fun t183 => (if t183 = true then ((underwoodref08_kids.f kj2 l0_6 l1_6).bind fun t184 => (some t184)) else (some false))) = some r := by rw [if_pos rfl] at H; exact H
            clear H
            have H := H1
            clear H1
            replace H := Option.bind_eq_some_iff.mp H
            obtain ⟨t183, A340, H⟩ := H
            replace H : (if t183 = true then ((underwoodref08_kids.f kj2 l0_6 l1_6).bind fun t184 => (some t184)) else (some false)) = some r := H
            have A34 := Aside0.mk A340
            clear A340
            by_cases c35 : t183 = true
            · subst c35
              have H1 : ((underwoodref08_kids.f kj2 l0_6 l1_6).bind fun t184 => (some t184)) = some r := by rw [if_pos rfl] at H; exact H
              clear H
              have H := H1
              clear H1
              replace H := Option.bind_eq_some_iff.mp H
              obtain ⟨t184, A360, H⟩ := H
              replace H : (some t184) = some r := H
              have A36 := Aside0.mk A360
              clear A360
              obtain rfl := Option.some.inj H
              have hnb37 := NB179_180.out
              have hnc37 := NB180_179.out
              have hcz38_0 : wc.cell? ⟨gb179, 0, none⟩ = some (.int .i64 a0_0) := (blk_cell BK179.out 0).trans rfl
              have hcz38_1 : wc.cell? ⟨gb179, 1, none⟩ = some (.slice A0_1 l0_1.length c0_1) := (blk_cell BK179.out 1).trans rfl
              have hcz38_2 : wc.cell? ⟨gb179, 2, none⟩ = some (.int .i64 a0_2) := (blk_cell BK179.out 2).trans rfl
              have hcz38_3 : wc.cell? ⟨gb179, 3, none⟩ = some (.int .i64 a0_3) := (blk_cell BK179.out 3).trans rfl
              have hcz38_4 : wc.cell? ⟨gb179, 4, none⟩ = some (.slice A0_4 l0_4.length c0_4) := (blk_cell BK179.out 4).trans rfl
              have hcz38_5 : wc.cell? ⟨gb179, 5, none⟩ = some (.slice A0_5 l0_5.length c0_5) := (blk_cell BK179.out 5).trans rfl
              have hcz38_6 : wc.cell? ⟨gb179, 6, none⟩ = some (.slice A0_6 l0_6.length c0_6) := (blk_cell BK179.out 6).trans rfl
              have hcz38_7 : wc.cell? ⟨gb179, 7, none⟩ = some (.int .i64 a0_7) := (blk_cell BK179.out 7).trans rfl
              have hcz38_8 : wc.cell? ⟨gb179, 8, none⟩ = some (.int .i64 a0_8) := (blk_cell BK179.out 8).trans rfl
              have hcz38_9 : wc.cell? ⟨gb179, 9, none⟩ = some (.bool a0_9) := (blk_cell BK179.out 9).trans rfl
              have hfz38_0 := blk_frozen BK179.out 0
              have hfz38_1 := blk_frozen BK179.out 1
              have hfz38_2 := blk_frozen BK179.out 2
              have hfz38_3 := blk_frozen BK179.out 3
              have hfz38_4 := blk_frozen BK179.out 4
              have hfz38_5 := blk_frozen BK179.out 5
              have hfz38_6 := blk_frozen BK179.out 6
              have hfz38_7 := blk_frozen BK179.out 7
              have hfz38_8 := blk_frozen BK179.out 8
              have hfz38_9 := blk_frozen BK179.out 9
              have hcz39_0 : wc.cell? ⟨gb180, 0, none⟩ = some (.int .i64 a1_0) := (blk_cell BK180.out 0).trans rfl
              have hcz39_1 : wc.cell? ⟨gb180, 1, none⟩ = some (.slice A1_1 l1_1.length c1_1) := (blk_cell BK180.out 1).trans rfl
              have hcz39_2 : wc.cell? ⟨gb180, 2, none⟩ = some (.int .i64 a1_2) := (blk_cell BK180.out 2).trans rfl
              have hcz39_3 : wc.cell? ⟨gb180, 3, none⟩ = some (.int .i64 a1_3) := (blk_cell BK180.out 3).trans rfl
              have hcz39_4 : wc.cell? ⟨gb180, 4, none⟩ = some (.slice A1_4 l1_4.length c1_4) := (blk_cell BK180.out 4).trans rfl
              have hcz39_5 : wc.cell? ⟨gb180, 5, none⟩ = some (.slice A1_5 l1_5.length c1_5) := (blk_cell BK180.out 5).trans rfl
              have hcz39_6 : wc.cell? ⟨gb180, 6, none⟩ = some (.slice A1_6 l1_6.length c1_6) := (blk_cell BK180.out 6).trans rfl
              have hcz39_7 : wc.cell? ⟨gb180, 7, none⟩ = some (.int .i64 a1_7) := (blk_cell BK180.out 7).trans rfl
              have hcz39_8 : wc.cell? ⟨gb180, 8, none⟩ = some (.int .i64 a1_8) := (blk_cell BK180.out 8).trans rfl
              have hcz39_9 : wc.cell? ⟨gb180, 9, none⟩ = some (.bool a1_9) := (blk_cell BK180.out 9).trans rfl
              have hfz39_0 := blk_frozen BK180.out 0
              have hfz39_1 := blk_frozen BK180.out 1
              have hfz39_2 := blk_frozen BK180.out 2
              have hfz39_3 := blk_frozen BK180.out 3
              have hfz39_4 := blk_frozen BK180.out 4
              have hfz39_5 := blk_frozen BK180.out 5
              have hfz39_6 := blk_frozen BK180.out 6
              have hfz39_7 := blk_frozen BK180.out 7
              have hfz39_8 := blk_frozen BK180.out 8
              have hfz39_9 := blk_frozen BK180.out 9
              go_wp2_with (first | ((with_reducible refine gate_callee (f := 30) rfl ?_); refine goesL_ (some 49) rfl rfl Tryd.func30 (by kernel_rfl) rfl #[.slice A0_1 l0_1.length c0_1, .slice A1_1 l1_1.length c1_1] rfl (by (try simp only [List.map_toArray, List.map_cons, List.map_nil]); first | done | rfl | (simp only [List.length_drop, List.length_take]; rfl)) ?_; (with_reducible refine (underwoodref08_ints.calls kj2 _ _ l0_1 _ _ l1_1 true _ ?side1 ?side2 ?side3 ?side4 A30.out).mono ?_); (case side1 => repeat (first | exact (Kd.C_below HR0_1.out HB.out) | (with_reducible refine Kd.C_alloc ?_ _) | (with_reducible refine Kd.C_drewN ?_ _) | (with_reducible refine Kd.C_drew ?_))); (case side2 => exact HC0_1.out); (case side3 => repeat (first | exact (Kd.C_below HR1_1.out HB.out) | (with_reducible refine Kd.C_alloc ?_ _) | (with_reducible refine Kd.C_drewN ?_ _) | (with_reducible refine Kd.C_drew ?_))); (case side4 => exact HC1_1.out); rintro e w' ⟨rfl, ⟨nd, rfl⟩⟩; refine ⟨_, rfl, ?_⟩) | (go_at_call 30; (with_reducible refine (underwoodref08_ints.calls kj2 _ _ l0_4 _ _ l1_4 true _ ?side1 ?side2 ?side3 ?side4 A32.out).mono ?_); (case side1 => repeat (first | exact (Kd.C_below HR0_4.out (by repeat (first | (with_reducible first | exact HB.out | apply below_alloc | apply pw_below_drewN | apply below_drew1 | refine below_set ?_ GE179.out | refine below_set ?_ GE180.out) | exact HB.out))) | (with_reducible refine Kd.C_alloc ?_ _) | (with_reducible refine Kd.C_drewN ?_ _) | (with_reducible refine Kd.C_drew ?_))); (case side2 => exact HC0_4.out); (case side3 => repeat (first | exact (Kd.C_below HR1_4.out (by repeat (first | (with_reducible first | exact HB.out | apply below_alloc | apply pw_below_drewN | apply below_drew1 | refine below_set ?_ GE179.out | refine below_set ?_ GE180.out) | exact HB.out))) | (with_reducible refine Kd.C_alloc ?_ _) | (with_reducible refine Kd.C_drewN ?_ _) | (with_reducible refine Kd.C_drew ?_))); (case side4 => exact HC1_4.out); rintro e w' ⟨rfl, ⟨nd, rfl⟩⟩) | (go_at_call 30; (with_reducible refine (underwoodref08_ints.calls kj2 _ _ l0_5 _ _ l1_5 true _ ?side1 ?side2 ?side3 ?side4 A34.out).mono ?_); (case side1 => repeat (first | exact (Kd.C_below HR0_5.out (by repeat (first | (with_reducible first | exact HB.out | apply below_alloc | apply pw_below_drewN | apply below_drew1 | refine below_set ?_ GE179.out | refine below_set ?_ GE180.out) | exact HB.out))) | (with_reducible refine Kd.C_alloc ?_ _) | (with_reducible refine Kd.C_drewN ?_ _) | (with_reducible refine Kd.C_drew ?_))); (case side2 => exact HC0_5.out); (case side3 => repeat (first | exact (Kd.C_below HR1_5.out (by repeat (first | (with_reducible first | exact HB.out | apply below_alloc | apply pw_below_drewN | apply below_drew1 | refine below_set ?_ GE179.out | refine below_set ?_ GE180.out) | exact HB.out))) | (with_reducible refine Kd.C_alloc ?_ _) | (with_reducible refine Kd.C_drewN ?_ _) | (with_reducible refine Kd.C_drew ?_))); (case side4 => exact HC1_5.out); rintro e w' ⟨rfl, ⟨nd, rfl⟩⟩) | (go_at_call 31; (with_reducible refine (underwoodref08_kids.calls kj2 _ _ l0_6 _ _ l1_6 t184 _ ?side1 ?side2 ?side3 ?side4 A36.out).mono ?_); (case side1 => repeat (first | exact (Kd.C_below HR0_6.out (by repeat (first | (with_reducible first | exact HB.out | apply below_alloc | apply pw_below_drewN | apply below_drew1 | refine below_set ?_ GE179.out | refine below_set ?_ GE180.out) | exact HB.out))) | (with_reducible refine Kd.C_alloc ?_ _) | (with_reducible refine Kd.C_drewN ?_ _) | (with_reducible refine Kd.C_drew ?_))); (case side2 => exact HC0_6.out); (case side3 => repeat (first | exact (Kd.C_below HR1_6.out (by repeat (first | (with_reducible first | exact HB.out | apply below_alloc | apply pw_below_drewN | apply below_drew1 | refine below_set ?_ GE179.out | refine below_set ?_ GE180.out) | exact HB.out))) | (with_reducible refine Kd.C_alloc ?_ _) | (with_reducible refine Kd.C_drewN ?_ _) | (with_reducible refine Kd.C_drew ?_))); (case side4 => exact HC1_6.out); rintro e w' ⟨rfl, ⟨nd, rfl⟩⟩))
              go_ret
              exact ⟨by first | rfl | (simp [errW_none, errW_some] <;> rfl) | (simp [*, errW_none, errW_some] <;> rfl), by repeat (first | (with_reducible first | exact HB.out | apply below_alloc | apply pw_below_drewN | apply below_drew1 | refine below_set ?_ GE179.out | refine below_set ?_ GE180.out) | exact HB.out)⟩
            · replace c35 := Bool.eq_false_iff.mpr c35
              subst c35
              have H1 : (some false) = some r := by rw [if_neg (show ¬ (false = true) by decide)] at H; exact H
              clear H
              have H := H1
              clear H1
              obtain rfl := Option.some.inj H
              have hnb40 := NB179_180.out
              have hnc40 := NB180_179.out
              have hcz41_0 : wc.cell? ⟨gb179, 0, none⟩ = some (.int .i64 a0_0) := (blk_cell BK179.out 0).trans rfl
              have hcz41_1 : wc.cell? ⟨gb179, 1, none⟩ = some (.slice A0_1 l0_1.length c0_1) := (blk_cell BK179.out 1).trans rfl
              have hcz41_2 : wc.cell? ⟨gb179, 2, none⟩ = some (.int .i64 a0_2) := (blk_cell BK179.out 2).trans rfl
              have hcz41_3 : wc.cell? ⟨gb179, 3, none⟩ = some (.int .i64 a0_3) := (blk_cell BK179.out 3).trans rfl
              have hcz41_4 : wc.cell? ⟨gb179, 4, none⟩ = some (.slice A0_4 l0_4.length c0_4) := (blk_cell BK179.out 4).trans rfl
              have hcz41_5 : wc.cell? ⟨gb179, 5, none⟩ = some (.slice A0_5 l0_5.length c0_5) := (blk_cell BK179.out 5).trans rfl
              have hcz41_6 : wc.cell? ⟨gb179, 6, none⟩ = some (.slice A0_6 l0_6.length c0_6) := (blk_cell BK179.out 6).trans rfl
              have hcz41_7 : wc.cell? ⟨gb179, 7, none⟩ = some (.int .i64 a0_7) := (blk_cell BK179.out 7).trans rfl
              have hcz41_8 : wc.cell? ⟨gb179, 8, none⟩ = some (.int .i64 a0_8) := (blk_cell BK179.out 8).trans rfl
              have hcz41_9 : wc.cell? ⟨gb179, 9, none⟩ = some (.bool a0_9) := (blk_cell BK179.out 9).trans rfl
              have hfz41_0 := blk_frozen BK179.out 0
              have hfz41_1 := blk_frozen BK179.out 1
              have hfz41_2 := blk_frozen BK179.out 2
              have hfz41_3 := blk_frozen BK179.out 3
              have hfz41_4 := blk_frozen BK179.out 4
              have hfz41_5 := blk_frozen BK179.out 5
              have hfz41_6 := blk_frozen BK179.out 6
              have hfz41_7 := blk_frozen BK179.out 7
              have hfz41_8 := blk_frozen BK179.out 8
              have hfz41_9 := blk_frozen BK179.out 9
              have hcz42_0 : wc.cell? ⟨gb180, 0, none⟩ = some (.int .i64 a1_0) := (blk_cell BK180.out 0).trans rfl
              have hcz42_1 : wc.cell? ⟨gb180, 1, none⟩ = some (.slice A1_1 l1_1.length c1_1) := (blk_cell BK180.out 1).trans rfl
              have hcz42_2 : wc.cell? ⟨gb180, 2, none⟩ = some (.int .i64 a1_2) := (blk_cell BK180.out 2).trans rfl
              have hcz42_3 : wc.cell? ⟨gb180, 3, none⟩ = some (.int .i64 a1_3) := (blk_cell BK180.out 3).trans rfl
              have hcz42_4 : wc.cell? ⟨gb180, 4, none⟩ = some (.slice A1_4 l1_4.length c1_4) := (blk_cell BK180.out 4).trans rfl
              have hcz42_5 : wc.cell? ⟨gb180, 5, none⟩ = some (.slice A1_5 l1_5.length c1_5) := (blk_cell BK180.out 5).trans rfl
              have hcz42_6 : wc.cell? ⟨gb180, 6, none⟩ = some (.slice A1_6 l1_6.length c1_6) := (blk_cell BK180.out 6).trans rfl
              have hcz42_7 : wc.cell? ⟨gb180, 7, none⟩ = some (.int .i64 a1_7) := (blk_cell BK180.out 7).trans rfl
              have hcz42_8 : wc.cell? ⟨gb180, 8, none⟩ = some (.int .i64 a1_8) := (blk_cell BK180.out 8).trans rfl
              have hcz42_9 : wc.cell? ⟨gb180, 9, none⟩ = some (.bool a1_9) := (blk_cell BK180.out 9).trans rfl
              have hfz42_0 := blk_frozen BK180.out 0
              have hfz42_1 := blk_frozen BK180.out 1
              have hfz42_2 := blk_frozen BK180.out 2
              have hfz42_3 := blk_frozen BK180.out 3
              have hfz42_4 := blk_frozen BK180.out 4
              have hfz42_5 := blk_frozen BK180.out 5
              have hfz42_6 := blk_frozen BK180.out 6
              have hfz42_7 := blk_frozen BK180.out 7
              have hfz42_8 := blk_frozen BK180.out 8
              have hfz42_9 := blk_frozen BK180.out 9
              go_wp2_with (first | ((with_reducible refine gate_callee (f := 30) rfl ?_); refine goesL_ (some 49) rfl rfl Tryd.func30 (by kernel_rfl) rfl #[.slice A0_1 l0_1.length c0_1, .slice A1_1 l1_1.length c1_1] rfl (by (try simp only [List.map_toArray, List.map_cons, List.map_nil]); first | done | rfl | (simp only [List.length_drop, List.length_take]; rfl)) ?_; (with_reducible refine (underwoodref08_ints.calls kj2 _ _ l0_1 _ _ l1_1 true _ ?side1 ?side2 ?side3 ?side4 A30.out).mono ?_); (case side1 => repeat (first | exact (Kd.C_below HR0_1.out HB.out) | (with_reducible refine Kd.C_alloc ?_ _) | (with_reducible refine Kd.C_drewN ?_ _) | (with_reducible refine Kd.C_drew ?_))); (case side2 => exact HC0_1.out); (case side3 => repeat (first | exact (Kd.C_below HR1_1.out HB.out) | (with_reducible refine Kd.C_alloc ?_ _) | (with_reducible refine Kd.C_drewN ?_ _) | (with_reducible refine Kd.C_drew ?_))); (case side4 => exact HC1_1.out); rintro e w' ⟨rfl, ⟨nd, rfl⟩⟩; refine ⟨_, rfl, ?_⟩) | (go_at_call 30; (with_reducible refine (underwoodref08_ints.calls kj2 _ _ l0_4 _ _ l1_4 true _ ?side1 ?side2 ?side3 ?side4 A32.out).mono ?_); (case side1 => repeat (first | exact (Kd.C_below HR0_4.out (by repeat (first | (with_reducible first | exact HB.out | apply below_alloc | apply pw_below_drewN | apply below_drew1 | refine below_set ?_ GE179.out | refine below_set ?_ GE180.out) | exact HB.out))) | (with_reducible refine Kd.C_alloc ?_ _) | (with_reducible refine Kd.C_drewN ?_ _) | (with_reducible refine Kd.C_drew ?_))); (case side2 => exact HC0_4.out); (case side3 => repeat (first | exact (Kd.C_below HR1_4.out (by repeat (first | (with_reducible first | exact HB.out | apply below_alloc | apply pw_below_drewN | apply below_drew1 | refine below_set ?_ GE179.out | refine below_set ?_ GE180.out) | exact HB.out))) | (with_reducible refine Kd.C_alloc ?_ _) | (with_reducible refine Kd.C_drewN ?_ _) | (with_reducible refine Kd.C_drew ?_))); (case side4 => exact HC1_4.out); rintro e w' ⟨rfl, ⟨nd, rfl⟩⟩) | (go_at_call 30; (with_reducible refine (underwoodref08_ints.calls kj2 _ _ l0_5 _ _ l1_5 false _ ?side1 ?side2 ?side3 ?side4 A34.out).mono ?_); (case side1 => repeat (first | exact (Kd.C_below HR0_5.out (by repeat (first | (with_reducible first | exact HB.out | apply below_alloc | apply pw_below_drewN | apply below_drew1 | refine below_set ?_ GE179.out | refine below_set ?_ GE180.out) | exact HB.out))) | (with_reducible refine Kd.C_alloc ?_ _) | (with_reducible refine Kd.C_drewN ?_ _) | (with_reducible refine Kd.C_drew ?_))); (case side2 => exact HC0_5.out); (case side3 => repeat (first | exact (Kd.C_below HR1_5.out (by repeat (first | (with_reducible first | exact HB.out | apply below_alloc | apply pw_below_drewN | apply below_drew1 | refine below_set ?_ GE179.out | refine below_set ?_ GE180.out) | exact HB.out))) | (with_reducible refine Kd.C_alloc ?_ _) | (with_reducible refine Kd.C_drewN ?_ _) | (with_reducible refine Kd.C_drew ?_))); (case side4 => exact HC1_5.out); rintro e w' ⟨rfl, ⟨nd, rfl⟩⟩))
              go_ret
              exact ⟨by first | rfl | (simp [errW_none, errW_some] <;> rfl) | (simp [*, errW_none, errW_some] <;> rfl), by repeat (first | (with_reducible first | exact HB.out | apply below_alloc | apply pw_below_drewN | apply below_drew1 | refine below_set ?_ GE179.out | refine below_set ?_ GE180.out) | exact HB.out)⟩
          · replace c33 := Bool.eq_false_iff.mpr c33
            subst c33
            have H1 : (some false) = some r := by rw [if_neg (show ¬ (false = true) by decide)] at H; exact H
            clear H
            have H := H1
            clear H1
            obtain rfl := Option.some.inj H
            have hnb43 := NB179_180.out
            have hnc43 := NB180_179.out
            have hcz44_0 : wc.cell? ⟨gb179, 0, none⟩ = some (.int .i64 a0_0) := (blk_cell BK179.out 0).trans rfl
            have hcz44_1 : wc.cell? ⟨gb179, 1, none⟩ = some (.slice A0_1 l0_1.length c0_1) := (blk_cell BK179.out 1).trans rfl
            have hcz44_2 : wc.cell? ⟨gb179, 2, none⟩ = some (.int .i64 a0_2) := (blk_cell BK179.out 2).trans rfl
            have hcz44_3 : wc.cell? ⟨gb179, 3, none⟩ = some (.int .i64 a0_3) := (blk_cell BK179.out 3).trans rfl
            have hcz44_4 : wc.cell? ⟨gb179, 4, none⟩ = some (.slice A0_4 l0_4.length c0_4) := (blk_cell BK179.out 4).trans rfl
            have hcz44_5 : wc.cell? ⟨gb179, 5, none⟩ = some (.slice A0_5 l0_5.length c0_5) := (blk_cell BK179.out 5).trans rfl
            have hcz44_6 : wc.cell? ⟨gb179, 6, none⟩ = some (.slice A0_6 l0_6.length c0_6) := (blk_cell BK179.out 6).trans rfl
            have hcz44_7 : wc.cell? ⟨gb179, 7, none⟩ = some (.int .i64 a0_7) := (blk_cell BK179.out 7).trans rfl
            have hcz44_8 : wc.cell? ⟨gb179, 8, none⟩ = some (.int .i64 a0_8) := (blk_cell BK179.out 8).trans rfl
            have hcz44_9 : wc.cell? ⟨gb179, 9, none⟩ = some (.bool a0_9) := (blk_cell BK179.out 9).trans rfl
            have hfz44_0 := blk_frozen BK179.out 0
            have hfz44_1 := blk_frozen BK179.out 1
            have hfz44_2 := blk_frozen BK179.out 2
            have hfz44_3 := blk_frozen BK179.out 3
            have hfz44_4 := blk_frozen BK179.out 4
            have hfz44_5 := blk_frozen BK179.out 5
            have hfz44_6 := blk_frozen BK179.out 6
            have hfz44_7 := blk_frozen BK179.out 7
            have hfz44_8 := blk_frozen BK179.out 8
            have hfz44_9 := blk_frozen BK179.out 9
            have hcz45_0 : wc.cell? ⟨gb180, 0, none⟩ = some (.int .i64 a1_0) := (blk_cell BK180.out 0).trans rfl
            have hcz45_1 : wc.cell? ⟨gb180, 1, none⟩ = some (.slice A1_1 l1_1.length c1_1) := (blk_cell BK180.out 1).trans rfl
            have hcz45_2 : wc.cell? ⟨gb180, 2, none⟩ = some (.int .i64 a1_2) := (blk_cell BK180.out 2).trans rfl
            have hcz45_3 : wc.cell? ⟨gb180, 3, none⟩ = some (.int .i64 a1_3) := (blk_cell BK180.out 3).trans rfl
            have hcz45_4 : wc.cell? ⟨gb180, 4, none⟩ = some (.slice A1_4 l1_4.length c1_4) := (blk_cell BK180.out 4).trans rfl
            have hcz45_5 : wc.cell? ⟨gb180, 5, none⟩ = some (.slice A1_5 l1_5.length c1_5) := (blk_cell BK180.out 5).trans rfl
            have hcz45_6 : wc.cell? ⟨gb180, 6, none⟩ = some (.slice A1_6 l1_6.length c1_6) := (blk_cell BK180.out 6).trans rfl
            have hcz45_7 : wc.cell? ⟨gb180, 7, none⟩ = some (.int .i64 a1_7) := (blk_cell BK180.out 7).trans rfl
            have hcz45_8 : wc.cell? ⟨gb180, 8, none⟩ = some (.int .i64 a1_8) := (blk_cell BK180.out 8).trans rfl
            have hcz45_9 : wc.cell? ⟨gb180, 9, none⟩ = some (.bool a1_9) := (blk_cell BK180.out 9).trans rfl
            have hfz45_0 := blk_frozen BK180.out 0
            have hfz45_1 := blk_frozen BK180.out 1
            have hfz45_2 := blk_frozen BK180.out 2
            have hfz45_3 := blk_frozen BK180.out 3
            have hfz45_4 := blk_frozen BK180.out 4
            have hfz45_5 := blk_frozen BK180.out 5
            have hfz45_6 := blk_frozen BK180.out 6
            have hfz45_7 := blk_frozen BK180.out 7
            have hfz45_8 := blk_frozen BK180.out 8
            have hfz45_9 := blk_frozen BK180.out 9
            go_wp2_with (first | ((with_reducible refine gate_callee (f := 30) rfl ?_); refine goesL_ (some 49) rfl rfl Tryd.func30 (by kernel_rfl) rfl #[.slice A0_1 l0_1.length c0_1, .slice A1_1 l1_1.length c1_1] rfl (by (try simp only [List.map_toArray, List.map_cons, List.map_nil]); first | done | rfl | (simp only [List.length_drop, List.length_take]; rfl)) ?_; (with_reducible refine (underwoodref08_ints.calls kj2 _ _ l0_1 _ _ l1_1 true _ ?side1 ?side2 ?side3 ?side4 A30.out).mono ?_); (case side1 => repeat (first | exact (Kd.C_below HR0_1.out HB.out) | (with_reducible refine Kd.C_alloc ?_ _) | (with_reducible refine Kd.C_drewN ?_ _) | (with_reducible refine Kd.C_drew ?_))); (case side2 => exact HC0_1.out); (case side3 => repeat (first | exact (Kd.C_below HR1_1.out HB.out) | (with_reducible refine Kd.C_alloc ?_ _) | (with_reducible refine Kd.C_drewN ?_ _) | (with_reducible refine Kd.C_drew ?_))); (case side4 => exact HC1_1.out); rintro e w' ⟨rfl, ⟨nd, rfl⟩⟩; refine ⟨_, rfl, ?_⟩) | (go_at_call 30; (with_reducible refine (underwoodref08_ints.calls kj2 _ _ l0_4 _ _ l1_4 false _ ?side1 ?side2 ?side3 ?side4 A32.out).mono ?_); (case side1 => repeat (first | exact (Kd.C_below HR0_4.out (by repeat (first | (with_reducible first | exact HB.out | apply below_alloc | apply pw_below_drewN | apply below_drew1 | refine below_set ?_ GE179.out | refine below_set ?_ GE180.out) | exact HB.out))) | (with_reducible refine Kd.C_alloc ?_ _) | (with_reducible refine Kd.C_drewN ?_ _) | (with_reducible refine Kd.C_drew ?_))); (case side2 => exact HC0_4.out); (case side3 => repeat (first | exact (Kd.C_below HR1_4.out (by repeat (first | (with_reducible first | exact HB.out | apply below_alloc | apply pw_below_drewN | apply below_drew1 | refine below_set ?_ GE179.out | refine below_set ?_ GE180.out) | exact HB.out))) | (with_reducible refine Kd.C_alloc ?_ _) | (with_reducible refine Kd.C_drewN ?_ _) | (with_reducible refine Kd.C_drew ?_))); (case side4 => exact HC1_4.out); rintro e w' ⟨rfl, ⟨nd, rfl⟩⟩))
            go_ret
            exact ⟨by first | rfl | (simp [errW_none, errW_some] <;> rfl) | (simp [*, errW_none, errW_some] <;> rfl), by repeat (first | (with_reducible first | exact HB.out | apply below_alloc | apply pw_below_drewN | apply below_drew1 | refine below_set ?_ GE179.out | refine below_set ?_ GE180.out) | exact HB.out)⟩
        · replace c31 := Bool.eq_false_iff.mpr c31
          subst c31
          have H1 : (some false) = some r := by rw [if_neg (show ¬ (false = true) by decide)] at H; exact H
          clear H
          have H := H1
          clear H1
          obtain rfl := Option.some.inj H
          have hnb46 := NB179_180.out
          have hnc46 := NB180_179.out
          have hcz47_0 : wc.cell? ⟨gb179, 0, none⟩ = some (.int .i64 a0_0) := (blk_cell BK179.out 0).trans rfl
          have hcz47_1 : wc.cell? ⟨gb179, 1, none⟩ = some (.slice A0_1 l0_1.length c0_1) := (blk_cell BK179.out 1).trans rfl
          have hcz47_2 : wc.cell? ⟨gb179, 2, none⟩ = some (.int .i64 a0_2) := (blk_cell BK179.out 2).trans rfl
          have hcz47_3 : wc.cell? ⟨gb179, 3, none⟩ = some (.int .i64 a0_3) := (blk_cell BK179.out 3).trans rfl
          have hcz47_4 : wc.cell? ⟨gb179, 4, none⟩ = some (.slice A0_4 l0_4.length c0_4) := (blk_cell BK179.out 4).trans rfl
          have hcz47_5 : wc.cell? ⟨gb179, 5, none⟩ = some (.slice A0_5 l0_5.length c0_5) := (blk_cell BK179.out 5).trans rfl
          have hcz47_6 : wc.cell? ⟨gb179, 6, none⟩ = some (.slice A0_6 l0_6.length c0_6) := (blk_cell BK179.out 6).trans rfl
          have hcz47_7 : wc.cell? ⟨gb179, 7, none⟩ = some (.int .i64 a0_7) := (blk_cell BK179.out 7).trans rfl
          have hcz47_8 : wc.cell? ⟨gb179, 8, none⟩ = some (.int .i64 a0_8) := (blk_cell BK179.out 8).trans rfl
          have hcz47_9 : wc.cell? ⟨gb179, 9, none⟩ = some (.bool a0_9) := (blk_cell BK179.out 9).trans rfl
          have hfz47_0 := blk_frozen BK179.out 0
          have hfz47_1 := blk_frozen BK179.out 1
          have hfz47_2 := blk_frozen BK179.out 2
          have hfz47_3 := blk_frozen BK179.out 3
          have hfz47_4 := blk_frozen BK179.out 4
          have hfz47_5 := blk_frozen BK179.out 5
          have hfz47_6 := blk_frozen BK179.out 6
          have hfz47_7 := blk_frozen BK179.out 7
          have hfz47_8 := blk_frozen BK179.out 8
          have hfz47_9 := blk_frozen BK179.out 9
          have hcz48_0 : wc.cell? ⟨gb180, 0, none⟩ = some (.int .i64 a1_0) := (blk_cell BK180.out 0).trans rfl
          have hcz48_1 : wc.cell? ⟨gb180, 1, none⟩ = some (.slice A1_1 l1_1.length c1_1) := (blk_cell BK180.out 1).trans rfl
          have hcz48_2 : wc.cell? ⟨gb180, 2, none⟩ = some (.int .i64 a1_2) := (blk_cell BK180.out 2).trans rfl
          have hcz48_3 : wc.cell? ⟨gb180, 3, none⟩ = some (.int .i64 a1_3) := (blk_cell BK180.out 3).trans rfl
          have hcz48_4 : wc.cell? ⟨gb180, 4, none⟩ = some (.slice A1_4 l1_4.length c1_4) := (blk_cell BK180.out 4).trans rfl
          have hcz48_5 : wc.cell? ⟨gb180, 5, none⟩ = some (.slice A1_5 l1_5.length c1_5) := (blk_cell BK180.out 5).trans rfl
          have hcz48_6 : wc.cell? ⟨gb180, 6, none⟩ = some (.slice A1_6 l1_6.length c1_6) := (blk_cell BK180.out 6).trans rfl
          have hcz48_7 : wc.cell? ⟨gb180, 7, none⟩ = some (.int .i64 a1_7) := (blk_cell BK180.out 7).trans rfl
          have hcz48_8 : wc.cell? ⟨gb180, 8, none⟩ = some (.int .i64 a1_8) := (blk_cell BK180.out 8).trans rfl
          have hcz48_9 : wc.cell? ⟨gb180, 9, none⟩ = some (.bool a1_9) := (blk_cell BK180.out 9).trans rfl
          have hfz48_0 := blk_frozen BK180.out 0
          have hfz48_1 := blk_frozen BK180.out 1
          have hfz48_2 := blk_frozen BK180.out 2
          have hfz48_3 := blk_frozen BK180.out 3
          have hfz48_4 := blk_frozen BK180.out 4
          have hfz48_5 := blk_frozen BK180.out 5
          have hfz48_6 := blk_frozen BK180.out 6
          have hfz48_7 := blk_frozen BK180.out 7
          have hfz48_8 := blk_frozen BK180.out 8
          have hfz48_9 := blk_frozen BK180.out 9
          go_wp2_with (first | ((with_reducible refine gate_callee (f := 30) rfl ?_); refine goesL_ (some 49) rfl rfl Tryd.func30 (by kernel_rfl) rfl #[.slice A0_1 l0_1.length c0_1, .slice A1_1 l1_1.length c1_1] rfl (by (try simp only [List.map_toArray, List.map_cons, List.map_nil]); first | done | rfl | (simp only [List.length_drop, List.length_take]; rfl)) ?_; (with_reducible refine (underwoodref08_ints.calls kj2 _ _ l0_1 _ _ l1_1 false _ ?side1 ?side2 ?side3 ?side4 A30.out).mono ?_); (case side1 => repeat (first | exact (Kd.C_below HR0_1.out HB.out) | (with_reducible refine Kd.C_alloc ?_ _) | (with_reducible refine Kd.C_drewN ?_ _) | (with_reducible refine Kd.C_drew ?_))); (case side2 => exact HC0_1.out); (case side3 => repeat (first | exact (Kd.C_below HR1_1.out HB.out) | (with_reducible refine Kd.C_alloc ?_ _) | (with_reducible refine Kd.C_drewN ?_ _) | (with_reducible refine Kd.C_drew ?_))); (case side4 => exact HC1_1.out); rintro e w' ⟨rfl, ⟨nd, rfl⟩⟩; refine ⟨_, rfl, ?_⟩))
          go_ret
          exact ⟨by first | rfl | (simp [errW_none, errW_some] <;> rfl) | (simp [*, errW_none, errW_some] <;> rfl), by repeat (first | (with_reducible first | exact HB.out | apply below_alloc | apply pw_below_drewN | apply below_drew1 | refine below_set ?_ GE179.out | refine below_set ?_ GE180.out) | exact HB.out)⟩

end Go.Proofs.YtfcgjadfhojogaaDoor.PVmStarts
