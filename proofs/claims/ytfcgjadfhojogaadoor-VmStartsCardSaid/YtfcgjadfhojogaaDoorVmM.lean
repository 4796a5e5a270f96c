/- The instruction that asks for a task. -/
import Derived.Test.YtfcgjadfhojogaaDoorVmG
namespace Go.Proofs.YtfcgjadfhojogaaDoor.Vm
open Go.RowKit Go.Proofs.YtfcgjadfhojogaaDoorW.PrintWords Go.Proofs.YtfcgjadfhojogaaDoorW.PrintLast Go.Proofs.YtfcgjadfhojogaaDoorW.PrintMore Go.Proofs.YtfcgjadfhojogaaDoor.PVmStarts
set_option linter.unusedVariables false
set_option linter.unusedSimpArgs false

set_option maxHeartbeats 2000000 in
theorem pass_exact {w0 w : World} {b : Nat} {C : Cd} {B : S65} {F : Fr} {p : Pt} {vl vs : Value} (h : RunAt w0 w b C B F p vl vs) (h1 : 0 ≤ F.pc) (h2 : F.pc < 9223372036854775807) (h3 : 0 ≤ F.spent) (h4 : F.spent < 9223372036854775807) :
    Calls Tryd.prog 64 #[.pointer (some ⟨b, 0, none⟩)] w fun e w' => e = .returned (.tuple #[]) ∧ w' = (w.setCell ⟨b, 12, none⟩ (.int .i64 (F.pc + 1))).setCell ⟨b, 17, none⟩ (.int .i64 (F.spent + 1)) := by
  have q := blk_cells h.blk
  have qf := blk_frozen h.blk
  unfold cellsOf at q
  clear h
  go_enter Tryd.func64, Tryd.ntmps64
  go_wp2
  go_end0
  exact ⟨rfl, rfl⟩
theorem pass_run {w0 w : World} {b : Nat} {C : Cd} {B : S65} {F : Fr} {p : Pt} {vl vs : Value} (h : RunAt w0 w b C B F p vl vs) :
    RunAt w0 ((w.setCell ⟨b, 12, none⟩ (.int .i64 (F.pc + 1))).setCell ⟨b, 17, none⟩ (.int .i64 (F.spent + 1))) b C B (passF F) p vl vs :=
  (h.setF 12 (.int .i64 (F.pc + 1)) { F with pc := F.pc + 1 } rfl rfl rfl).setF 17 (.int .i64 (F.spent + 1)) (passF F) rfl rfl rfl

set_option maxHeartbeats 40000000 in
set_option maxRecDepth 100000 in
theorem ins_spawn {w0 w : World} {b : Nat} {C : Cd} {B : S65} {F : Fr} {p : Pt} {vl vs : Value} (h : RunAt w0 w b C B F p vl vs) (ok : OkF F) (i : S53) (hf : k65.C w0 p.Af C.funs.length C.funs) :
    Calls Tryd.prog 89 #[.pointer (some ⟨b, 0, none⟩), .agg #[.int .i64 i.f0, .int .i64 i.f1, .int .i64 i.f2, .int .i64 i.f3]] w (Outcome w0 w b C B p vl (iSpawn C i F)) := by
  unfold iSpawn
  by_cases g0' : ¬ (0 ≤ i.f1)
  · rw [if_neg (fun hh => g0' (by obtain ⟨a0, a1, a2, a3, a4, a5⟩ := hh; assumption))]
    have g0 := g0'
    have c0 : decide (0 ≤ i.f1) = false := decide_eq_false g0
    clear g0 g0' hf
    go_enter Tryd.func89, Tryd.ntmps89
    go_upto_region 1 with (fail)
    refine nameW ?_
    intro w1 hw1
    obtain ⟨b0, hb, hsz⟩ := one_box hw1
    clear hw1
    have h1 := h.mono hb
    have K1 := Aside0.mk (Keeps.of_below hb)
    have H1 := Aside0.mk h1
    obtain ⟨A, c, rfl, hcL, hrL⟩ := Kd.R_reads h1.loc
    have q := blk_cells h1.blk
    have q0 := blk_cells b0
    unfold cellsOf at q
    have h2 := h1.drew
    have K2 := Aside0.mk (K1.out.trans (Keeps.of_below (below_drew (Below.refl _ _))))
    have B2 := Aside0.mk (blk_drew b0)
    clear H1 h h1 b0 hb hsz hcL hrL
    have hmf := must_false 1 w1.drew
    have HB := Aside0.mk h2.below
    clear h2
    refine still_tail 30 (by kernel_rfl) (by kernel_rfl) ?_
    intro S hS hS0
    simp only [List.take_succ_cons, List.take_zero, List.drop_succ_cons, List.drop_zero] at hS0 ⊢
    repeat (refine hS _ _ _ (fun K hK => ?_); go_simp; refine hK _ ?_; clear hK K)
    refine hS0 _ ?_
    clear hS hS0 S
    go_wp2_with fail
    refine hmf.mono ?_
    rintro e w2 ⟨rfl, rfl⟩
    exact ⟨rfl, rfl, K2.out, HB.out⟩
  have g0 := Decidable.not_not.1 g0'
  clear g0'
  by_cases g1' : ¬ (i.f1 < (C.funs.length : Int))
  · rw [if_neg (fun hh => g1' (by obtain ⟨a0, a1, a2, a3, a4, a5⟩ := hh; assumption))]
    have g1 := g1'
    have c0 : decide (0 ≤ i.f1) = true := decide_eq_true g0
    have c1 : decide (i.f1 < (C.funs.length : Int)) = false := decide_eq_false g1
    clear g0 g1 g1' hf
    go_enter Tryd.func89, Tryd.ntmps89
    go_upto_region 1 with (fail)
    refine nameW ?_
    intro w1 hw1
    obtain ⟨b0, hb, hsz⟩ := one_box hw1
    clear hw1
    have h1 := h.mono hb
    have K1 := Aside0.mk (Keeps.of_below hb)
    have H1 := Aside0.mk h1
    obtain ⟨A, c, rfl, hcL, hrL⟩ := Kd.R_reads h1.loc
    have q := blk_cells h1.blk
    have q0 := blk_cells b0
    unfold cellsOf at q
    have h2 := h1.drew
    have K2 := Aside0.mk (K1.out.trans (Keeps.of_below (below_drew (Below.refl _ _))))
    have B2 := Aside0.mk (blk_drew b0)
    clear H1 h h1 b0 hb hsz hcL hrL
    have hmf := must_false 1 w1.drew
    have HB := Aside0.mk h2.below
    clear h2
    refine still_tail 30 (by kernel_rfl) (by kernel_rfl) ?_
    intro S hS hS0
    simp only [List.take_succ_cons, List.take_zero, List.drop_succ_cons, List.drop_zero] at hS0 ⊢
    repeat (refine hS _ _ _ (fun K hK => ?_); go_simp; refine hK _ ?_; clear hK K)
    refine hS0 _ ?_
    clear hS hS0 S
    go_wp2_with fail
    refine hmf.mono ?_
    rintro e w2 ⟨rfl, rfl⟩
    exact ⟨rfl, rfl, K2.out, HB.out⟩
  have g1 := Decidable.not_not.1 g1'
  clear g1'
  by_cases g2' : ¬ (-1 ≤ i.f3)
  · rw [if_neg (fun hh => g2' (by obtain ⟨a0, a1, a2, a3, a4, a5⟩ := hh; assumption))]
    have g2 := g2'
    have c0 : decide (0 ≤ i.f1) = true := decide_eq_true g0
    have c1 : decide (i.f1 < (C.funs.length : Int)) = true := decide_eq_true g1
    have c2 : decide (-1 ≤ i.f3) = false := decide_eq_false g2
    clear g0 g1 g2 g2' hf
    go_enter Tryd.func89, Tryd.ntmps89
    go_upto_region 1 with (fail)
    refine nameW ?_
    intro w1 hw1
    obtain ⟨b0, hb, hsz⟩ := one_box hw1
    clear hw1
    have h1 := h.mono hb
    have K1 := Aside0.mk (Keeps.of_below hb)
    have H1 := Aside0.mk h1
    obtain ⟨A, c, rfl, hcL, hrL⟩ := Kd.R_reads h1.loc
    have q := blk_cells h1.blk
    have q0 := blk_cells b0
    unfold cellsOf at q
    have h2 := h1.drew
    have K2 := Aside0.mk (K1.out.trans (Keeps.of_below (below_drew (Below.refl _ _))))
    have B2 := Aside0.mk (blk_drew b0)
    clear H1 h h1 b0 hb hsz hcL hrL
    have hmf := must_false 1 w1.drew
    have HB := Aside0.mk h2.below
    clear h2
    refine still_tail 30 (by kernel_rfl) (by kernel_rfl) ?_
    intro S hS hS0
    simp only [List.take_succ_cons, List.take_zero, List.drop_succ_cons, List.drop_zero] at hS0 ⊢
    repeat (refine hS _ _ _ (fun K hK => ?_); go_simp; refine hK _ ?_; clear hK K)
    refine hS0 _ ?_
    clear hS hS0 S
    go_wp2_with fail
    refine hmf.mono ?_
    rintro e w2 ⟨rfl, rfl⟩
    exact ⟨rfl, rfl, K2.out, HB.out⟩
  have g2 := Decidable.not_not.1 g2'
  clear g2'
  by_cases g3' : ¬ (i.f3 < (F.loc.length : Int))
  · rw [if_neg (fun hh => g3' (by obtain ⟨a0, a1, a2, a3, a4, a5⟩ := hh; assumption))]
    have g3 := g3'
    have c0 : decide (0 ≤ i.f1) = true := decide_eq_true g0
    have c1 : decide (i.f1 < (C.funs.length : Int)) = true := decide_eq_true g1
    have c2 : decide (-1 ≤ i.f3) = true := decide_eq_true g2
    have c3 : decide (i.f3 < (F.loc.length : Int)) = false := decide_eq_false g3
    clear g0 g1 g2 g3 g3' hf
    go_enter Tryd.func89, Tryd.ntmps89
    go_upto_region 1 with (fail)
    refine nameW ?_
    intro w1 hw1
    obtain ⟨b0, hb, hsz⟩ := one_box hw1
    clear hw1
    have h1 := h.mono hb
    have K1 := Aside0.mk (Keeps.of_below hb)
    have H1 := Aside0.mk h1
    obtain ⟨A, c, rfl, hcL, hrL⟩ := Kd.R_reads h1.loc
    have q := blk_cells h1.blk
    have q0 := blk_cells b0
    unfold cellsOf at q
    have h2 := h1.drew
    have K2 := Aside0.mk (K1.out.trans (Keeps.of_below (below_drew (Below.refl _ _))))
    have B2 := Aside0.mk (blk_drew b0)
    clear H1 h h1 b0 hb hsz hcL hrL
    have hmf := must_false 1 w1.drew
    have HB := Aside0.mk h2.below
    clear h2
    refine still_tail 30 (by kernel_rfl) (by kernel_rfl) ?_
    intro S hS hS0
    simp only [List.take_succ_cons, List.take_zero, List.drop_succ_cons, List.drop_zero] at hS0 ⊢
    repeat (refine hS _ _ _ (fun K hK => ?_); go_simp; refine hK _ ?_; clear hK K)
    refine hS0 _ ?_
    clear hS hS0 S
    go_wp2_with fail
    refine hmf.mono ?_
    rintro e w2 ⟨rfl, rfl⟩
    exact ⟨rfl, rfl, K2.out, HB.out⟩
  have g3 := Decidable.not_not.1 g3'
  clear g3'
  by_cases g4' : ¬ (i.f2 = (rd_T65 C.funs i.f1).f0)
  · rw [if_neg (fun hh => g4' (by obtain ⟨a0, a1, a2, a3, a4, a5⟩ := hh; assumption))]
    have c4e : (i.f2 == (rd_T65 C.funs i.f1).f0) = false := beq_eq_false_iff_ne.2 g4'
    clear g4'
    have c0 : decide (0 ≤ i.f1) = true := decide_eq_true g0
    have c1 : decide (i.f1 < (C.funs.length : Int)) = true := decide_eq_true g1
    have c2 : decide (-1 ≤ i.f3) = true := decide_eq_true g2
    have c3 : decide (i.f3 < (F.loc.length : Int)) = true := decide_eq_true g3
    go_enter Tryd.func89, Tryd.ntmps89
    go_upto_region 1 with (fail)
    refine nameW ?_
    intro w1 hw1
    obtain ⟨b0, hb, hsz⟩ := one_box hw1
    clear hw1
    have h1 := h.mono hb
    have K1 := Aside0.mk (Keeps.of_below hb)
    have H1 := Aside0.mk h1
    obtain ⟨A, c, rfl, hcL, hrL⟩ := Kd.R_reads h1.loc
    have q := blk_cells h1.blk
    have q0 := blk_cells b0
    unfold cellsOf at q
    have h2 := h1.drew
    have K2 := Aside0.mk (K1.out.trans (Keeps.of_below (below_drew (Below.refl _ _))))
    have B2 := Aside0.mk (blk_drew b0)
    clear H1 h h1 b0 hb hsz hcL hrL
    have hmt := must_true 1 w1.drew
    have hbd := Kd.C_below hf h2.below
    refine still_tail 30 (by kernel_rfl) (by kernel_rfl) ?_
    intro S hS hS0
    simp only [List.take_succ_cons, List.take_zero, List.drop_succ_cons, List.drop_zero] at hS0 ⊢
    repeat (refine hS _ _ _ (fun K hK => ?_); go_simp; refine hK _ ?_; clear hK K)
    refine hS0 _ ?_
    clear hS hS0 S
    clear q q0
    go_upto_region 2 with ((with_reducible refine hmt.mono ?_); rintro e w' ⟨rfl, rfl⟩)
    clear hmt
    generalize hw2 : w1.drew = w2 at *
    clear hw2
    obtain ⟨ad, A2, c4, hAf, r0, r1, r2, r3, r4⟩ := at_T65 hbd i.f1 g0 g1
    have q := blk_cells h2.blk
    have q0 := blk_cells B2.out
    unfold cellsOf at q
    rw [hAf] at q
    have h3 := h2.drew
    have K3 := Aside0.mk (K2.out.trans (Keeps.of_below (below_drew (Below.refl _ _))))
    have B3 := Aside0.mk (blk_drew B2.out)
    clear r1 r2 r3 r4 hbd c0 c1 c2 c3 h2
    have hmf := must_false 1 w2.drew
    have HB := Aside0.mk h3.below
    clear h3 g2 g3
    refine still_tail 13 (by kernel_rfl) (by kernel_rfl) ?_
    intro S hS hS0
    simp only [List.take_succ_cons, List.take_zero, List.drop_succ_cons, List.drop_zero] at hS0 ⊢
    repeat (refine hS _ _ _ (fun K hK => ?_); go_simp; refine hK _ ?_; clear hK K)
    refine hS0 _ ?_
    clear hS hS0 S
    go_wp2_with fail
    refine hmf.mono ?_
    rintro e w3 ⟨rfl, rfl⟩
    exact ⟨rfl, rfl, K3.out, HB.out⟩
  have g4 := Decidable.not_not.1 g4'
  clear g4'
  have c4e : (i.f2 == (rd_T65 C.funs i.f1).f0) = true := beq_iff_eq.2 g4
  by_cases g5' : ¬ (0 ≤ i.f2)
  · rw [if_neg (fun hh => g5' (by obtain ⟨a0, a1, a2, a3, a4, a5⟩ := hh; assumption))]
    clear g4
    have c0 : decide (0 ≤ i.f1) = true := decide_eq_true g0
    have c1 : decide (i.f1 < (C.funs.length : Int)) = true := decide_eq_true g1
    have c2 : decide (-1 ≤ i.f3) = true := decide_eq_true g2
    have c3 : decide (i.f3 < (F.loc.length : Int)) = true := decide_eq_true g3
    go_enter Tryd.func89, Tryd.ntmps89
    go_upto_region 1 with (fail)
    refine nameW ?_
    intro w1 hw1
    obtain ⟨b0, hb, hsz⟩ := one_box hw1
    clear hw1
    have h1 := h.mono hb
    have K1 := Aside0.mk (Keeps.of_below hb)
    have H1 := Aside0.mk h1
    obtain ⟨A, c, rfl, hcL, hrL⟩ := Kd.R_reads h1.loc
    have q := blk_cells h1.blk
    have q0 := blk_cells b0
    unfold cellsOf at q
    have h2 := h1.drew
    have K2 := Aside0.mk (K1.out.trans (Keeps.of_below (below_drew (Below.refl _ _))))
    have B2 := Aside0.mk (blk_drew b0)
    clear H1 h h1 b0 hb hsz hcL hrL
    have hmt := must_true 1 w1.drew
    have hbd := Kd.C_below hf h2.below
    refine still_tail 30 (by kernel_rfl) (by kernel_rfl) ?_
    intro S hS hS0
    simp only [List.take_succ_cons, List.take_zero, List.drop_succ_cons, List.drop_zero] at hS0 ⊢
    repeat (refine hS _ _ _ (fun K hK => ?_); go_simp; refine hK _ ?_; clear hK K)
    refine hS0 _ ?_
    clear hS hS0 S
    clear q q0
    go_upto_region 2 with ((with_reducible refine hmt.mono ?_); rintro e w' ⟨rfl, rfl⟩)
    clear hmt
    generalize hw2 : w1.drew = w2 at *
    clear hw2
    obtain ⟨ad, A2, c4, hAf, r0, r1, r2, r3, r4⟩ := at_T65 hbd i.f1 g0 g1
    have q := blk_cells h2.blk
    have q0 := blk_cells B2.out
    unfold cellsOf at q
    rw [hAf] at q
    have h3 := h2.drew
    have K3 := Aside0.mk (K2.out.trans (Keeps.of_below (below_drew (Below.refl _ _))))
    have B3 := Aside0.mk (blk_drew B2.out)
    clear r1 r2 r3 r4 hbd c0 c1 c2 c3 h2
    have hmt := must_true 1 w2.drew
    have hpo := pops_none h3 i.f2 (by omega)
    clear h3 g2 g3 g5'
    refine still_tail 13 (by kernel_rfl) (by kernel_rfl) ?_
    intro S hS hS0
    simp only [List.take_succ_cons, List.take_zero, List.drop_succ_cons, List.drop_zero] at hS0 ⊢
    repeat (refine hS _ _ _ (fun K hK => ?_); go_simp; refine hK _ ?_; clear hK K)
    refine hS0 _ ?_
    clear hS hS0 S
    clear q q0
    have q0 := blk_cells B3.out
    go_wp2_with ((with_reducible refine hmt.mono ?_); rintro e w' ⟨rfl, rfl⟩)
    refine hpo.mono ?_
    rintro e w3 ⟨rfl, k3, hb3⟩
    exact ⟨rfl, rfl, K3.out.trans k3, hb3⟩
  have g5 := Decidable.not_not.1 g5'
  clear g5'
  rw [if_pos ⟨g0, g1, g2, g3, g4, g5⟩]
  clear g4
  unfold popsF
  by_cases hlen : i.f2.toNat ≤ F.stk.length
  · rw [if_pos hlen]
    have hsplit : F.stk = F.stk.take (F.stk.length - i.f2.toNat) ++ F.stk.drop (F.stk.length - i.f2.toNat) := (List.take_append_drop _ _).symm
    have hll : (F.stk.drop (F.stk.length - i.f2.toNat)).length = i.f2.toNat := by rw [List.length_drop]; omega
    have hdeep := ok.deep
    generalize F.stk.drop (F.stk.length - i.f2.toNat) = l at *
    generalize F.stk.take (F.stk.length - i.f2.toNat) = s at *
    have hlz : (l.length : Int) = i.f2 := by omega
    have hl8 : l.length * 8 ≤ 140737488355328 := by omega
    have HZ := Aside0.mk (And.intro hlz (And.intro hl8 hsplit))
    clear hlz hl8 hsplit hll hlen hdeep
    have c0 : decide (0 ≤ i.f1) = true := decide_eq_true g0
    have c1 : decide (i.f1 < (C.funs.length : Int)) = true := decide_eq_true g1
    have c2 : decide (-1 ≤ i.f3) = true := decide_eq_true g2
    have c3 : decide (i.f3 < (F.loc.length : Int)) = true := decide_eq_true g3
    go_enter Tryd.func89, Tryd.ntmps89
    go_upto_region 1 with (fail)
    refine nameW ?_
    intro w1 hw1
    obtain ⟨b0, hb, hsz⟩ := one_box hw1
    clear hw1
    have h1 := h.mono hb
    have K1 := Aside0.mk (Keeps.of_below hb)
    have H1 := Aside0.mk h1
    obtain ⟨A, c, rfl, hcL, hrL⟩ := Kd.R_reads h1.loc
    have q := blk_cells h1.blk
    have q0 := blk_cells b0
    unfold cellsOf at q
    have h2 := h1.drew
    have K2 := Aside0.mk (K1.out.trans (Keeps.of_below (below_drew (Below.refl _ _))))
    have B2 := Aside0.mk (blk_drew b0)
    clear H1 h h1 b0 hb hsz hcL hrL
    have hmt := must_true 1 w1.drew
    have hbd := Kd.C_below hf h2.below
    refine still_tail 30 (by kernel_rfl) (by kernel_rfl) ?_
    intro S hS hS0
    simp only [List.take_succ_cons, List.take_zero, List.drop_succ_cons, List.drop_zero] at hS0 ⊢
    repeat (refine hS _ _ _ (fun K hK => ?_); go_simp; refine hK _ ?_; clear hK K)
    refine hS0 _ ?_
    clear hS hS0 S
    clear q q0
    go_upto_region 2 with ((with_reducible refine hmt.mono ?_); rintro e w' ⟨rfl, rfl⟩)
    clear hmt
    generalize hw2 : w1.drew = w2 at *
    clear hw2
    obtain ⟨ad, A2, c4, hAf, r0, r1, r2, r3, r4⟩ := at_T65 hbd i.f1 g0 g1
    have q := blk_cells h2.blk
    have q0 := blk_cells B2.out
    unfold cellsOf at q
    rw [hAf] at q
    have h3 := h2.drew
    have K3 := Aside0.mk (K2.out.trans (Keeps.of_below (below_drew (Below.refl _ _))))
    have B3 := Aside0.mk (blk_drew B2.out)
    clear r1 r2 r3 r4 hbd c0 c1 c2 c3 h2
    have hmt := must_true 1 w2.drew
    have hpo := pops_some h3 s l HZ.out.2.2 HZ.out.2.1
    rw [HZ.out.1] at hpo
    clear h3 g2 g3
    refine still_tail 13 (by kernel_rfl) (by kernel_rfl) ?_
    intro S hS hS0
    simp only [List.take_succ_cons, List.take_zero, List.drop_succ_cons, List.drop_zero] at hS0 ⊢
    repeat (refine hS _ _ _ (fun K hK => ?_); go_simp; refine hK _ ?_; clear hK K)
    refine hS0 _ ?_
    clear hS hS0 S
    clear q q0
    have q0 := blk_cells B3.out
    go_wp2_with ((with_reducible refine hmt.mono ?_); rintro e w' ⟨rfl, rfl⟩)
    refine hpo.mono ?_
    rintro e w4 ⟨v, rfl, ho, k4, vs4, h4, hne⟩
    have K4 := Aside0.mk (K3.out.trans k4)
    have B4 := Aside0.mk (k4.blk _ _ _ B3.out (by decide) (by decide))
    obtain ⟨A5, c5, rfl, hc5, _⟩ := Kd.R_reads ho
    have hpa := pass_exact h4 ok.pc0 ok.pc1 ok.sp0 ok.sp1
    have h5 := pass_run h4
    have e1 := h4.setF 12 (.int .i64 (F.pc + 1)) { F with pc := F.pc + 1, stk := s } rfl rfl rfl
    have ho5 := Kd.R_set (Kd.R_set ho h4.blk no_run 12 (.int .i64 (F.pc + 1))) e1.blk no_run 17 (.int .i64 (F.spent + 1))
    have K5 := Aside0.mk (K4.out.trans (((Keeps.refl _).set_ h4.blk (.inl rfl) 12 (.int .i64 (F.pc + 1))).set_ e1.blk (.inl rfl) 17 (.int .i64 (F.spent + 1))))
    have B5 := Aside0.mk (((Keeps.refl _).set_ h4.blk (.inl rfl) 12 (.int .i64 (F.pc + 1))).set_ e1.blk (.inl rfl) 17 (.int .i64 (F.spent + 1)) |>.blk _ _ _ B4.out (by decide) (by decide))
    have hen := end_call h5 { noAk with kind := 4, a := i.f1, b := i.f3, args := l } A5 c5 _ ho5
    generalize (w4.setCell ⟨b, 12, none⟩ (.int .i64 (F.pc + 1))).setCell ⟨b, 17, none⟩ (.int .i64 (F.spent + 1)) = w5 at *
    clear q0 hpo k4 h4 hmt r0 c4e h5 e1 ho5 ho hne hc5
    go_wp2_with fail
    refine hpa.mono ?_
    rintro e w6 ⟨rfl, rfl⟩
    have q5 := blk_cells B5.out
    clear hpa
    go_wp2_with fail
    refine hen.mono ?_
    rintro e w9 hd
    have HD := Aside0.mk (Asked.pre K5.out hd)
    obtain ⟨rfl, _, _⟩ := hd
    clear hen q5
    go_wp2
    first | go_end0 | refine bodyPost_ret (results_none rfl _ _ _) rfl ?_
    exact HD.out
  · rw [if_neg hlen]
    have c0 : decide (0 ≤ i.f1) = true := decide_eq_true g0
    have c1 : decide (i.f1 < (C.funs.length : Int)) = true := decide_eq_true g1
    have c2 : decide (-1 ≤ i.f3) = true := decide_eq_true g2
    have c3 : decide (i.f3 < (F.loc.length : Int)) = true := decide_eq_true g3
    go_enter Tryd.func89, Tryd.ntmps89
    go_upto_region 1 with (fail)
    refine nameW ?_
    intro w1 hw1
    obtain ⟨b0, hb, hsz⟩ := one_box hw1
    clear hw1
    have h1 := h.mono hb
    have K1 := Aside0.mk (Keeps.of_below hb)
    have H1 := Aside0.mk h1
    obtain ⟨A, c, rfl, hcL, hrL⟩ := Kd.R_reads h1.loc
    have q := blk_cells h1.blk
    have q0 := blk_cells b0
    unfold cellsOf at q
    have h2 := h1.drew
    have K2 := Aside0.mk (K1.out.trans (Keeps.of_below (below_drew (Below.refl _ _))))
    have B2 := Aside0.mk (blk_drew b0)
    clear H1 h h1 b0 hb hsz hcL hrL
    have hmt := must_true 1 w1.drew
    have hbd := Kd.C_below hf h2.below
    refine still_tail 30 (by kernel_rfl) (by kernel_rfl) ?_
    intro S hS hS0
    simp only [List.take_succ_cons, List.take_zero, List.drop_succ_cons, List.drop_zero] at hS0 ⊢
    repeat (refine hS _ _ _ (fun K hK => ?_); go_simp; refine hK _ ?_; clear hK K)
    refine hS0 _ ?_
    clear hS hS0 S
    clear q q0
    go_upto_region 2 with ((with_reducible refine hmt.mono ?_); rintro e w' ⟨rfl, rfl⟩)
    clear hmt
    generalize hw2 : w1.drew = w2 at *
    clear hw2
    obtain ⟨ad, A2, c4, hAf, r0, r1, r2, r3, r4⟩ := at_T65 hbd i.f1 g0 g1
    have q := blk_cells h2.blk
    have q0 := blk_cells B2.out
    unfold cellsOf at q
    rw [hAf] at q
    have h3 := h2.drew
    have K3 := Aside0.mk (K2.out.trans (Keeps.of_below (below_drew (Below.refl _ _))))
    have B3 := Aside0.mk (blk_drew B2.out)
    clear r1 r2 r3 r4 hbd c0 c1 c2 c3 h2
    have hmt := must_true 1 w2.drew
    have hpo := pops_none h3 i.f2 (by omega)
    clear h3 g2 g3 hlen
    refine still_tail 13 (by kernel_rfl) (by kernel_rfl) ?_
    intro S hS hS0
    simp only [List.take_succ_cons, List.take_zero, List.drop_succ_cons, List.drop_zero] at hS0 ⊢
    repeat (refine hS _ _ _ (fun K hK => ?_); go_simp; refine hK _ ?_; clear hK K)
    refine hS0 _ ?_
    clear hS hS0 S
    clear q q0
    have q0 := blk_cells B3.out
    go_wp2_with ((with_reducible refine hmt.mono ?_); rintro e w' ⟨rfl, rfl⟩)
    refine hpo.mono ?_
    rintro e w3 ⟨rfl, k3, hb3⟩
    exact ⟨rfl, rfl, K3.out.trans k3, hb3⟩

end Go.Proofs.YtfcgjadfhojogaaDoor.Vm
