/- Instructions with a guarded test in one statement: load, store, zero. -/
import Derived.Test.YtfcgjadfhojogaaDoorVmG
namespace Go.Proofs.YtfcgjadfhojogaaDoor.Vm
open Go.RowKit Go.Proofs.YtfcgjadfhojogaaDoorW.PrintWords Go.Proofs.YtfcgjadfhojogaaDoorW.PrintLast Go.Proofs.YtfcgjadfhojogaaDoorW.PrintMore Go.Proofs.YtfcgjadfhojogaaDoor.PVmStarts
set_option linter.unusedVariables false
set_option linter.unusedSimpArgs false

set_option maxHeartbeats 4000000 in
set_option maxRecDepth 100000 in
theorem ins_load {w0 w : World} {b : Nat} {C : Cd} {B : S65} {F : Fr} {p : Pt} {vl vs : Value} (h : RunAt w0 w b C B F p vl vs) (ok : OkF F) (i : S53) :
    Calls Tryd.prog 73 #[.pointer (some ⟨b, 0, none⟩), .agg #[.int .i64 i.f0, .int .i64 i.f1, .int .i64 i.f2, .int .i64 i.f3]] w (Outcome w0 w b C B p vl (iLoad C i F)) := by
  unfold iLoad
  by_cases hx : ¬ (0 ≤ i.f1 ∧ i.f1 < (C.cells.length : Int))
  · rw [if_neg hx]
    by_cases h0 : 0 ≤ i.f1
    · have c0 : decide (0 ≤ i.f1) = true := decide_eq_true h0
      have c1 : decide (i.f1 < (C.cells.length : Int)) = false := decide_eq_false (fun hh => hx ⟨h0, hh⟩)
      clear hx h0
      go_enter Tryd.func73, Tryd.ntmps73
      go_upto_region 1 with (fail)
      refine nameW ?_
      intro w1 hw1
      obtain ⟨b0, hb, hsz⟩ := one_box hw1
      clear hw1
      have h1 := h.mono hb
      have K1 := Aside0.mk (Keeps.of_below hb)
      have H1 := Aside0.mk h1
      have q := blk_cells h1.blk
      have q0 := blk_cells b0
      unfold cellsOf at q
      have hmf := must_false 1 w1.drew
      have HD := Aside0.mk (And.intro (K1.out.trans (Keeps.of_below (below_drew (Below.refl _ _)))) h1.drew.below)
      clear h h1 b0 hb hsz
      refine still_tail 14 (by kernel_rfl) (by kernel_rfl) ?_
      intro S hS hS0
      simp only [List.take_succ_cons, List.take_zero, List.drop_succ_cons, List.drop_zero] at hS0 ⊢
      repeat (refine hS _ _ _ (fun K hK => ?_); go_simp; refine hK _ ?_; clear hK K)
      refine hS0 _ ?_
      clear hS hS0 S
      go_wp2_with fail
      refine hmf.mono ?_
      rintro e w2 ⟨rfl, rfl⟩
      exact ⟨rfl, rfl, HD.out⟩
    · have c0 : decide (0 ≤ i.f1) = false := decide_eq_false h0
      clear hx h0
      go_enter Tryd.func73, Tryd.ntmps73
      go_upto_region 1 with (fail)
      refine nameW ?_
      intro w1 hw1
      obtain ⟨b0, hb, hsz⟩ := one_box hw1
      clear hw1
      have h1 := h.mono hb
      have K1 := Aside0.mk (Keeps.of_below hb)
      have H1 := Aside0.mk h1
      have q0 := blk_cells b0
      have hmf := must_false 1 w1.drew
      have HD := Aside0.mk (And.intro (K1.out.trans (Keeps.of_below (below_drew (Below.refl _ _)))) h1.drew.below)
      clear h h1 b0 hb hsz
      refine still_tail 14 (by kernel_rfl) (by kernel_rfl) ?_
      intro S hS hS0
      simp only [List.take_succ_cons, List.take_zero, List.drop_succ_cons, List.drop_zero] at hS0 ⊢
      repeat (refine hS _ _ _ (fun K hK => ?_); go_simp; refine hK _ ?_; clear hK K)
      refine hS0 _ ?_
      clear hS hS0 S
      go_wp2_with fail
      refine hmf.mono ?_
      rintro e w2 ⟨rfl, rfl⟩
      exact ⟨rfl, rfl, HD.out⟩
  · have hx := Decidable.not_not.1 hx
    rw [if_pos hx]
    have c0 : decide (0 ≤ i.f1) = true := decide_eq_true hx.1
    have c1 : decide (i.f1 < (C.cells.length : Int)) = true := decide_eq_true hx.2
    clear hx
    go_enter Tryd.func73, Tryd.ntmps73
    go_upto_region 1 with (fail)
    refine nameW ?_
    intro w1 hw1
    obtain ⟨b0, hb, hsz⟩ := one_box hw1
    clear hw1
    have h1 := h.mono hb
    have K1 := Aside0.mk (Keeps.of_below hb)
    have H1 := Aside0.mk h1
    have q := blk_cells h1.blk
    have q0 := blk_cells b0
    unfold cellsOf at q
    have hmf := must_true 1 w1.drew
    have h2 := h1.drew
    have K2 := Aside0.mk (K1.out.trans (Keeps.of_below (below_drew (Below.refl _ _))))
    have B2 := Aside0.mk (blk_drew b0)
    clear h h1 b0 hb hsz
    refine still_tail 14 (by kernel_rfl) (by kernel_rfl) ?_
    intro S hS hS0
    simp only [List.take_succ_cons, List.take_zero, List.drop_succ_cons, List.drop_zero] at hS0 ⊢
    repeat (refine hS _ _ _ (fun K hK => ?_); go_simp; refine hK _ ?_; clear hK K)
    refine hS0 _ ?_
    clear hS hS0 S
    clear q q0
    go_wp2_with fail
    refine hmf.mono ?_
    rintro e w2 ⟨rfl, rfl⟩
    clear hmf c0 c1
    have hpa := ok.pass h2 rfl rfl
    clear h2
    go_wp2_with fail
    refine hpa.mono ?_
    rintro e w8 ⟨rfl, k8, vs8, h8⟩
    have K8 := Aside0.mk (K2.out.trans k8)
    have hen := end_call h8 { noAk with kind := 1, a := i.f1 } none 0 w0.heap.size (Kd.R_nil _ _ _ _ _)
    have q0 := blk_cells (k8.blk _ _ _ B2.out (by decide) (by decide))
    clear hpa h8 k8
    go_wp2_with fail
    refine hen.mono ?_
    rintro e w9 hd
    have HD := Aside0.mk (Asked.pre K8.out hd)
    obtain ⟨rfl, _, _⟩ := hd
    clear hen
    go_wp2
    first | go_end0 | refine bodyPost_ret (results_none rfl _ _ _) rfl ?_
    exact HD.out

set_option maxHeartbeats 4000000 in
set_option maxRecDepth 100000 in
theorem ins_store {w0 w : World} {b : Nat} {C : Cd} {B : S65} {F : Fr} {p : Pt} {vl vs : Value} (h : RunAt w0 w b C B F p vl vs) (ok : OkF F) (i : S53) :
    Calls Tryd.prog 75 #[.pointer (some ⟨b, 0, none⟩), .agg #[.int .i64 i.f0, .int .i64 i.f1, .int .i64 i.f2, .int .i64 i.f3]] w (Outcome w0 w b C B p vl (iStore C i F)) := by
  unfold iStore
  by_cases hx : ¬ (0 ≤ i.f1 ∧ i.f1 < (C.cells.length : Int))
  · rw [if_neg hx]
    by_cases h0 : 0 ≤ i.f1
    · have c0 : decide (0 ≤ i.f1) = true := decide_eq_true h0
      have c1 : decide (i.f1 < (C.cells.length : Int)) = false := decide_eq_false (fun hh => hx ⟨h0, hh⟩)
      clear hx h0
      go_enter Tryd.func75, Tryd.ntmps75
      go_upto_region 1 with (fail)
      refine nameW ?_
      intro w1 hw1
      obtain ⟨b0, hb, hsz⟩ := one_box hw1
      clear hw1
      have h1 := h.mono hb
      have K1 := Aside0.mk (Keeps.of_below hb)
      have H1 := Aside0.mk h1
      have q := blk_cells h1.blk
      have q0 := blk_cells b0
      unfold cellsOf at q
      have hmf := must_false 1 w1.drew
      have HD := Aside0.mk (And.intro (K1.out.trans (Keeps.of_below (below_drew (Below.refl _ _)))) h1.drew.below)
      clear h h1 b0 hb hsz
      refine still_tail 14 (by kernel_rfl) (by kernel_rfl) ?_
      intro S hS hS0
      simp only [List.take_succ_cons, List.take_zero, List.drop_succ_cons, List.drop_zero] at hS0 ⊢
      repeat (refine hS _ _ _ (fun K hK => ?_); go_simp; refine hK _ ?_; clear hK K)
      refine hS0 _ ?_
      clear hS hS0 S
      go_wp2_with fail
      refine hmf.mono ?_
      rintro e w2 ⟨rfl, rfl⟩
      exact ⟨rfl, rfl, HD.out⟩
    · have c0 : decide (0 ≤ i.f1) = false := decide_eq_false h0
      clear hx h0
      go_enter Tryd.func75, Tryd.ntmps75
      go_upto_region 1 with (fail)
      refine nameW ?_
      intro w1 hw1
      obtain ⟨b0, hb, hsz⟩ := one_box hw1
      clear hw1
      have h1 := h.mono hb
      have K1 := Aside0.mk (Keeps.of_below hb)
      have H1 := Aside0.mk h1
      have q0 := blk_cells b0
      have hmf := must_false 1 w1.drew
      have HD := Aside0.mk (And.intro (K1.out.trans (Keeps.of_below (below_drew (Below.refl _ _)))) h1.drew.below)
      clear h h1 b0 hb hsz
      refine still_tail 14 (by kernel_rfl) (by kernel_rfl) ?_
      intro S hS hS0
      simp only [List.take_succ_cons, List.take_zero, List.drop_succ_cons, List.drop_zero] at hS0 ⊢
      repeat (refine hS _ _ _ (fun K hK => ?_); go_simp; refine hK _ ?_; clear hK K)
      refine hS0 _ ?_
      clear hS hS0 S
      go_wp2_with fail
      refine hmf.mono ?_
      rintro e w2 ⟨rfl, rfl⟩
      exact ⟨rfl, rfl, HD.out⟩
  · have hx := Decidable.not_not.1 hx
    rw [if_pos hx]
    unfold popF
    cases hst : F.stk.reverse with
    | nil =>
      have hs0 : F.stk = [] := by simpa using hst
      simp only
      have c0 : decide (0 ≤ i.f1) = true := decide_eq_true hx.1
      have c1 : decide (i.f1 < (C.cells.length : Int)) = true := decide_eq_true hx.2
      clear hx
      go_enter Tryd.func75, Tryd.ntmps75
      go_upto_region 1 with (fail)
      refine nameW ?_
      intro w1 hw1
      obtain ⟨b0, hb, hsz⟩ := one_box hw1
      clear hw1
      have h1 := h.mono hb
      have K1 := Aside0.mk (Keeps.of_below hb)
      have H1 := Aside0.mk h1
      have q := blk_cells h1.blk
      have q0 := blk_cells b0
      unfold cellsOf at q
      have hmf := must_true 1 w1.drew
      have h2 := h1.drew
      have K2 := Aside0.mk (K1.out.trans (Keeps.of_below (below_drew (Below.refl _ _))))
      have B2 := Aside0.mk (blk_drew b0)
      clear h h1 b0 hb hsz
      refine still_tail 14 (by kernel_rfl) (by kernel_rfl) ?_
      intro S hS hS0
      simp only [List.take_succ_cons, List.take_zero, List.drop_succ_cons, List.drop_zero] at hS0 ⊢
      repeat (refine hS _ _ _ (fun K hK => ?_); go_simp; refine hK _ ?_; clear hK K)
      refine hS0 _ ?_
      clear hS hS0 S
      clear q q0
      go_wp2_with fail
      refine hmf.mono ?_
      rintro e w2 ⟨rfl, rfl⟩
      clear hmf c0 c1
      have hpop := pop_none h2 hs0
      clear h2 hs0 hst
      go_wp2_with fail
      refine hpop.mono ?_
      rintro e w3 ⟨rfl, k2, hb2⟩
      exact ⟨rfl, rfl, K2.out.trans k2, hb2⟩
    | cons x r =>
      have hs0 : F.stk = r.reverse ++ [x] := by have := congrArg List.reverse hst; simpa using this
      simp only
      have c0 : decide (0 ≤ i.f1) = true := decide_eq_true hx.1
      have c1 : decide (i.f1 < (C.cells.length : Int)) = true := decide_eq_true hx.2
      clear hx
      go_enter Tryd.func75, Tryd.ntmps75
      go_upto_region 1 with (fail)
      refine nameW ?_
      intro w1 hw1
      obtain ⟨b0, hb, hsz⟩ := one_box hw1
      clear hw1
      have h1 := h.mono hb
      have K1 := Aside0.mk (Keeps.of_below hb)
      have H1 := Aside0.mk h1
      have q := blk_cells h1.blk
      have q0 := blk_cells b0
      unfold cellsOf at q
      have hmf := must_true 1 w1.drew
      have h2 := h1.drew
      have K2 := Aside0.mk (K1.out.trans (Keeps.of_below (below_drew (Below.refl _ _))))
      have B2 := Aside0.mk (blk_drew b0)
      clear h h1 b0 hb hsz
      refine still_tail 14 (by kernel_rfl) (by kernel_rfl) ?_
      intro S hS hS0
      simp only [List.take_succ_cons, List.take_zero, List.drop_succ_cons, List.drop_zero] at hS0 ⊢
      repeat (refine hS _ _ _ (fun K hK => ?_); go_simp; refine hK _ ?_; clear hK K)
      refine hS0 _ ?_
      clear hS hS0 S
      clear q q0
      go_wp2_with fail
      refine hmf.mono ?_
      rintro e w2 ⟨rfl, rfl⟩
      clear hmf c0 c1
      have hpop := pop_some h2 r.reverse x hs0
      clear h2 hs0 hst
      go_wp2_with fail
      refine hpop.mono ?_
      rintro e w3 ⟨rfl, k3, vs3, h3⟩
      have K3 := Aside0.mk (K2.out.trans k3)
      have B3 := Aside0.mk (k3.blk _ _ _ B2.out (by decide) (by decide))
      have hpa := ok.pass h3 rfl rfl
      clear hpop h3 k3
      go_wp2_with fail
      refine hpa.mono ?_
      rintro e w8 ⟨rfl, k8, vs8, h8⟩
      have K8 := Aside0.mk (K3.out.trans k8)
      have hen := end_call h8 { noAk with kind := 2, a := i.f1, b := x } none 0 w0.heap.size (Kd.R_nil _ _ _ _ _)
      have q0 := blk_cells (k8.blk _ _ _ B3.out (by decide) (by decide))
      clear hpa h8 k8
      go_wp2_with fail
      refine hen.mono ?_
      rintro e w9 hd
      have HD := Aside0.mk (Asked.pre K8.out hd)
      obtain ⟨rfl, _, _⟩ := hd
      clear hen
      go_wp2
      first | go_end0 | refine bodyPost_ret (results_none rfl _ _ _) rfl ?_
      exact HD.out

set_option maxHeartbeats 4000000 in
set_option maxRecDepth 100000 in
theorem ins_zero {w0 w : World} {b : Nat} {C : Cd} {B : S65} {F : Fr} {p : Pt} {vl vs : Value} (h : RunAt w0 w b C B F p vl vs) (ok : OkF F) (i : S53) :
    Calls Tryd.prog 93 #[.pointer (some ⟨b, 0, none⟩), .agg #[.int .i64 i.f0, .int .i64 i.f1, .int .i64 i.f2, .int .i64 i.f3]] w (Outcome w0 w b C B p vl (iZero B i F)) := by
  unfold iZero popF
  cases hst : F.stk.reverse with
  | nil =>
    have hs0 : F.stk = [] := by simpa using hst
    simp only
    go_enter Tryd.func93, Tryd.ntmps93
    go_upto_region 1 with (fail)
    refine nameW ?_
    intro w1 hw1
    obtain ⟨b0, hb, hsz⟩ := one_box hw1
    clear hw1
    have h1 := h.mono hb
    have K1 := Aside0.mk (Keeps.of_below hb)
    have H1 := Aside0.mk h1
    have hpop := pop_none h1 hs0
    clear h h1 b0 hb hsz hs0 hst
    go_wp2_with fail
    refine hpop.mono ?_
    rintro e w2 ⟨rfl, k2, hb2⟩
    exact ⟨rfl, rfl, K1.out.trans k2, hb2⟩
  | cons x r =>
    have hs0 : F.stk = r.reverse ++ [x] := by have := congrArg List.reverse hst; simpa using this
    simp only
    by_cases hx0 : x = 0
    · subst hx0
      rw [if_pos rfl]
      unfold jumpF
      by_cases hx : 0 ≤ i.f1 ∧ i.f1 < (B.f2.length : Int)
      · rw [if_pos hx]
        go_enter Tryd.func93, Tryd.ntmps93
        go_upto_region 1 with (fail)
        refine nameW ?_
        intro w1 hw1
        obtain ⟨b0, hb, hsz⟩ := one_box hw1
        clear hw1
        have h1 := h.mono hb
        have K1 := Aside0.mk (Keeps.of_below hb)
        have H1 := Aside0.mk h1
        have hpop := pop_some h1 r.reverse 0 hs0
        have B0 := Aside0.mk b0
        clear h h1 b0 hb hsz hs0 hst
        go_wp2_with fail
        refine hpop.mono ?_
        rintro e w2 ⟨rfl, k2, vs2, h2⟩
        have K2 := Aside0.mk (K1.out.trans k2)
        have q0 := blk_cells (k2.blk _ _ _ B0.out (by decide) (by decide))
        have hj := jump_some h2 i.f1 hx ok.sp0 ok.sp1
        clear hpop h2 k2 hx
        go_wp2_with fail
        refine hj.mono ?_
        rintro e w3 ⟨rfl, k3, hr3⟩
        have H3 := Aside0.mk (And.intro (K2.out.trans k3) hr3)
        clear hj k3 hr3 q0
        go_wp2
        first | go_end0 | refine bodyPost_ret (results_none rfl _ _ _) rfl ?_
        exact ⟨rfl, H3.out.1, H3.out.2⟩
      · rw [if_neg hx]
        go_enter Tryd.func93, Tryd.ntmps93
        go_upto_region 1 with (fail)
        refine nameW ?_
        intro w1 hw1
        obtain ⟨b0, hb, hsz⟩ := one_box hw1
        clear hw1
        have h1 := h.mono hb
        have K1 := Aside0.mk (Keeps.of_below hb)
        have H1 := Aside0.mk h1
        have hpop := pop_some h1 r.reverse 0 hs0
        have B0 := Aside0.mk b0
        clear h h1 b0 hb hsz hs0 hst
        go_wp2_with fail
        refine hpop.mono ?_
        rintro e w2 ⟨rfl, k2, vs2, h2⟩
        have K2 := Aside0.mk (K1.out.trans k2)
        have q0 := blk_cells (k2.blk _ _ _ B0.out (by decide) (by decide))
        have hj := jump_none h2 i.f1 hx
        clear hpop h2 k2 hx
        go_wp2_with fail
        refine hj.mono ?_
        rintro e w3 ⟨rfl, k2, hb2⟩
        exact ⟨rfl, rfl, K2.out.trans k2, hb2⟩
    · have e0 : (x == 0) = false := beq_eq_false_iff_ne.2 hx0
      rw [if_neg hx0]
      clear hx0
      by_cases hx : ¬ (0 ≤ i.f1 ∧ i.f1 < (B.f2.length : Int))
      · rw [if_neg hx]
        by_cases h0 : 0 ≤ i.f1
        · have c0 : decide (0 ≤ i.f1) = true := decide_eq_true h0
          have c1 : decide (i.f1 < (B.f2.length : Int)) = false := decide_eq_false (fun hh => hx ⟨h0, hh⟩)
          clear hx h0
          go_enter Tryd.func93, Tryd.ntmps93
          go_upto_region 1 with (fail)
          refine nameW ?_
          intro w1 hw1
          obtain ⟨b0, hb, hsz⟩ := one_box hw1
          clear hw1
          have h1 := h.mono hb
          have K1 := Aside0.mk (Keeps.of_below hb)
          have H1 := Aside0.mk h1
          have hpop := pop_some h1 r.reverse x hs0
          have B0 := Aside0.mk b0
          clear h h1 b0 hb hsz hs0 hst
          go_wp2_with fail
          refine hpop.mono ?_
          rintro e w2 ⟨rfl, k2, vs2, h2⟩
          have K2 := Aside0.mk (K1.out.trans (k2.trans (Keeps.of_below (below_drew (Below.refl _ _)))))
          have q0 := blk_cells (k2.blk _ _ _ B0.out (by decide) (by decide))
          have q := blk_cells h2.blk
          unfold cellsOf at q
          have h3 := h2.drew
          clear hpop h2 k2
          go_upto_region 3 with (fail)
          have hmf := must_false 1 w2.drew
          have HB := Aside0.mk h3.below
          clear h3
          refine still_tail 14 (by kernel_rfl) (by kernel_rfl) ?_
          intro S hS hS0
          simp only [List.take_succ_cons, List.take_zero, List.drop_succ_cons, List.drop_zero] at hS0 ⊢
          repeat (refine hS _ _ _ (fun K hK => ?_); go_simp; refine hK _ ?_; clear hK K)
          refine hS0 _ ?_
          clear hS hS0 S
          go_wp2_with fail
          refine hmf.mono ?_
          rintro e w3 ⟨rfl, rfl⟩
          exact ⟨rfl, rfl, K2.out, HB.out⟩
        · have c0 : decide (0 ≤ i.f1) = false := decide_eq_false h0
          clear hx h0
          go_enter Tryd.func93, Tryd.ntmps93
          go_upto_region 1 with (fail)
          refine nameW ?_
          intro w1 hw1
          obtain ⟨b0, hb, hsz⟩ := one_box hw1
          clear hw1
          have h1 := h.mono hb
          have K1 := Aside0.mk (Keeps.of_below hb)
          have H1 := Aside0.mk h1
          have hpop := pop_some h1 r.reverse x hs0
          have B0 := Aside0.mk b0
          clear h h1 b0 hb hsz hs0 hst
          go_wp2_with fail
          refine hpop.mono ?_
          rintro e w2 ⟨rfl, k2, vs2, h2⟩
          have K2 := Aside0.mk (K1.out.trans (k2.trans (Keeps.of_below (below_drew (Below.refl _ _)))))
          have q0 := blk_cells (k2.blk _ _ _ B0.out (by decide) (by decide))
          have q := blk_cells h2.blk
          unfold cellsOf at q
          have h3 := h2.drew
          clear hpop h2 k2
          go_upto_region 3 with (fail)
          have hmf := must_false 1 w2.drew
          have HB := Aside0.mk h3.below
          clear h3
          refine still_tail 14 (by kernel_rfl) (by kernel_rfl) ?_
          intro S hS hS0
          simp only [List.take_succ_cons, List.take_zero, List.drop_succ_cons, List.drop_zero] at hS0 ⊢
          repeat (refine hS _ _ _ (fun K hK => ?_); go_simp; refine hK _ ?_; clear hK K)
          refine hS0 _ ?_
          clear hS hS0 S
          go_wp2_with fail
          refine hmf.mono ?_
          rintro e w3 ⟨rfl, rfl⟩
          exact ⟨rfl, rfl, K2.out, HB.out⟩
      · have hx := Decidable.not_not.1 hx
        rw [if_pos hx]
        have c0 : decide (0 ≤ i.f1) = true := decide_eq_true hx.1
        have c1 : decide (i.f1 < (B.f2.length : Int)) = true := decide_eq_true hx.2
        clear hx
        go_enter Tryd.func93, Tryd.ntmps93
        go_upto_region 1 with (fail)
        refine nameW ?_
        intro w1 hw1
        obtain ⟨b0, hb, hsz⟩ := one_box hw1
        clear hw1
        have h1 := h.mono hb
        have K1 := Aside0.mk (Keeps.of_below hb)
        have H1 := Aside0.mk h1
        have hpop := pop_some h1 r.reverse x hs0
        have B0 := Aside0.mk b0
        clear h h1 b0 hb hsz hs0 hst
        go_wp2_with fail
        refine hpop.mono ?_
        rintro e w2 ⟨rfl, k2, vs2, h2⟩
        have K2 := Aside0.mk (K1.out.trans (k2.trans (Keeps.of_below (below_drew (Below.refl _ _)))))
        have q0 := blk_cells (k2.blk _ _ _ B0.out (by decide) (by decide))
        have q := blk_cells h2.blk
        unfold cellsOf at q
        have h3 := h2.drew
        clear hpop h2 k2
        go_upto_region 3 with (fail)
        have hmf := must_true 1 w2.drew
        refine still_tail 14 (by kernel_rfl) (by kernel_rfl) ?_
        intro S hS hS0
        simp only [List.take_succ_cons, List.take_zero, List.drop_succ_cons, List.drop_zero] at hS0 ⊢
        repeat (refine hS _ _ _ (fun K hK => ?_); go_simp; refine hK _ ?_; clear hK K)
        refine hS0 _ ?_
        clear hS hS0 S
        clear q q0
        go_wp2_with fail
        refine hmf.mono ?_
        rintro e w3 ⟨rfl, rfl⟩
        clear hmf c0 c1
        have hpa := ok.pass h3 rfl rfl
        clear h3
        go_wp2_with fail
        refine hpa.mono ?_
        rintro e w9 ⟨rfl, k9, hr9⟩
        have H9 := Aside0.mk (And.intro (K2.out.trans k9) hr9)
        clear hpa k9 hr9
        go_wp2
        first | go_end0 | refine bodyPost_ret (results_none rfl _ _ _) rfl ?_
        exact ⟨rfl, H9.out.1, H9.out.2⟩


end Go.Proofs.YtfcgjadfhojogaaDoor.Vm
