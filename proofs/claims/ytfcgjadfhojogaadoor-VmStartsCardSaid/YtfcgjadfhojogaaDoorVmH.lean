/- The instruction that sets a local. -/
import Derived.Test.YtfcgjadfhojogaaDoorVmG
import Derived.Deep.RegionHeld3
import Derived.RegionDies
namespace Go.Proofs.YtfcgjadfhojogaaDoor.Vm
open Go.RowKit Go.Proofs.YtfcgjadfhojogaaDoorW.PrintWords Go.Proofs.YtfcgjadfhojogaaDoorW.PrintLast Go.Proofs.YtfcgjadfhojogaaDoorW.PrintMore Go.Proofs.YtfcgjadfhojogaaDoor.PVmStarts
set_option linter.unusedVariables false
set_option linter.unusedSimpArgs false

theorem RunAt.setL {w0 w : World} {b : Nat} {C : Cd} {B : S65} {F : Fr} {p : Pt} {g cap : Nat} {vs : Value} (h : RunAt w0 w b C B F p (.slice (some ⟨g, 0, none⟩) F.loc.length cap) vs) (j x : Int) :
    RunAt w0 (w.setCell ⟨g, j.toNat, none⟩ (.int .i64 x)) b C B { F with loc := F.loc.set j.toNat x } p (.slice (some ⟨g, 0, none⟩) F.loc.length cap) vs := by
  obtain ⟨inner, ho⟩ := Kd.R_own h.loc
  obtain ⟨cg, hcg⟩ := own_typed ho g rfl
  obtain ⟨hp, hg⟩ := Kd.R_put h.loc j x
  have hst : (Kd.int .i64).R 3 w w0.heap.size (fun k => some k ≠ some g) vs F.stk := ⟨fun k hk he => h.ne g rfl (by rw [hk]; exact he), h.stk.2⟩
  exact ⟨blk_far h.blk (blk_ne h.blk hcg (by decide)) _, h.base, h.below.setCell (own_base ho g rfl) _, hp, Kd.R_mono (Kd.R_grown hst hg (fun _ hk => hk)) (fun _ _ => trivial), h.ne⟩

set_option maxHeartbeats 4000000 in
set_option maxRecDepth 100000 in
theorem ins_set {w0 w : World} {b : Nat} {C : Cd} {B : S65} {F : Fr} {p : Pt} {vl vs : Value} (h : RunAt w0 w b C B F p vl vs) (ok : OkF F) (i : S53) (hk : k74.C w0 p.Ak F.kids.length F.kids) :
    Calls Tryd.prog 71 #[.pointer (some ⟨b, 0, none⟩), .agg #[.int .i64 i.f0, .int .i64 i.f1, .int .i64 i.f2, .int .i64 i.f3]] w (Outcome w0 w b C B p vl (iSet i F)) := by
  unfold iSet
  by_cases hx : ¬ (0 ≤ i.f1 ∧ i.f1 < (F.loc.length : Int))
  · rw [if_neg hx]
    go_enter Tryd.func71, Tryd.ntmps71
    go_upto_region 1 with (fail)
    refine nameW ?_
    intro w1 hw1
    obtain ⟨b0, hb, hsz⟩ := one_box hw1
    clear hw1
    have h1 := h.mono hb
    have K1 := Aside0.mk (Keeps.of_below hb)
    have H1 := Aside0.mk h1
    have hcall := waits_none h1 i.f1 hx
    have q0 := blk_cells b0
    clear h h1 b0 hb hsz hx
    go_wp2_with fail
    refine hcall.mono ?_
    rintro e w2 ⟨rfl, k2, hb2⟩
    exact ⟨rfl, rfl, K1.out.trans k2, hb2⟩
  have hx := Decidable.not_not.1 hx
  rw [if_pos hx]
  cases ha : F.kids.any (isDst i.f1) with
  | true =>
    simp only [if_true]
    go_enter Tryd.func71, Tryd.ntmps71
    go_upto_region 1 with (fail)
    refine nameW ?_
    intro w1 hw1
    obtain ⟨b0, hb, hsz⟩ := one_box hw1
    clear hw1
    have h1 := h.mono hb
    have K1 := Aside0.mk (Keeps.of_below hb)
    have H1 := Aside0.mk h1
    have hcall := waits_some h1 hk i.f1 hx
    rw [ha] at hcall
    have q0 := blk_cells b0
    clear h h1 b0 hb hsz hx ha
    go_wp2_with fail
    refine hcall.mono ?_
    rintro e w2 ⟨rfl, k2, vs2, h2⟩
    have hs := sync_call h2
    clear hcall h2
    go_wp2_with fail
    refine hs.mono ?_
    rintro e w3 hd
    have HD := Aside0.mk (Asked.pre (K1.out.trans k2) hd)
    obtain ⟨rfl, _, _⟩ := hd
    clear hs k2
    go_wp2
    first | go_end0 | refine bodyPost_ret (results_none rfl _ _ _) rfl ?_
    exact HD.out
  | false =>
    simp only [Bool.false_eq_true, if_false]
    unfold popF
    cases hst : F.stk.reverse with
    | nil =>
      have hs0 : F.stk = [] := by simpa using hst
      simp only
      go_enter Tryd.func71, Tryd.ntmps71
      go_upto_region 1 with (fail)
      refine nameW ?_
      intro w1 hw1
      obtain ⟨b0, hb, hsz⟩ := one_box hw1
      clear hw1
      have h1 := h.mono hb
      have K1 := Aside0.mk (Keeps.of_below hb)
      have H1 := Aside0.mk h1
      have hcall := waits_some h1 hk i.f1 hx
      rw [ha] at hcall
      have B0 := Aside0.mk b0
      have q0 := blk_cells b0
      clear h h1 b0 hb hsz ha
      obtain ⟨x0, x1⟩ := hx
      go_wp2_with fail
      refine hcall.mono ?_
      rintro e w2 ⟨rfl, k2, vs2, h2⟩
      clear q0
      have K2 := Aside0.mk (K1.out.trans (k2.trans (Keeps.of_below (below_drew (Below.refl _ _)))))
      have B2 := Aside0.mk (blk_drew (k2.blk _ _ _ B0.out (by decide) (by decide)))
      have h2d := h2.drew
      obtain ⟨inner, hown⟩ := Kd.R_own h2d.loc
      obtain ⟨g, cap, rfl, hgb, hgl⟩ := hown.form (by omega)
      obtain ⟨cg, hcg⟩ := own_typed hown g rfl
      have n1 : w.heap.size ≠ g := blk_ne B2.out hcg (by decide)
      have n2 : b ≠ g := blk_ne h2d.blk hcg (by decide)
      clear hcg
      have hpop := pop_none h2d hs0
      have H2 := Aside0.mk h2d
      have q0 : w2.cell? ⟨w.heap.size, 1, none⟩ = some (.int .i64 i.f1) := blk_cells B2.out 1
      have q : w2.cell? ⟨b, 13, none⟩ = some (.slice (some ⟨g, 0, none⟩) F.loc.length cap) := blk_cells h2.blk 13
      clear hcall h2 h2d k2 hown hgl
      go_upto_region 3 with (fail)
      go_region_dies
      all_goals
        refine hpop.mono ?_
        rintro e w3 ⟨rfl, k3, hb3⟩
        exact ⟨rfl, rfl, K2.out.trans k3, hb3⟩
    | cons x r =>
      have hs0 : F.stk = r.reverse ++ [x] := by have := congrArg List.reverse hst; simpa using this
      simp only
      go_enter Tryd.func71, Tryd.ntmps71
      go_upto_region 1 with (fail)
      refine nameW ?_
      intro w1 hw1
      obtain ⟨b0, hb, hsz⟩ := one_box hw1
      clear hw1
      have h1 := h.mono hb
      have K1 := Aside0.mk (Keeps.of_below hb)
      have H1 := Aside0.mk h1
      have hcall := waits_some h1 hk i.f1 hx
      rw [ha] at hcall
      have B0 := Aside0.mk b0
      have q0 := blk_cells b0
      clear h h1 b0 hb hsz ha
      obtain ⟨x0, x1⟩ := hx
      go_wp2_with fail
      refine hcall.mono ?_
      rintro e w2 ⟨rfl, k2, vs2, h2⟩
      clear q0
      have K2 := Aside0.mk (K1.out.trans (k2.trans (Keeps.of_below (below_drew (Below.refl _ _)))))
      have B2 := Aside0.mk (blk_drew (k2.blk _ _ _ B0.out (by decide) (by decide)))
      have h2d := h2.drew
      obtain ⟨inner, hown⟩ := Kd.R_own h2d.loc
      obtain ⟨g, cap, rfl, hgb, hgl⟩ := hown.form (by omega)
      obtain ⟨cg, hcg⟩ := own_typed hown g rfl
      have n1 : w.heap.size ≠ g := blk_ne B2.out hcg (by decide)
      have n2 : b ≠ g := blk_ne h2d.blk hcg (by decide)
      clear hcg
      have hpop := pop_some h2d r.reverse x hs0
      have H2 := Aside0.mk h2d
      have q0 : w2.cell? ⟨w.heap.size, 1, none⟩ = some (.int .i64 i.f1) := blk_cells B2.out 1
      have q : w2.cell? ⟨b, 13, none⟩ = some (.slice (some ⟨g, 0, none⟩) F.loc.length cap) := blk_cells h2.blk 13
      clear hcall h2 h2d k2 hown hgl
      go_upto_region 3 with (fail)
      go_region_held3 (fun W => W.cell? ⟨w.heap.size, 1, none⟩ = some (.int .i64 i.f1) ∧ W.cell? ⟨b, 13, none⟩ = some (.slice (some ⟨g, 0, none⟩) F.loc.length cap)) (first | go_keep | exact ⟨(cell_far n1 _).trans q0, (cell_far n2 _).trans q⟩)
        (first | ((with_reducible refine hpop.mono ?_); rintro e w3 ⟨rfl, k3, vs3, h3⟩; have q0 : w3.cell? ⟨w.heap.size, 1, none⟩ = some (.int .i64 i.f1) := blk_cells (k3.blk _ _ _ B2.out (by decide) (by decide)) 1; have q : w3.cell? ⟨b, 13, none⟩ = some (.slice (some ⟨g, 0, none⟩) F.loc.length cap) := blk_cells h3.blk 13; obtain ⟨hcl, hfl⟩ := Kd.R_cell (0 : Int) h3.loc i.f1 x0 x1))
      have h4 := h3.setL i.f1 x
      have K4 := Aside0.mk (K2.out.trans (k3.set_ (Classical.choose_spec (own_typed (Kd.R_own h3.loc).choose_spec g rfl)) (.inr rfl) i.f1.toNat (.int .i64 x)))
      have hpa := ok.pass h4 rfl rfl
      clear hpop h3 h4 k3 hcl hfl q0 q
      go_wp2_with fail
      refine hpa.mono ?_
      rintro e w5 ⟨rfl, k5, hr5⟩
      have H5 := Aside0.mk (And.intro (K4.out.trans k5) hr5)
      clear hpa k5 hr5
      go_wp2
      go_end0
      exact ⟨rfl, H5.out.1, H5.out.2⟩

end Go.Proofs.YtfcgjadfhojogaaDoor.Vm
