/- More instructions: dropping, two values made one, sync, jumps, assert, return. -/
import Derived.Test.YtfcgjadfhojogaaDoorVmG
namespace Go.Proofs.YtfcgjadfhojogaaDoor.Vm
open Go.RowKit Go.Proofs.YtfcgjadfhojogaaDoorW.PrintWords Go.Proofs.YtfcgjadfhojogaaDoorW.PrintLast Go.Proofs.YtfcgjadfhojogaaDoorW.PrintMore Go.Proofs.YtfcgjadfhojogaaDoor.PVmStarts
set_option linter.unusedVariables false
set_option linter.unusedSimpArgs false

set_option maxHeartbeats 4000000 in
set_option maxRecDepth 100000 in
theorem ins_drop {w0 w : World} {b : Nat} {C : Cd} {B : S65} {F : Fr} {p : Pt} {vl vs : Value} (h : RunAt w0 w b C B F p vl vs) (ok : OkF F) (i : S53) :
    Calls Tryd.prog 88 #[.pointer (some ⟨b, 0, none⟩), .agg #[.int .i64 i.f0, .int .i64 i.f1, .int .i64 i.f2, .int .i64 i.f3]] w (Outcome w0 w b C B p vl (iDrop F)) := by
  unfold iDrop
  unfold popF
  cases hst : F.stk.reverse with
  | nil =>
    have hs0 : F.stk = [] := by simpa using hst
    simp only
    go_enter Tryd.func88, Tryd.ntmps88
    go_upto_region 1 with (fail)
    refine nameW ?_
    intro w1 hw1
    obtain ⟨b0, hb, hsz⟩ := one_box hw1
    clear hw1
    have h1 := h.mono hb
    have K1 := Aside0.mk (Keeps.of_below hb)
    have H1 := Aside0.mk h1
    have hpop := pop_none h1 hs0
    clear h h1 b0 hb hsz hs0 hst
    go_wp2_with fail
    refine hpop.mono ?_
    rintro e w2 ⟨rfl, k2, hb2⟩
    exact ⟨rfl, rfl, K1.out.trans k2, hb2⟩
  | cons x r =>
    have hs0 : F.stk = r.reverse ++ [x] := by have := congrArg List.reverse hst; simpa using this
    simp only
    go_enter Tryd.func88, Tryd.ntmps88
    go_upto_region 1 with (fail)
    refine nameW ?_
    intro w1 hw1
    obtain ⟨b0, hb, hsz⟩ := one_box hw1
    clear hw1
    have h1 := h.mono hb
    have K1 := Aside0.mk (Keeps.of_below hb)
    have H1 := Aside0.mk h1
    have hpop := pop_some h1 r.reverse x hs0
    clear h h1 b0 hb hsz hs0 hst
    go_wp2_with fail
    refine hpop.mono ?_
    rintro e w2 ⟨rfl, k2, vs2, h2⟩
    have K2 := Aside0.mk (K1.out.trans k2)
    have hpa := ok.pass h2 rfl rfl
    clear hpop h2 k2
    go_wp2_with fail
    refine hpa.mono ?_
    rintro e w9 ⟨rfl, k9, hr9⟩
    have H9 := Aside0.mk (And.intro (K2.out.trans k9) hr9)
    clear hpa k9 hr9
    go_wp2
    first | go_end0 | refine bodyPost_ret (results_none rfl _ _ _) rfl ?_
    exact ⟨rfl, H9.out.1, H9.out.2⟩

set_option maxHeartbeats 4000000 in
set_option maxRecDepth 100000 in
theorem ins_two6 {w0 w : World} {b : Nat} {C : Cd} {B : S65} {F : Fr} {p : Pt} {vl vs : Value} (h : RunAt w0 w b C B F p vl vs) (ok : OkF F) (i : S53) :
    Calls Tryd.prog 76 #[.pointer (some ⟨b, 0, none⟩), .agg #[.int .i64 i.f0, .int .i64 i.f1, .int .i64 i.f2, .int .i64 i.f3]] w (Outcome w0 w b C B p vl (twoF (fun a b => rnd (a + b)) F)) := by
  have eg : ∀ args w, (callFunc 78 args).run Tryd.prog w = .ok (.enter 78 args) w := fun args w => by kernel_rfl
  have hdeep := ok.deep
  have hvals := ok.stk
  unfold twoF
  match hst : F.stk.reverse with
  | [] =>
    have hs0 : F.stk.length < 2 := by have := congrArg List.length hst; simp at this; simp [this]
    simp only
    go_enter Tryd.func76, Tryd.ntmps76
    go_upto_region 1 with (fail)
    refine nameW ?_
    intro w1 hw1
    obtain ⟨b0, hb, hsz⟩ := one_box hw1
    clear hw1
    have h1 := h.mono hb
    have K1 := Aside0.mk (Keeps.of_below hb)
    have H1 := Aside0.mk h1
    have hcall := two_none h1 hs0 78
    clear h h1 b0 hb hsz hs0 hst eg hdeep hvals
    go_wp2_with fail
    refine hcall.mono ?_
    rintro e w2 ⟨rfl, k2, hb2⟩
    exact ⟨rfl, rfl, K1.out.trans k2, hb2⟩
  | [y] =>
    have hs0 : F.stk.length < 2 := by have := congrArg List.length hst; simp at this; omega
    simp only
    go_enter Tryd.func76, Tryd.ntmps76
    go_upto_region 1 with (fail)
    refine nameW ?_
    intro w1 hw1
    obtain ⟨b0, hb, hsz⟩ := one_box hw1
    clear hw1
    have h1 := h.mono hb
    have K1 := Aside0.mk (Keeps.of_below hb)
    have H1 := Aside0.mk h1
    have hcall := two_none h1 hs0 78
    clear h h1 b0 hb hsz hs0 hst eg hdeep hvals
    go_wp2_with fail
    refine hcall.mono ?_
    rintro e w2 ⟨rfl, k2, hb2⟩
    exact ⟨rfl, rfl, K1.out.trans k2, hb2⟩
  | y :: x :: r =>
    have hs0 : F.stk = r.reverse ++ [x, y] := by have := congrArg List.reverse hst; simpa using this
    have hvx : isV x = true := hvals x (by rw [hs0]; simp)
    have hvy : isV y = true := hvals y (by rw [hs0]; simp)
    have hln : r.reverse.length < 100 := by rw [hs0] at hdeep; simp at hdeep ⊢; omega
    simp only
    go_enter Tryd.func76, Tryd.ntmps76
    go_upto_region 1 with (fail)
    refine nameW ?_
    intro w1 hw1
    obtain ⟨b0, hb, hsz⟩ := one_box hw1
    clear hw1
    have h1 := h.mono hb
    have K1 := Aside0.mk (Keeps.of_below hb)
    have H1 := Aside0.mk h1
    have hcall := two_some h1 r.reverse x y _ hs0 hln 78 eg (add_op x y hvx hvy) ok.pc0 ok.pc1 ok.sp0 ok.sp1
    clear h h1 b0 hb hsz hs0 hst eg hdeep hvals hvx hvy hln
    go_wp2_with fail
    refine hcall.mono ?_
    rintro e w2 ⟨rfl, k2, hr2⟩
    have H2 := Aside0.mk (And.intro (K1.out.trans k2) hr2)
    clear hcall k2 hr2
    go_wp2
    first | go_end0 | refine bodyPost_ret (results_none rfl _ _ _) rfl ?_
    exact ⟨rfl, H2.out.1, H2.out.2⟩

set_option maxHeartbeats 4000000 in
set_option maxRecDepth 100000 in
theorem ins_two7 {w0 w : World} {b : Nat} {C : Cd} {B : S65} {F : Fr} {p : Pt} {vl vs : Value} (h : RunAt w0 w b C B F p vl vs) (ok : OkF F) (i : S53) :
    Calls Tryd.prog 79 #[.pointer (some ⟨b, 0, none⟩), .agg #[.int .i64 i.f0, .int .i64 i.f1, .int .i64 i.f2, .int .i64 i.f3]] w (Outcome w0 w b C B p vl (twoF (fun a b => rnd (a - b)) F)) := by
  have eg : ∀ args w, (callFunc 80 args).run Tryd.prog w = .ok (.enter 80 args) w := fun args w => by kernel_rfl
  have hdeep := ok.deep
  have hvals := ok.stk
  unfold twoF
  match hst : F.stk.reverse with
  | [] =>
    have hs0 : F.stk.length < 2 := by have := congrArg List.length hst; simp at this; simp [this]
    simp only
    go_enter Tryd.func79, Tryd.ntmps79
    go_upto_region 1 with (fail)
    refine nameW ?_
    intro w1 hw1
    obtain ⟨b0, hb, hsz⟩ := one_box hw1
    clear hw1
    have h1 := h.mono hb
    have K1 := Aside0.mk (Keeps.of_below hb)
    have H1 := Aside0.mk h1
    have hcall := two_none h1 hs0 80
    clear h h1 b0 hb hsz hs0 hst eg hdeep hvals
    go_wp2_with fail
    refine hcall.mono ?_
    rintro e w2 ⟨rfl, k2, hb2⟩
    exact ⟨rfl, rfl, K1.out.trans k2, hb2⟩
  | [y] =>
    have hs0 : F.stk.length < 2 := by have := congrArg List.length hst; simp at this; omega
    simp only
    go_enter Tryd.func79, Tryd.ntmps79
    go_upto_region 1 with (fail)
    refine nameW ?_
    intro w1 hw1
    obtain ⟨b0, hb, hsz⟩ := one_box hw1
    clear hw1
    have h1 := h.mono hb
    have K1 := Aside0.mk (Keeps.of_below hb)
    have H1 := Aside0.mk h1
    have hcall := two_none h1 hs0 80
    clear h h1 b0 hb hsz hs0 hst eg hdeep hvals
    go_wp2_with fail
    refine hcall.mono ?_
    rintro e w2 ⟨rfl, k2, hb2⟩
    exact ⟨rfl, rfl, K1.out.trans k2, hb2⟩
  | y :: x :: r =>
    have hs0 : F.stk = r.reverse ++ [x, y] := by have := congrArg List.reverse hst; simpa using this
    have hvx : isV x = true := hvals x (by rw [hs0]; simp)
    have hvy : isV y = true := hvals y (by rw [hs0]; simp)
    have hln : r.reverse.length < 100 := by rw [hs0] at hdeep; simp at hdeep ⊢; omega
    simp only
    go_enter Tryd.func79, Tryd.ntmps79
    go_upto_region 1 with (fail)
    refine nameW ?_
    intro w1 hw1
    obtain ⟨b0, hb, hsz⟩ := one_box hw1
    clear hw1
    have h1 := h.mono hb
    have K1 := Aside0.mk (Keeps.of_below hb)
    have H1 := Aside0.mk h1
    have hcall := two_some h1 r.reverse x y _ hs0 hln 80 eg (sub_op x y hvx hvy) ok.pc0 ok.pc1 ok.sp0 ok.sp1
    clear h h1 b0 hb hsz hs0 hst eg hdeep hvals hvx hvy hln
    go_wp2_with fail
    refine hcall.mono ?_
    rintro e w2 ⟨rfl, k2, hr2⟩
    have H2 := Aside0.mk (And.intro (K1.out.trans k2) hr2)
    clear hcall k2 hr2
    go_wp2
    first | go_end0 | refine bodyPost_ret (results_none rfl _ _ _) rfl ?_
    exact ⟨rfl, H2.out.1, H2.out.2⟩

set_option maxHeartbeats 4000000 in
set_option maxRecDepth 100000 in
theorem ins_two8 {w0 w : World} {b : Nat} {C : Cd} {B : S65} {F : Fr} {p : Pt} {vl vs : Value} (h : RunAt w0 w b C B F p vl vs) (ok : OkF F) (i : S53) :
    Calls Tryd.prog 81 #[.pointer (some ⟨b, 0, none⟩), .agg #[.int .i64 i.f0, .int .i64 i.f1, .int .i64 i.f2, .int .i64 i.f3]] w (Outcome w0 w b C B p vl (twoF (fun a b => rnd (a * b)) F)) := by
  have eg : ∀ args w, (callFunc 82 args).run Tryd.prog w = .ok (.enter 82 args) w := fun args w => by kernel_rfl
  have hdeep := ok.deep
  have hvals := ok.stk
  unfold twoF
  match hst : F.stk.reverse with
  | [] =>
    have hs0 : F.stk.length < 2 := by have := congrArg List.length hst; simp at this; simp [this]
    simp only
    go_enter Tryd.func81, Tryd.ntmps81
    go_upto_region 1 with (fail)
    refine nameW ?_
    intro w1 hw1
    obtain ⟨b0, hb, hsz⟩ := one_box hw1
    clear hw1
    have h1 := h.mono hb
    have K1 := Aside0.mk (Keeps.of_below hb)
    have H1 := Aside0.mk h1
    have hcall := two_none h1 hs0 82
    clear h h1 b0 hb hsz hs0 hst eg hdeep hvals
    go_wp2_with fail
    refine hcall.mono ?_
    rintro e w2 ⟨rfl, k2, hb2⟩
    exact ⟨rfl, rfl, K1.out.trans k2, hb2⟩
  | [y] =>
    have hs0 : F.stk.length < 2 := by have := congrArg List.length hst; simp at this; omega
    simp only
    go_enter Tryd.func81, Tryd.ntmps81
    go_upto_region 1 with (fail)
    refine nameW ?_
    intro w1 hw1
    obtain ⟨b0, hb, hsz⟩ := one_box hw1
    clear hw1
    have h1 := h.mono hb
    have K1 := Aside0.mk (Keeps.of_below hb)
    have H1 := Aside0.mk h1
    have hcall := two_none h1 hs0 82
    clear h h1 b0 hb hsz hs0 hst eg hdeep hvals
    go_wp2_with fail
    refine hcall.mono ?_
    rintro e w2 ⟨rfl, k2, hb2⟩
    exact ⟨rfl, rfl, K1.out.trans k2, hb2⟩
  | y :: x :: r =>
    have hs0 : F.stk = r.reverse ++ [x, y] := by have := congrArg List.reverse hst; simpa using this
    have hvx : isV x = true := hvals x (by rw [hs0]; simp)
    have hvy : isV y = true := hvals y (by rw [hs0]; simp)
    have hln : r.reverse.length < 100 := by rw [hs0] at hdeep; simp at hdeep ⊢; omega
    simp only
    go_enter Tryd.func81, Tryd.ntmps81
    go_upto_region 1 with (fail)
    refine nameW ?_
    intro w1 hw1
    obtain ⟨b0, hb, hsz⟩ := one_box hw1
    clear hw1
    have h1 := h.mono hb
    have K1 := Aside0.mk (Keeps.of_below hb)
    have H1 := Aside0.mk h1
    have hcall := two_some h1 r.reverse x y _ hs0 hln 82 eg (mul_op x y hvx hvy) ok.pc0 ok.pc1 ok.sp0 ok.sp1
    clear h h1 b0 hb hsz hs0 hst eg hdeep hvals hvx hvy hln
    go_wp2_with fail
    refine hcall.mono ?_
    rintro e w2 ⟨rfl, k2, hr2⟩
    have H2 := Aside0.mk (And.intro (K1.out.trans k2) hr2)
    clear hcall k2 hr2
    go_wp2
    first | go_end0 | refine bodyPost_ret (results_none rfl _ _ _) rfl ?_
    exact ⟨rfl, H2.out.1, H2.out.2⟩

set_option maxHeartbeats 4000000 in
set_option maxRecDepth 100000 in
theorem ins_two9 {w0 w : World} {b : Nat} {C : Cd} {B : S65} {F : Fr} {p : Pt} {vl vs : Value} (h : RunAt w0 w b C B F p vl vs) (ok : OkF F) (i : S53) :
    Calls Tryd.prog 83 #[.pointer (some ⟨b, 0, none⟩), .agg #[.int .i64 i.f0, .int .i64 i.f1, .int .i64 i.f2, .int .i64 i.f3]] w (Outcome w0 w b C B p vl (twoF (fun a b => bitI (decide (a < b))) F)) := by
  have eg : ∀ args w, (callFunc 84 args).run Tryd.prog w = .ok (.enter 84 args) w := fun args w => by kernel_rfl
  have hdeep := ok.deep
  have hvals := ok.stk
  unfold twoF
  match hst : F.stk.reverse with
  | [] =>
    have hs0 : F.stk.length < 2 := by have := congrArg List.length hst; simp at this; simp [this]
    simp only
    go_enter Tryd.func83, Tryd.ntmps83
    go_upto_region 1 with (fail)
    refine nameW ?_
    intro w1 hw1
    obtain ⟨b0, hb, hsz⟩ := one_box hw1
    clear hw1
    have h1 := h.mono hb
    have K1 := Aside0.mk (Keeps.of_below hb)
    have H1 := Aside0.mk h1
    have hcall := two_none h1 hs0 84
    clear h h1 b0 hb hsz hs0 hst eg hdeep hvals
    go_wp2_with fail
    refine hcall.mono ?_
    rintro e w2 ⟨rfl, k2, hb2⟩
    exact ⟨rfl, rfl, K1.out.trans k2, hb2⟩
  | [y] =>
    have hs0 : F.stk.length < 2 := by have := congrArg List.length hst; simp at this; omega
    simp only
    go_enter Tryd.func83, Tryd.ntmps83
    go_upto_region 1 with (fail)
    refine nameW ?_
    intro w1 hw1
    obtain ⟨b0, hb, hsz⟩ := one_box hw1
    clear hw1
    have h1 := h.mono hb
    have K1 := Aside0.mk (Keeps.of_below hb)
    have H1 := Aside0.mk h1
    have hcall := two_none h1 hs0 84
    clear h h1 b0 hb hsz hs0 hst eg hdeep hvals
    go_wp2_with fail
    refine hcall.mono ?_
    rintro e w2 ⟨rfl, k2, hb2⟩
    exact ⟨rfl, rfl, K1.out.trans k2, hb2⟩
  | y :: x :: r =>
    have hs0 : F.stk = r.reverse ++ [x, y] := by have := congrArg List.reverse hst; simpa using this
    have hvx : isV x = true := hvals x (by rw [hs0]; simp)
    have hvy : isV y = true := hvals y (by rw [hs0]; simp)
    have hln : r.reverse.length < 100 := by rw [hs0] at hdeep; simp at hdeep ⊢; omega
    simp only
    go_enter Tryd.func83, Tryd.ntmps83
    go_upto_region 1 with (fail)
    refine nameW ?_
    intro w1 hw1
    obtain ⟨b0, hb, hsz⟩ := one_box hw1
    clear hw1
    have h1 := h.mono hb
    have K1 := Aside0.mk (Keeps.of_below hb)
    have H1 := Aside0.mk h1
    have hcall := two_some h1 r.reverse x y _ hs0 hln 84 eg (less_op x y) ok.pc0 ok.pc1 ok.sp0 ok.sp1
    clear h h1 b0 hb hsz hs0 hst eg hdeep hvals hvx hvy hln
    go_wp2_with fail
    refine hcall.mono ?_
    rintro e w2 ⟨rfl, k2, hr2⟩
    have H2 := Aside0.mk (And.intro (K1.out.trans k2) hr2)
    clear hcall k2 hr2
    go_wp2
    first | go_end0 | refine bodyPost_ret (results_none rfl _ _ _) rfl ?_
    exact ⟨rfl, H2.out.1, H2.out.2⟩

set_option maxHeartbeats 4000000 in
set_option maxRecDepth 100000 in
theorem ins_two10 {w0 w : World} {b : Nat} {C : Cd} {B : S65} {F : Fr} {p : Pt} {vl vs : Value} (h : RunAt w0 w b C B F p vl vs) (ok : OkF F) (i : S53) :
    Calls Tryd.prog 85 #[.pointer (some ⟨b, 0, none⟩), .agg #[.int .i64 i.f0, .int .i64 i.f1, .int .i64 i.f2, .int .i64 i.f3]] w (Outcome w0 w b C B p vl (twoF (fun a b => bitI (a == b)) F)) := by
  have eg : ∀ args w, (callFunc 86 args).run Tryd.prog w = .ok (.enter 86 args) w := fun args w => by kernel_rfl
  have hdeep := ok.deep
  have hvals := ok.stk
  unfold twoF
  match hst : F.stk.reverse with
  | [] =>
    have hs0 : F.stk.length < 2 := by have := congrArg List.length hst; simp at this; simp [this]
    simp only
    go_enter Tryd.func85, Tryd.ntmps85
    go_upto_region 1 with (fail)
    refine nameW ?_
    intro w1 hw1
    obtain ⟨b0, hb, hsz⟩ := one_box hw1
    clear hw1
    have h1 := h.mono hb
    have K1 := Aside0.mk (Keeps.of_below hb)
    have H1 := Aside0.mk h1
    have hcall := two_none h1 hs0 86
    clear h h1 b0 hb hsz hs0 hst eg hdeep hvals
    go_wp2_with fail
    refine hcall.mono ?_
    rintro e w2 ⟨rfl, k2, hb2⟩
    exact ⟨rfl, rfl, K1.out.trans k2, hb2⟩
  | [y] =>
    have hs0 : F.stk.length < 2 := by have := congrArg List.length hst; simp at this; omega
    simp only
    go_enter Tryd.func85, Tryd.ntmps85
    go_upto_region 1 with (fail)
    refine nameW ?_
    intro w1 hw1
    obtain ⟨b0, hb, hsz⟩ := one_box hw1
    clear hw1
    have h1 := h.mono hb
    have K1 := Aside0.mk (Keeps.of_below hb)
    have H1 := Aside0.mk h1
    have hcall := two_none h1 hs0 86
    clear h h1 b0 hb hsz hs0 hst eg hdeep hvals
    go_wp2_with fail
    refine hcall.mono ?_
    rintro e w2 ⟨rfl, k2, hb2⟩
    exact ⟨rfl, rfl, K1.out.trans k2, hb2⟩
  | y :: x :: r =>
    have hs0 : F.stk = r.reverse ++ [x, y] := by have := congrArg List.reverse hst; simpa using this
    have hvx : isV x = true := hvals x (by rw [hs0]; simp)
    have hvy : isV y = true := hvals y (by rw [hs0]; simp)
    have hln : r.reverse.length < 100 := by rw [hs0] at hdeep; simp at hdeep ⊢; omega
    simp only
    go_enter Tryd.func85, Tryd.ntmps85
    go_upto_region 1 with (fail)
    refine nameW ?_
    intro w1 hw1
    obtain ⟨b0, hb, hsz⟩ := one_box hw1
    clear hw1
    have h1 := h.mono hb
    have K1 := Aside0.mk (Keeps.of_below hb)
    have H1 := Aside0.mk h1
    have hcall := two_some h1 r.reverse x y _ hs0 hln 86 eg (eq_op x y) ok.pc0 ok.pc1 ok.sp0 ok.sp1
    clear h h1 b0 hb hsz hs0 hst eg hdeep hvals hvx hvy hln
    go_wp2_with fail
    refine hcall.mono ?_
    rintro e w2 ⟨rfl, k2, hr2⟩
    have H2 := Aside0.mk (And.intro (K1.out.trans k2) hr2)
    clear hcall k2 hr2
    go_wp2
    first | go_end0 | refine bodyPost_ret (results_none rfl _ _ _) rfl ?_
    exact ⟨rfl, H2.out.1, H2.out.2⟩

set_option maxHeartbeats 4000000 in
set_option maxRecDepth 100000 in
theorem ins_two17 {w0 w : World} {b : Nat} {C : Cd} {B : S65} {F : Fr} {p : Pt} {vl vs : Value} (h : RunAt w0 w b C B F p vl vs) (ok : OkF F) (i : S53) :
    Calls Tryd.prog 96 #[.pointer (some ⟨b, 0, none⟩), .agg #[.int .i64 i.f0, .int .i64 i.f1, .int .i64 i.f2, .int .i64 i.f3]] w (Outcome w0 w b C B p vl (twoF (fun a b => (a + b) / 2) F)) := by
  have eg : ∀ args w, (callFunc 97 args).run Tryd.prog w = .ok (.enter 97 args) w := fun args w => by kernel_rfl
  have hdeep := ok.deep
  have hvals := ok.stk
  unfold twoF
  match hst : F.stk.reverse with
  | [] =>
    have hs0 : F.stk.length < 2 := by have := congrArg List.length hst; simp at this; simp [this]
    simp only
    go_enter Tryd.func96, Tryd.ntmps96
    go_upto_region 1 with (fail)
    refine nameW ?_
    intro w1 hw1
    obtain ⟨b0, hb, hsz⟩ := one_box hw1
    clear hw1
    have h1 := h.mono hb
    have K1 := Aside0.mk (Keeps.of_below hb)
    have H1 := Aside0.mk h1
    have hcall := two_none h1 hs0 97
    clear h h1 b0 hb hsz hs0 hst eg hdeep hvals
    go_wp2_with fail
    refine hcall.mono ?_
    rintro e w2 ⟨rfl, k2, hb2⟩
    exact ⟨rfl, rfl, K1.out.trans k2, hb2⟩
  | [y] =>
    have hs0 : F.stk.length < 2 := by have := congrArg List.length hst; simp at this; omega
    simp only
    go_enter Tryd.func96, Tryd.ntmps96
    go_upto_region 1 with (fail)
    refine nameW ?_
    intro w1 hw1
    obtain ⟨b0, hb, hsz⟩ := one_box hw1
    clear hw1
    have h1 := h.mono hb
    have K1 := Aside0.mk (Keeps.of_below hb)
    have H1 := Aside0.mk h1
    have hcall := two_none h1 hs0 97
    clear h h1 b0 hb hsz hs0 hst eg hdeep hvals
    go_wp2_with fail
    refine hcall.mono ?_
    rintro e w2 ⟨rfl, k2, hb2⟩
    exact ⟨rfl, rfl, K1.out.trans k2, hb2⟩
  | y :: x :: r =>
    have hs0 : F.stk = r.reverse ++ [x, y] := by have := congrArg List.reverse hst; simpa using this
    have hvx : isV x = true := hvals x (by rw [hs0]; simp)
    have hvy : isV y = true := hvals y (by rw [hs0]; simp)
    have hln : r.reverse.length < 100 := by rw [hs0] at hdeep; simp at hdeep ⊢; omega
    simp only
    go_enter Tryd.func96, Tryd.ntmps96
    go_upto_region 1 with (fail)
    refine nameW ?_
    intro w1 hw1
    obtain ⟨b0, hb, hsz⟩ := one_box hw1
    clear hw1
    have h1 := h.mono hb
    have K1 := Aside0.mk (Keeps.of_below hb)
    have H1 := Aside0.mk h1
    have hcall := two_some h1 r.reverse x y _ hs0 hln 97 eg (half_op x y hvx hvy) ok.pc0 ok.pc1 ok.sp0 ok.sp1
    clear h h1 b0 hb hsz hs0 hst eg hdeep hvals hvx hvy hln
    go_wp2_with fail
    refine hcall.mono ?_
    rintro e w2 ⟨rfl, k2, hr2⟩
    have H2 := Aside0.mk (And.intro (K1.out.trans k2) hr2)
    clear hcall k2 hr2
    go_wp2
    first | go_end0 | refine bodyPost_ret (results_none rfl _ _ _) rfl ?_
    exact ⟨rfl, H2.out.1, H2.out.2⟩

set_option maxHeartbeats 4000000 in
set_option maxRecDepth 100000 in
theorem ins_sync {w0 w : World} {b : Nat} {C : Cd} {B : S65} {F : Fr} {p : Pt} {vl vs : Value} (h : RunAt w0 w b C B F p vl vs) (ok : OkF F) (i : S53) :
    Calls Tryd.prog 90 #[.pointer (some ⟨b, 0, none⟩), .agg #[.int .i64 i.f0, .int .i64 i.f1, .int .i64 i.f2, .int .i64 i.f3]] w (Outcome w0 w b C B p vl (iSync F)) := by
  unfold iSync
  by_cases hkk : 0 < F.kids.length
  · rw [if_pos hkk]
    have hd : decide (0 < F.kids.length) = true := decide_eq_true (by omega)
    clear hkk
    go_enter Tryd.func90, Tryd.ntmps90
    go_upto_region 1 with (fail)
    refine nameW ?_
    intro w1 hw1
    obtain ⟨b0, hb, hsz⟩ := one_box hw1
    clear hw1
    have h1 := h.mono hb
    have K1 := Aside0.mk (Keeps.of_below hb)
    have H1 := Aside0.mk h1
    have q := blk_cells h1.blk
    unfold cellsOf at q
    have hs := sync_call h1
    clear h h1 b0 hb hsz
    go_wp2_with fail
    refine hs.mono ?_
    rintro e w3 hd
    have HD := Aside0.mk (Asked.pre K1.out hd)
    obtain ⟨rfl, _, _⟩ := hd
    clear hs q
    go_wp2
    first | go_end0 | refine bodyPost_ret (results_none rfl _ _ _) rfl ?_
    exact HD.out
  · rw [if_neg hkk]
    have hd : decide (0 < F.kids.length) = false := decide_eq_false (by omega)
    clear hkk
    go_enter Tryd.func90, Tryd.ntmps90
    go_upto_region 1 with (fail)
    refine nameW ?_
    intro w1 hw1
    obtain ⟨b0, hb, hsz⟩ := one_box hw1
    clear hw1
    have h1 := h.mono hb
    have K1 := Aside0.mk (Keeps.of_below hb)
    have H1 := Aside0.mk h1
    have q := blk_cells h1.blk
    unfold cellsOf at q
    have hpa := ok.pass h1 rfl rfl
    clear h b0 hb hsz h1
    go_wp2_with fail
    refine hpa.mono ?_
    rintro e w9 ⟨rfl, k9, hr9⟩
    have H9 := Aside0.mk (And.intro (K1.out.trans k9) hr9)
    clear hpa k9 hr9
    go_wp2
    first | go_end0 | refine bodyPost_ret (results_none rfl _ _ _) rfl ?_
    exact ⟨rfl, H9.out.1, H9.out.2⟩

set_option maxHeartbeats 4000000 in
set_option maxRecDepth 100000 in
theorem ins_jump {w0 w : World} {b : Nat} {C : Cd} {B : S65} {F : Fr} {p : Pt} {vl vs : Value} (h : RunAt w0 w b C B F p vl vs) (ok : OkF F) (i : S53) :
    Calls Tryd.prog 91 #[.pointer (some ⟨b, 0, none⟩), .agg #[.int .i64 i.f0, .int .i64 i.f1, .int .i64 i.f2, .int .i64 i.f3]] w (Outcome w0 w b C B p vl (iJump B i F)) := by
  unfold iJump jumpF
  by_cases hx : 0 ≤ i.f1 ∧ i.f1 < (B.f2.length : Int)
  · rw [if_pos hx]
    go_enter Tryd.func91, Tryd.ntmps91
    go_upto_region 1 with (fail)
    refine nameW ?_
    intro w1 hw1
    obtain ⟨b0, hb, hsz⟩ := one_box hw1
    clear hw1
    have h1 := h.mono hb
    have K1 := Aside0.mk (Keeps.of_below hb)
    have H1 := Aside0.mk h1
    have q0 := blk_cells b0
    have hj := jump_some h1 i.f1 hx ok.sp0 ok.sp1
    clear h h1 b0 hb hsz hx
    go_wp2_with fail
    refine hj.mono ?_
    rintro e w2 ⟨rfl, k2, hr2⟩
    have H2 := Aside0.mk (And.intro (K1.out.trans k2) hr2)
    clear hj k2 hr2 q0
    go_wp2
    first | go_end0 | refine bodyPost_ret (results_none rfl _ _ _) rfl ?_
    exact ⟨rfl, H2.out.1, H2.out.2⟩
  · rw [if_neg hx]
    go_enter Tryd.func91, Tryd.ntmps91
    go_upto_region 1 with (fail)
    refine nameW ?_
    intro w1 hw1
    obtain ⟨b0, hb, hsz⟩ := one_box hw1
    clear hw1
    have h1 := h.mono hb
    have K1 := Aside0.mk (Keeps.of_below hb)
    have H1 := Aside0.mk h1
    have q0 := blk_cells b0
    have hj := jump_none h1 i.f1 hx
    clear h h1 b0 hb hsz hx
    go_wp2_with fail
    refine hj.mono ?_
    rintro e w2 ⟨rfl, k2, hb2⟩
    exact ⟨rfl, rfl, K1.out.trans k2, hb2⟩

set_option maxHeartbeats 4000000 in
set_option maxRecDepth 100000 in
theorem ins_assert {w0 w : World} {b : Nat} {C : Cd} {B : S65} {F : Fr} {p : Pt} {vl vs : Value} (h : RunAt w0 w b C B F p vl vs) (ok : OkF F) (i : S53) :
    Calls Tryd.prog 95 #[.pointer (some ⟨b, 0, none⟩), .agg #[.int .i64 i.f0, .int .i64 i.f1, .int .i64 i.f2, .int .i64 i.f3]] w (Outcome w0 w b C B p vl (iAssert F)) := by
  unfold iAssert
  unfold popF
  cases hst : F.stk.reverse with
  | nil =>
    have hs0 : F.stk = [] := by simpa using hst
    simp only
    go_enter Tryd.func95, Tryd.ntmps95
    go_upto_region 1 with (fail)
    refine nameW ?_
    intro w1 hw1
    obtain ⟨b0, hb, hsz⟩ := one_box hw1
    clear hw1
    have h1 := h.mono hb
    have K1 := Aside0.mk (Keeps.of_below hb)
    have H1 := Aside0.mk h1
    have hpop := pop_none h1 hs0
    clear h h1 b0 hb hsz hs0 hst
    go_wp2_with fail
    refine hpop.mono ?_
    rintro e w2 ⟨rfl, k2, hb2⟩
    exact ⟨rfl, rfl, K1.out.trans k2, hb2⟩
  | cons x r =>
    have hs0 : F.stk = r.reverse ++ [x] := by have := congrArg List.reverse hst; simpa using this
    simp only
    by_cases hx0 : x = 0
    · subst hx0
      go_enter Tryd.func95, Tryd.ntmps95
      go_upto_region 1 with (fail)
      refine nameW ?_
      intro w1 hw1
      obtain ⟨b0, hb, hsz⟩ := one_box hw1
      clear hw1
      have h1 := h.mono hb
      have K1 := Aside0.mk (Keeps.of_below hb)
      have H1 := Aside0.mk h1
      have hpop := pop_some h1 r.reverse 0 hs0
      clear h h1 b0 hb hsz hs0 hst
      go_wp2_with fail
      refine hpop.mono ?_
      rintro e w2 ⟨rfl, k2, vs2, h2⟩
      have h3 := h2.setF 18 (.bool true) { F with stk := r.reverse, fail := F.fail || ((0 : Int) == 0) } (by simp; rfl) rfl rfl
      have K2 := Aside0.mk (K1.out.trans (k2.set_ h2.blk (.inl rfl) 18 (.bool true)))
      have q := blk_cells h2.blk
      unfold cellsOf at q
      have qf : ∀ i, w2.frozen? ⟨b, i, none⟩ = false := blk_frozen h2.blk
      have hpa := ok.pass h3 rfl rfl
      clear hpop h2 h3 k2
      go_wp2_with fail
      refine hpa.mono ?_
      rintro e w9 ⟨rfl, k9, hr9⟩
      have H9 := Aside0.mk (And.intro (K2.out.trans k9) hr9)
      clear hpa k9 hr9
      go_wp2
      first | go_end0 | refine bodyPost_ret (results_none rfl _ _ _) rfl ?_
      exact ⟨rfl, H9.out.1, H9.out.2⟩
    · have e0 : (x == 0) = false := beq_eq_false_iff_ne.2 hx0
      have HE : Aside0 ((F.fail || (x == 0)) = F.fail) := ⟨by rw [e0]; simp⟩
      rw [HE.out]
      clear hx0
      go_enter Tryd.func95, Tryd.ntmps95
      go_upto_region 1 with (fail)
      refine nameW ?_
      intro w1 hw1
      obtain ⟨b0, hb, hsz⟩ := one_box hw1
      clear hw1
      have h1 := h.mono hb
      have K1 := Aside0.mk (Keeps.of_below hb)
      have H1 := Aside0.mk h1
      have hpop := pop_some h1 r.reverse x hs0
      clear h h1 b0 hb hsz hs0 hst
      go_wp2_with fail
      refine hpop.mono ?_
      rintro e w2 ⟨rfl, k2, vs2, h2⟩
      have K2 := Aside0.mk (K1.out.trans k2)
      have hpa := ok.pass h2 rfl rfl
      clear hpop h2 k2
      go_wp2_with fail
      refine hpa.mono ?_
      rintro e w9 ⟨rfl, k9, hr9⟩
      have H9 := Aside0.mk (And.intro (K2.out.trans k9) hr9)
      clear hpa k9 hr9
      go_wp2
      first | go_end0 | refine bodyPost_ret (results_none rfl _ _ _) rfl ?_
      exact ⟨rfl, H9.out.1, H9.out.2⟩

set_option maxHeartbeats 4000000 in
set_option maxRecDepth 100000 in
theorem ins_return {w0 w : World} {b : Nat} {C : Cd} {B : S65} {F : Fr} {p : Pt} {vl vs : Value} (h : RunAt w0 w b C B F p vl vs) (ok : OkF F) (i : S53) :
    Calls Tryd.prog 94 #[.pointer (some ⟨b, 0, none⟩), .agg #[.int .i64 i.f0, .int .i64 i.f1, .int .i64 i.f2, .int .i64 i.f3]] w (Outcome w0 w b C B p vl (iReturn F)) := by
  unfold iReturn
  by_cases hkk : 0 < F.kids.length
  · rw [if_pos hkk]
    have hd : decide (0 < F.kids.length) = true := decide_eq_true (by omega)
    clear hkk
    go_enter Tryd.func94, Tryd.ntmps94
    go_upto_region 1 with (fail)
    refine nameW ?_
    intro w1 hw1
    obtain ⟨b0, hb, hsz⟩ := one_box hw1
    clear hw1
    have h1 := h.mono hb
    have K1 := Aside0.mk (Keeps.of_below hb)
    have H1 := Aside0.mk h1
    have q := blk_cells h1.blk
    unfold cellsOf at q
    have hs := sync_call h1
    clear h h1 b0 hb hsz
    go_wp2_with fail
    refine hs.mono ?_
    rintro e w3 hd
    have HD := Aside0.mk (Asked.pre K1.out hd)
    obtain ⟨rfl, _, _⟩ := hd
    clear hs q
    go_wp2
    first | go_end0 | refine bodyPost_ret (results_none rfl _ _ _) rfl ?_
    exact HD.out
  · rw [if_neg hkk]
    have hd : decide (0 < F.kids.length) = false := decide_eq_false (by omega)
    clear hkk
    unfold popF
    cases hst : F.stk.reverse with
    | nil =>
      have hs0 : F.stk = [] := by simpa using hst
      simp only
      go_enter Tryd.func94, Tryd.ntmps94
      go_upto_region 1 with (fail)
      refine nameW ?_
      intro w1 hw1
      obtain ⟨b0, hb, hsz⟩ := one_box hw1
      clear hw1
      have h1 := h.mono hb
      have K1 := Aside0.mk (Keeps.of_below hb)
      have H1 := Aside0.mk h1
      have q := blk_cells h1.blk
      unfold cellsOf at q
      have hpop := pop_none h1 hs0
      clear h h1 b0 hb hsz hs0 hst
      go_wp2_with fail
      refine hpop.mono ?_
      rintro e w2 ⟨rfl, k2, hb2⟩
      exact ⟨rfl, rfl, K1.out.trans k2, hb2⟩
    | cons x r =>
      have hs0 : F.stk = r.reverse ++ [x] := by have := congrArg List.reverse hst; simpa using this
      simp only
      go_enter Tryd.func94, Tryd.ntmps94
      go_upto_region 1 with (fail)
      refine nameW ?_
      intro w1 hw1
      obtain ⟨b0, hb, hsz⟩ := one_box hw1
      clear hw1
      have h1 := h.mono hb
      have K1 := Aside0.mk (Keeps.of_below hb)
      have H1 := Aside0.mk h1
      have q := blk_cells h1.blk
      unfold cellsOf at q
      have hpop := pop_some h1 r.reverse x hs0
      clear h h1 b0 hb hsz hs0 hst
      go_wp2_with fail
      refine hpop.mono ?_
      rintro e w2 ⟨rfl, k2, vs2, h2⟩
      have K2 := Aside0.mk (K1.out.trans k2)
      have hpa := ok.pass h2 rfl rfl
      clear hpop h2 k2 q hd
      go_wp2_with fail
      refine hpa.mono ?_
      rintro e w8 ⟨rfl, k8, vs8, h8⟩
      have K8 := Aside0.mk (K2.out.trans k8)
      have hen := end_call h8 { noAk with kind := 6, a := x } none 0 w0.heap.size (Kd.R_nil _ _ _ _ _)
      clear hpa h8 k8
      go_wp2_with fail
      refine hen.mono ?_
      rintro e w9 hd
      have HD := Aside0.mk (Asked.pre K8.out hd)
      obtain ⟨rfl, _, _⟩ := hd
      clear hen
      go_wp2
      first | go_end0 | refine bodyPost_ret (results_none rfl _ _ _) rfl ?_
      exact HD.out


end Go.Proofs.YtfcgjadfhojogaaDoor.Vm
