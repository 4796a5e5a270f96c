/- The instructions of package vm: what each does to a frame, as plain functions, and their contracts. -/
import Derived.Test.YtfcgjadfhojogaaDoorVmF
namespace Go.Proofs.YtfcgjadfhojogaaDoor.Vm
open Go.RowKit Go.Proofs.YtfcgjadfhojogaaDoorW.PrintWords Go.Proofs.YtfcgjadfhojogaaDoorW.PrintLast Go.Proofs.YtfcgjadfhojogaaDoorW.PrintMore Go.Proofs.YtfcgjadfhojogaaDoor.PVmStarts
set_option linter.unusedVariables false
set_option linter.unusedSimpArgs false

/-- What becomes of a frame: it goes on, it asks, or it falls. -/
inductive St where
  | go (F : Fr)
  | ask (F : Fr) (K : Ak)
  | err (e : Int)
def passF (F : Fr) : Fr := { F with pc := F.pc + 1, spent := F.spent + 1 }
def pushF (x : Int) (F : Fr) : St := if F.stk.length < 100 then .go (passF { F with stk := F.stk ++ [x] }) else .err 1
def popF (F : Fr) (k : Int → Fr → St) : St :=
  match F.stk.reverse with
  | [] => .err 1
  | x :: r => k x { F with stk := r.reverse }
def jumpF (B : S65) (x : Int) (F : Fr) : St := if 0 ≤ x ∧ x < (B.f2.length : Int) then .go { F with pc := x, spent := F.spent + 1 } else .err 1
def twoF (f : Int → Int → Int) (F : Fr) : St :=
  match F.stk.reverse with
  | y :: x :: r => .go (passF { F with stk := r.reverse ++ [f x y] })
  | _ => .err 1
def syncK : Ak := { noAk with kind := 5 }
def keyI (k : Int) : Int := k % 65536
def objs (C : Cd) (k : Int) : Int × Int :=
  if k = 2 then (C.maps, 2) else if k = 1 then (C.maps, 1) else if k = 3 then (C.maps, 1) else if k = 4 then (C.stacks, 1) else if k = 5 then (C.stacks, 0) else if k = 6 then (C.chans, 1) else if k = 7 then (C.chans, 0) else (0, 0)
def popsF (n : Nat) (F : Fr) (k : List Int → Fr → St) : St :=
  if n ≤ F.stk.length then k (F.stk.drop (F.stk.length - n)) { F with stk := F.stk.take (F.stk.length - n) } else .err 1

def iPush (i : S53) (F : Fr) : St := if isV i.f1 = true then pushF i.f1 F else .err 1
def iLocal (i : S53) (F : Fr) : St :=
  if 0 ≤ i.f1 ∧ i.f1 < (F.loc.length : Int) then (if F.kids.any (isDst i.f1) = true then .ask F syncK else pushF (rd F.loc i.f1) F) else .err 1
def iSet (i : S53) (F : Fr) : St :=
  if 0 ≤ i.f1 ∧ i.f1 < (F.loc.length : Int) then (if F.kids.any (isDst i.f1) = true then .ask F syncK else popF F fun x F1 => .go (passF { F1 with loc := F1.loc.set i.f1.toNat x })) else .err 1
def iLoad (C : Cd) (i : S53) (F : Fr) : St := if 0 ≤ i.f1 ∧ i.f1 < (C.cells.length : Int) then .ask (passF F) { noAk with kind := 1, a := i.f1 } else .err 1
def iStore (C : Cd) (i : S53) (F : Fr) : St := if 0 ≤ i.f1 ∧ i.f1 < (C.cells.length : Int) then popF F fun x F1 => .ask (passF F1) { noAk with kind := 2, a := i.f1, b := x } else .err 1
def iCall (C : Cd) (i : S53) (F : Fr) : St :=
  if 0 ≤ i.f2 ∧ i.f2 < (objs C i.f1).1 ∧ i.f3 = (objs C i.f1).2 then
    popsF (objs C i.f1).2.toNat F fun l F1 => .ask (passF F1) { noAk with kind := 3, okind := i.f1, oobj := i.f2, oa := (if i.f1 ≤ 3 then keyI (rd (l ++ [0, 0]) 0) else rd (l ++ [0, 0]) 0), ob := rd (l ++ [0, 0]) 1 }
  else .err 1
def iDrop (F : Fr) : St := popF F fun _ F1 => .go (passF F1)
def iSpawn (C : Cd) (i : S53) (F : Fr) : St :=
  if 0 ≤ i.f1 ∧ i.f1 < (C.funs.length : Int) ∧ -1 ≤ i.f3 ∧ i.f3 < (F.loc.length : Int) ∧ i.f2 = (rd_T65 C.funs i.f1).f0 ∧ 0 ≤ i.f2 then
    popsF i.f2.toNat F fun l F1 => .ask (passF F1) { noAk with kind := 4, a := i.f1, b := i.f3, args := l }
  else .err 1
def iSync (F : Fr) : St := if 0 < F.kids.length then .ask F syncK else .go (passF F)
def iJump (B : S65) (i : S53) (F : Fr) : St := jumpF B i.f1 F
def iZero (B : S65) (i : S53) (F : Fr) : St :=
  popF F fun x F1 => if x = 0 then jumpF B i.f1 F1 else if 0 ≤ i.f1 ∧ i.f1 < (B.f2.length : Int) then .go (passF F1) else .err 1
def iReturn (F : Fr) : St := if 0 < F.kids.length then .ask F syncK else popF F fun x F1 => .ask (passF F1) { noAk with kind := 6, a := x }
def iAssert (F : Fr) : St := popF F fun x F1 => .go (passF { F1 with fail := F1.fail || (x == 0) })

/-- What is known of a frame at work. -/
structure OkF (F : Fr) : Prop where
  pc0 : 0 ≤ F.pc
  pc1 : F.pc < 9223372036854775807
  sp0 : 0 ≤ F.spent
  sp1 : F.spent < 9223372036854775807
  deep : F.stk.length ≤ 100
  stk : ∀ x, x ∈ F.stk → isV x = true

def Outcome (w0 w : World) (b : Nat) (C : Cd) (B : S65) (p : Pt) (vl : Value) : St → Ending → World → Prop
  | .go F => Gave (.tuple #[]) w0 w b C B F p vl
  | .ask F K => Asked w0 w b C B F K p vl
  | .err x => Fell x w0 w

theorem objects_call {w0 w : World} {b : Nat} {C : Cd} {B : S65} {F : Fr} {p : Pt} {vl vs : Value} (h : RunAt w0 w b C B F p vl vs) (k : Int) :
    Calls Tryd.prog 100 #[.pointer (some ⟨b, 0, none⟩), .int .i64 k] w fun e w' => e = .returned (.tuple #[.int .i64 (objs C k).1, .int .i64 (objs C k).2]) ∧ w' = w := by
  have q := blk_cells h.blk
  unfold cellsOf at q
  clear h
  unfold objs
  by_cases k2 : k = 2
  · subst k2
    go_enter Tryd.func100, Tryd.ntmps100
    go_wp2
    go_ret2
    exact ⟨rfl, rfl⟩
  by_cases k1 : k = 1
  · subst k1
    go_enter Tryd.func100, Tryd.ntmps100
    go_wp2
    go_ret2
    exact ⟨rfl, rfl⟩
  by_cases k3 : k = 3
  · subst k3
    go_enter Tryd.func100, Tryd.ntmps100
    go_wp2
    go_ret2
    exact ⟨rfl, rfl⟩
  by_cases k4 : k = 4
  · subst k4
    go_enter Tryd.func100, Tryd.ntmps100
    go_wp2
    go_ret2
    exact ⟨rfl, rfl⟩
  by_cases k5 : k = 5
  · subst k5
    go_enter Tryd.func100, Tryd.ntmps100
    go_wp2
    go_ret2
    exact ⟨rfl, rfl⟩
  by_cases k6 : k = 6
  · subst k6
    go_enter Tryd.func100, Tryd.ntmps100
    go_wp2
    go_ret2
    exact ⟨rfl, rfl⟩
  by_cases k7 : k = 7
  · subst k7
    go_enter Tryd.func100, Tryd.ntmps100
    go_wp2
    go_ret2
    exact ⟨rfl, rfl⟩
  have e1 : (k == 1) = false := beq_eq_false_iff_ne.2 k1
  have e2 : (k == 2) = false := beq_eq_false_iff_ne.2 k2
  have e3 : (k == 3) = false := beq_eq_false_iff_ne.2 k3
  have e4 : (k == 4) = false := beq_eq_false_iff_ne.2 k4
  have e5 : (k == 5) = false := beq_eq_false_iff_ne.2 k5
  have e6 : (k == 6) = false := beq_eq_false_iff_ne.2 k6
  have e7 : (k == 7) = false := beq_eq_false_iff_ne.2 k7
  have HE : Aside0 ((if k = 2 then (C.maps, (2 : Int)) else if k = 1 then (C.maps, 1) else if k = 3 then (C.maps, 1) else if k = 4 then (C.stacks, 1) else if k = 5 then (C.stacks, 0) else if k = 6 then (C.chans, 1) else if k = 7 then (C.chans, 0) else (0, 0)) = ((0 : Int), (0 : Int))) := ⟨by rw [if_neg k2, if_neg k1, if_neg k3, if_neg k4, if_neg k5, if_neg k6, if_neg k7]⟩
  rw [HE.out]
  clear k1 k2 k3 k4 k5 k6 k7
  go_enter Tryd.func100, Tryd.ntmps100
  go_wp2
  go_ret2
  exact ⟨rfl, rfl⟩


theorem Gave.pre {v : Value} {w0 w w1 : World} {b : Nat} {C : Cd} {B : S65} {F : Fr} {p : Pt} {vl : Value} {e : Ending} {w' : World} (k : Keeps w w1) (h : Gave v w0 w1 b C B F p vl e w') : Gave v w0 w b C B F p vl e w' := ⟨h.1, k.trans h.2.1, h.2.2⟩
theorem Fell.pre {x : Int} {w0 w w1 : World} {e : Ending} {w' : World} (k : Keeps w w1) (h : Fell x w0 w1 e w') : Fell x w0 w e w' := ⟨h.1, k.trans h.2.1, h.2.2⟩
theorem Asked.pre {w0 w w1 : World} {b : Nat} {C : Cd} {B : S65} {F : Fr} {K : Ak} {p : Pt} {vl : Value} {e : Ending} {w' : World} (k : Keeps w w1) (h : Asked w0 w1 b C B F K p vl e w') : Asked w0 w b C B F K p vl e w' := ⟨h.1, k.trans h.2.1, h.2.2⟩
theorem Outcome.pre {w0 w w1 : World} {b : Nat} {C : Cd} {B : S65} {p : Pt} {vl : Value} {s : St} {e : Ending} {w' : World} (k : Keeps w w1) (h : Outcome w0 w1 b C B p vl s e w') : Outcome w0 w b C B p vl s e w' := by
  cases s with
  | go F => exact Gave.pre k h
  | ask F K => exact Asked.pre k h
  | err x => exact Fell.pre k h
theorem OkF.pass {w0 w : World} {b : Nat} {C : Cd} {B : S65} {F F' : Fr} {p : Pt} {vl vs : Value} (h : RunAt w0 w b C B F' p vl vs) (ok : OkF F) (e1 : F'.pc = F.pc) (e2 : F'.spent = F.spent) :
    Calls Tryd.prog 64 #[.pointer (some ⟨b, 0, none⟩)] w (Gave (.tuple #[]) w0 w b C B (passF F') p vl) :=
  pass_call h (by rw [e1]; exact ok.pc0) (by rw [e1]; exact ok.pc1) (by rw [e2]; exact ok.sp0) (by rw [e2]; exact ok.sp1)

set_option maxHeartbeats 4000000 in
set_option maxRecDepth 100000 in
theorem ins_push {w0 w : World} {b : Nat} {C : Cd} {B : S65} {F : Fr} {p : Pt} {vl vs : Value} (h : RunAt w0 w b C B F p vl vs) (ok : OkF F) (i : S53) :
    Calls Tryd.prog 66 #[.pointer (some ⟨b, 0, none⟩), .agg #[.int .i64 i.f0, .int .i64 i.f1, .int .i64 i.f2, .int .i64 i.f3]] w (Outcome w0 w b C B p vl (iPush i F)) := by
  unfold iPush pushF
  have hv := isV_call i.f1
  cases hb : isV i.f1 with
  | false =>
    simp only [Bool.false_eq_true, if_false]
    rw [hb] at hv
    clear hb
    go_enter Tryd.func66, Tryd.ntmps66
    go_upto_region 1 with (fail)
    refine nameW ?_
    intro w1 hw1
    obtain ⟨b0, hb, hsz⟩ := one_box hw1
    clear hw1
    have h1 := h.mono hb
    have K1 := Aside0.mk (Keeps.of_below hb)
    have H1 := Aside0.mk h1
    have hcall := hv w1
    have hmf := must_false 1 w1
    have q0 := blk_cells b0
    clear hv h h1 b0 hb hsz
    go_wp2_with (first | ((with_reducible refine hcall.mono ?_); rintro e w' ⟨rfl, rfl⟩) | ((with_reducible refine hmf.mono ?_); rintro e w' ⟨rfl, rfl⟩))
    exact ⟨rfl, rfl, K1.out, H1.out.below⟩
  | true =>
    simp only [if_true]
    rw [hb] at hv
    clear hb
    by_cases hl : F.stk.length < 100
    · rw [if_pos hl]
      go_enter Tryd.func66, Tryd.ntmps66
      go_upto_region 1 with (fail)
      refine nameW ?_
      intro w1 hw1
      obtain ⟨b0, hb, hsz⟩ := one_box hw1
      clear hw1
      have h1 := h.mono hb
      have K1 := Aside0.mk (Keeps.of_below hb)
      have H1 := Aside0.mk h1
      have hcall := hv w1
      have hmf := must_true 1 w1
      have hpu := push_some i.f1 h1 hl
      have q0 := blk_cells b0
      clear hv h h1 b0 hb hsz
      go_wp2_with (first | ((with_reducible refine hcall.mono ?_); rintro e w' ⟨rfl, rfl⟩) | ((with_reducible refine hmf.mono ?_); rintro e w' ⟨rfl, rfl⟩) | ((with_reducible refine hpu.mono ?_); rintro e w2 ⟨rfl, k2, vs2, h2⟩))
      have hpa := ok.pass h2 rfl rfl
      refine hpa.mono ?_
      rintro e w3 ⟨rfl, k3, hr3⟩
      have H3 := Aside0.mk (And.intro (K1.out.trans (k2.trans k3)) hr3)
      clear hpa h2 k2 k3 hr3 q0 hmf hpu hcall
      go_wp2
      go_end0
      exact ⟨rfl, H3.out.1, H3.out.2⟩
    · rw [if_neg hl]
      go_enter Tryd.func66, Tryd.ntmps66
      go_upto_region 1 with (fail)
      refine nameW ?_
      intro w1 hw1
      obtain ⟨b0, hb, hsz⟩ := one_box hw1
      clear hw1
      have h1 := h.mono hb
      have K1 := Aside0.mk (Keeps.of_below hb)
      have H1 := Aside0.mk h1
      have hcall := hv w1
      have hmf := must_true 1 w1
      have hpu := push_full i.f1 h1 hl
      have q0 := blk_cells b0
      clear hv h h1 b0 hb hsz
      go_wp2_with (first | ((with_reducible refine hcall.mono ?_); rintro e w' ⟨rfl, rfl⟩) | ((with_reducible refine hmf.mono ?_); rintro e w' ⟨rfl, rfl⟩) | ((with_reducible refine hpu.mono ?_); rintro e w2 ⟨rfl, k2, hb2⟩))
      exact ⟨rfl, rfl, K1.out.trans k2, hb2⟩


set_option maxHeartbeats 4000000 in
set_option maxRecDepth 100000 in
theorem ins_local {w0 w : World} {b : Nat} {C : Cd} {B : S65} {F : Fr} {p : Pt} {vl vs : Value} (h : RunAt w0 w b C B F p vl vs) (ok : OkF F) (i : S53) (hk : k74.C w0 p.Ak F.kids.length F.kids) :
    Calls Tryd.prog 68 #[.pointer (some ⟨b, 0, none⟩), .agg #[.int .i64 i.f0, .int .i64 i.f1, .int .i64 i.f2, .int .i64 i.f3]] w (Outcome w0 w b C B p vl (iLocal i F)) := by
  unfold iLocal
  by_cases hx : ¬ (0 ≤ i.f1 ∧ i.f1 < (F.loc.length : Int))
  · rw [if_neg hx]
    go_enter Tryd.func68, Tryd.ntmps68
    go_upto_region 1 with (fail)
    refine nameW ?_
    intro w1 hw1
    obtain ⟨b0, hb, hsz⟩ := one_box hw1
    clear hw1
    have h1 := h.mono hb
    have K1 := Aside0.mk (Keeps.of_below hb)
    have H1 := Aside0.mk h1
    have hcall := waits_none h1 i.f1 hx
    have q0 := blk_cells b0
    clear h h1 b0 hb hsz hx
    go_wp2_with fail
    refine hcall.mono ?_
    rintro e w2 ⟨rfl, k2, hb2⟩
    exact ⟨rfl, rfl, K1.out.trans k2, hb2⟩
  have hx := Decidable.not_not.1 hx
  rw [if_pos hx]
  cases ha : F.kids.any (isDst i.f1) with
  | true =>
    simp only [if_true]
    go_enter Tryd.func68, Tryd.ntmps68
    go_upto_region 1 with (fail)
    refine nameW ?_
    intro w1 hw1
    obtain ⟨b0, hb, hsz⟩ := one_box hw1
    clear hw1
    have h1 := h.mono hb
    have K1 := Aside0.mk (Keeps.of_below hb)
    have H1 := Aside0.mk h1
    have hcall := waits_some h1 hk i.f1 hx
    rw [ha] at hcall
    have q0 := blk_cells b0
    clear h h1 b0 hb hsz hx ha
    go_wp2_with fail
    refine hcall.mono ?_
    rintro e w2 ⟨rfl, k2, vs2, h2⟩
    have hs := sync_call h2
    clear hcall h2
    go_wp2_with fail
    refine hs.mono ?_
    rintro e w3 hd
    have HD := Aside0.mk (Asked.pre (K1.out.trans k2) hd)
    obtain ⟨rfl, _, _⟩ := hd
    clear hs k2
    go_wp2
    first | go_end0 | refine bodyPost_ret (results_none rfl _ _ _) rfl ?_
    exact HD.out
  | false =>
    simp only [Bool.false_eq_true, if_false]
    unfold pushF
    by_cases hl : F.stk.length < 100
    · rw [if_pos hl]
      go_enter Tryd.func68, Tryd.ntmps68
      go_upto_region 1 with (fail)
      refine nameW ?_
      intro w1 hw1
      obtain ⟨b0, hb, hsz⟩ := one_box hw1
      clear hw1
      have h1 := h.mono hb
      have K1 := Aside0.mk (Keeps.of_below hb)
      have H1 := Aside0.mk h1
      have hcall := waits_some h1 hk i.f1 hx
      rw [ha] at hcall
      have B0 := Aside0.mk b0
      have q0 := blk_cells b0
      clear h h1 b0 hb hsz ha
      obtain ⟨x0, x1⟩ := hx
      go_wp2_with fail
      refine hcall.mono ?_
      rintro e w2 ⟨rfl, k2, vs2, h2⟩
      clear q0
      have q0 := blk_cells (k2.blk _ _ _ B0.out (by decide) (by decide))
      have q := blk_cells h2.blk
      obtain ⟨A, c, rfl, hc, hr⟩ := Kd.R_reads h2.loc
      obtain ⟨ad, rfl, hc0⟩ := Kd.at_int hr i.f1 x0 x1
      unfold cellsOf at q
      have hpu := push_some (rd F.loc i.f1) h2.drew hl
      have K2 := Aside0.mk (K1.out.trans (k2.trans (Keeps.of_below (below_drew (Below.refl _ _)))))
      generalize rd F.loc i.f1 = y at *
      clear hcall h2 k2 hr hc
      go_upto_region 3 with (fail)
      refine still_tail 10 (by kernel_rfl) (by kernel_rfl) ?_
      intro S hS hS0
      simp only [List.take_succ_cons, List.take_zero, List.drop_succ_cons, List.drop_zero] at hS0 ⊢
      repeat (refine hS _ _ _ (fun K hK => ?_); go_simp; refine hK _ ?_; clear hK K)
      refine hS0 _ ?_
      clear hS hS0 S
      clear q q0 hc0
      go_wp2_with fail
      refine hpu.mono ?_
      rintro e w3 ⟨rfl, k3, vs3, h3⟩
      have hpa := ok.pass h3 rfl rfl
      clear hpu h3
      go_wp2_with fail
      refine hpa.mono ?_
      rintro e w4 ⟨rfl, k4, hr4⟩
      have H4 := Aside0.mk (And.intro (K2.out.trans (k3.trans k4)) hr4)
      clear hpa k3 k4 hr4
      go_wp2
      go_end0
      exact ⟨rfl, H4.out.1, H4.out.2⟩
    · rw [if_neg hl]
      go_enter Tryd.func68, Tryd.ntmps68
      go_upto_region 1 with (fail)
      refine nameW ?_
      intro w1 hw1
      obtain ⟨b0, hb, hsz⟩ := one_box hw1
      clear hw1
      have h1 := h.mono hb
      have K1 := Aside0.mk (Keeps.of_below hb)
      have H1 := Aside0.mk h1
      have hcall := waits_some h1 hk i.f1 hx
      rw [ha] at hcall
      have B0 := Aside0.mk b0
      have q0 := blk_cells b0
      clear h h1 b0 hb hsz ha
      obtain ⟨x0, x1⟩ := hx
      go_wp2_with fail
      refine hcall.mono ?_
      rintro e w2 ⟨rfl, k2, vs2, h2⟩
      clear q0
      have q0 := blk_cells (k2.blk _ _ _ B0.out (by decide) (by decide))
      have q := blk_cells h2.blk
      obtain ⟨A, c, rfl, hc, hr⟩ := Kd.R_reads h2.loc
      obtain ⟨ad, rfl, hc0⟩ := Kd.at_int hr i.f1 x0 x1
      unfold cellsOf at q
      have hpu := push_full (rd F.loc i.f1) h2.drew hl
      have K2 := Aside0.mk (K1.out.trans (k2.trans (Keeps.of_below (below_drew (Below.refl _ _)))))
      generalize rd F.loc i.f1 = y at *
      clear hcall h2 k2 hr hc
      go_upto_region 3 with (fail)
      refine still_tail 10 (by kernel_rfl) (by kernel_rfl) ?_
      intro S hS hS0
      simp only [List.take_succ_cons, List.take_zero, List.drop_succ_cons, List.drop_zero] at hS0 ⊢
      repeat (refine hS _ _ _ (fun K hK => ?_); go_simp; refine hK _ ?_; clear hK K)
      refine hS0 _ ?_
      clear hS hS0 S
      clear q q0 hc0
      go_wp2_with fail
      refine hpu.mono ?_
      rintro e w3 ⟨rfl, k3, hb3⟩
      exact ⟨rfl, rfl, K2.out.trans k3, hb3⟩

end Go.Proofs.YtfcgjadfhojogaaDoor.Vm
