/- One step of a frame at work. -/
import Derived.Test.YtfcgjadfhojogaaDoorVmG
import Derived.Test.YtfcgjadfhojogaaDoorVmH
import Derived.Test.YtfcgjadfhojogaaDoorVmI
import Derived.Test.YtfcgjadfhojogaaDoorVmJ
import Derived.Test.YtfcgjadfhojogaaDoorVmL
import Derived.Test.YtfcgjadfhojogaaDoorVmM
import Derived.RegionTactic
namespace Go.Proofs.YtfcgjadfhojogaaDoor.Vm
open Go.RowKit Go.Proofs.YtfcgjadfhojogaaDoorW.PrintWords Go.Proofs.YtfcgjadfhojogaaDoorW.PrintLast Go.Proofs.YtfcgjadfhojogaaDoorW.PrintMore Go.Proofs.YtfcgjadfhojogaaDoor.PVmStarts
set_option linter.unusedVariables false
set_option linter.unusedSimpArgs false

/-- What an instruction does. -/
def insI (C : Cd) (B : S65) (i : S53) (F : Fr) : St :=
  if i.f0 = 1 then iPush i F else if i.f0 = 2 then iLocal i F else if i.f0 = 3 then iSet i F else if i.f0 = 4 then iLoad C i F else if i.f0 = 5 then iStore C i F
  else if i.f0 = 6 then twoF (fun a b => rnd (a + b)) F else if i.f0 = 7 then twoF (fun a b => rnd (a - b)) F else if i.f0 = 8 then twoF (fun a b => rnd (a * b)) F
  else if i.f0 = 9 then twoF (fun a b => bitI (decide (a < b))) F else if i.f0 = 10 then twoF (fun a b => bitI (a == b)) F else if i.f0 = 11 then iCall C i F
  else if i.f0 = 12 then iDrop F else if i.f0 = 13 then iSpawn C i F else if i.f0 = 14 then iSync F else if i.f0 = 15 then iJump B i F else if i.f0 = 16 then iZero B i F
  else if i.f0 = 17 then iReturn F else if i.f0 = 18 then iAssert F else if i.f0 = 19 then twoF (fun a b => (a + b) / 2) F else .err 1
def stepF (C : Cd) (B : S65) (F : Fr) : St :=
  if F.spent < 2000 then (if F.pc < (B.f2.length : Int) then insI C B (rd_T53 B.f2 F.pc) F else .err 1) else .err 11

set_option maxHeartbeats 4000000 in
theorem step_spent {w0 w : World} {b : Nat} {C : Cd} {B : S65} {F : Fr} {p : Pt} {vl vs : Value} (h : RunAt w0 w b C B F p vl vs) (hs : ¬ F.spent < 2000) : Calls Tryd.prog 36 #[.pointer (some ⟨b, 0, none⟩)] w (Fell 11 w0 w) := by
  have c0 : decide (F.spent < 2000) = false := decide_eq_false hs
  have q := blk_cells h.blk
  unfold cellsOf at q
  have HB := Aside0.mk h.below
  have hmf := must_false 11 w
  clear h hs
  go_enter Tryd.func36, Tryd.ntmps36
  go_wp2_with ((with_reducible refine hmf.mono ?_); rintro e w' ⟨rfl, rfl⟩)
  exact ⟨rfl, rfl, Keeps.refl _, HB.out⟩
set_option maxHeartbeats 4000000 in
set_option maxRecDepth 100000 in
theorem step_pc {w0 w : World} {b : Nat} {C : Cd} {B : S65} {F : Fr} {p : Pt} {vl vs : Value} (h : RunAt w0 w b C B F p vl vs) (hs : F.spent < 2000) (hpc : ¬ F.pc < (B.f2.length : Int)) : Calls Tryd.prog 36 #[.pointer (some ⟨b, 0, none⟩)] w (Fell 1 w0 w) := by
  have c0 : decide (F.spent < 2000) = true := decide_eq_true hs
  have c1 : decide (F.pc < (B.f2.length : Int)) = false := decide_eq_false hpc
  have q := blk_cells h.blk
  unfold cellsOf at q
  have HB := Aside0.mk (And.intro (Keeps.of_below (below_drew (Below.refl w.heap.size w))) h.drew.below)
  have hmt := must_true 11 w
  have hmf := must_false 1 w.drew
  clear h hs hpc
  go_enter Tryd.func36, Tryd.ntmps36
  go_upto_region 1 with ((with_reducible refine hmt.mono ?_); rintro e w' ⟨rfl, rfl⟩)
  refine still_tail 12 (by kernel_rfl) (by kernel_rfl) ?_
  intro S hS hS0
  simp only [List.take_succ_cons, List.take_zero, List.drop_succ_cons, List.drop_zero] at hS0 ⊢
  repeat (refine hS _ _ _ (fun K hK => ?_); go_simp; refine hK _ ?_; clear hK K)
  refine hS0 _ ?_
  clear hS hS0 S
  go_wp2_with fail
  refine hmf.mono ?_
  rintro e w3 ⟨rfl, rfl⟩
  exact ⟨rfl, rfl, HB.out⟩

set_option maxHeartbeats 4000000 in
set_option maxRecDepth 100000 in
theorem step_go {w0 w : World} {b : Nat} {C : Cd} {B : S65} {F : Fr} {p : Pt} {vl vs : Value} (h : RunAt w0 w b C B F p vl vs) (ok : OkF F) (hi : k53.C w0 p.Ai B.f2.length B.f2) (hs : F.spent < 2000) (hpc : F.pc < (B.f2.length : Int)) (S : St) (N : FuncId) (eg : ∀ args w, (callFunc N args).run Tryd.prog w = .ok (.enter N args) w)
    (hk : 1 ≤ (rd_T53 B.f2 F.pc).f0 ∧ (rd_T53 B.f2 F.pc).f0 < 20) (hcell : w0.cell? ⟨0, (rd_T53 B.f2 F.pc).f0.toNat, none⟩ = some (.func (.func N) #[] #[]))
    (hins : ∀ w1, RunAt w0 w1 b C B F p vl vs → Calls Tryd.prog N #[.pointer (some ⟨b, 0, none⟩), .agg #[.int .i64 (rd_T53 B.f2 F.pc).f0, .int .i64 (rd_T53 B.f2 F.pc).f1, .int .i64 (rd_T53 B.f2 F.pc).f2, .int .i64 (rd_T53 B.f2 F.pc).f3]] w1 (Outcome w0 w1 b C B p vl S)) :
    Calls Tryd.prog 36 #[.pointer (some ⟨b, 0, none⟩)] w (Outcome w0 w b C B p vl S) := by
  have HC := Aside0.mk hcell
  have HI := Aside0.mk hins
  have HK := Aside0.mk hk
  clear hcell hins hk
  have c0 : decide (F.spent < 2000) = true := decide_eq_true hs
  have c1 : decide (F.pc < (B.f2.length : Int)) = true := decide_eq_true hpc
  have q := blk_cells h.blk
  unfold cellsOf at q
  have h2 := h.drew
  have K2 := Aside0.mk (Keeps.of_below (below_drew (Below.refl w.heap.size w)))
  have hmt := must_true 11 w
  have hmt2 := must_true 1 w.drew
  have hpc0 := ok.pc0
  obtain ⟨ad, hAi, r0, r1, r2, r3⟩ := at_T53 (Kd.C_below hi h2.below) F.pc hpc0 hpc
  have H2 := Aside0.mk h2
  clear h hs hi h2
  go_enter Tryd.func36, Tryd.ntmps36
  go_upto_region 1 with ((with_reducible refine hmt.mono ?_); rintro e w' ⟨rfl, rfl⟩)
  refine still_tail 12 (by kernel_rfl) (by kernel_rfl) ?_
  intro S hS hS0
  simp only [List.take_succ_cons, List.take_zero, List.drop_succ_cons, List.drop_zero] at hS0 ⊢
  repeat (refine hS _ _ _ (fun K hK => ?_); go_simp; refine hK _ ?_; clear hK K)
  refine hS0 _ ?_
  clear hS hS0 S
  clear q c0 c1
  go_upto_region 2 with ((with_reducible refine hmt2.mono ?_); rintro e w' ⟨rfl, rfl⟩)
  clear hmt hmt2
  generalize hw2 : World.drew _ = w2 at *
  clear hw2
  have q := blk_cells H2.out.blk
  unfold cellsOf at q
  rw [hAi] at q
  have q12 : w2.cell? ⟨b, 12, none⟩ = some (.int .i64 F.pc) := q 12
  have q8 : w2.cell? ⟨b, 8, none⟩ = some (.slice (some ad) B.f2.length p.ci) := q 8
  have hz := below_alloc (Below.refl w2.heap.size w2) (.cells #[.int .i64 0, .int .i64 0, .int .i64 0, .int .i64 0] 53)
  have q122 := pw_cell_below hz q12
  have q82 := pw_cell_below hz q8
  have r02 := pw_cell_below hz r0
  have r12 := pw_cell_below hz r1
  have r22 := pw_cell_below hz r2
  have r32 := pw_cell_below hz r3
  generalize rd_T53 B.f2 F.pc = i at *
  clear hz q
  go_region
  refine nameEnd ?_
  intro w5 hw5
  have hb5 : Below w2.heap.size w2 w5 := by rw [hw5]; exact below_drew (below_alloc (Below.refl _ _) _)
  have o5 : w5.heap[w2.heap.size]? = some (.cells #[.int .i64 i.f0, .int .i64 i.f1, .int .i64 i.f2, .int .i64 i.f3] 53 (0, 0)) := by rw [hw5]; exact blk_new _ _
  clear hw5
  have h5 := H2.out.mono hb5
  have H5 := Aside0.mk h5.drew
  have K5 := Aside0.mk (K2.out.trans ((Keeps.of_below hb5).trans (Keeps.of_below (below_drew (Below.refl _ _)))))
  have p5 := blk_cells o5
  have hcl := pw_cell_below h5.below HC.out
  have hmt := must_true 1 w5
  have hin := HI.out _ h5.drew
  have d0 : decide (1 ≤ i.f0) = true := decide_eq_true HK.out.1
  have d1 : decide (i.f0 < 20) = true := decide_eq_true HK.out.2
  clear q12 q8 q122 q82 r0 r1 r2 r3 r02 r12 r22 r32 hb5 o5 h5 hpc hpc0 hAi
  go_upto_region 4 with ((with_reducible refine hmt.mono ?_); rintro e w' ⟨rfl, rfl⟩)
  have b0 : 0 ≤ i.f0 := by have := HK.out.1; omega
  have b1 : i.f0 < 20 := HK.out.2
  clear hmt
  refine still_tail 7 (by kernel_rfl) (by kernel_rfl) ?_
  intro S hS hS0
  simp only [List.take_succ_cons, List.take_zero, List.drop_succ_cons, List.drop_zero] at hS0 ⊢
  repeat (refine hS _ _ _ (fun K hK => ?_); go_simp; refine hK _ ?_; clear hK K)
  refine hS0 _ ?_
  clear hS hS0 S
  clear p5 hcl
  go_wp2_with fail
  refine hin.mono ?_
  intro e w6 ho
  have HO := Aside0.mk (Outcome.pre K5.out ho)
  clear hin eg
  cases S with
  | go F1 =>
    obtain ⟨rfl, _, _⟩ := ho
    go_wp2
    go_end0
    exact HO.out
  | ask F1 K1 =>
    obtain ⟨rfl, _, _⟩ := ho
    go_wp2
    go_end0
    exact HO.out
  | err x1 =>
    obtain ⟨rfl, _, _⟩ := ho
    exact ⟨rfl, HO.out⟩

set_option maxHeartbeats 4000000 in
set_option maxRecDepth 100000 in
theorem step_bad {w0 w : World} {b : Nat} {C : Cd} {B : S65} {F : Fr} {p : Pt} {vl vs : Value} (h : RunAt w0 w b C B F p vl vs) (ok : OkF F) (hi : k53.C w0 p.Ai B.f2.length B.f2) (hs : F.spent < 2000) (hpc : F.pc < (B.f2.length : Int))
    (hk : ¬ (1 ≤ (rd_T53 B.f2 F.pc).f0 ∧ (rd_T53 B.f2 F.pc).f0 < 20)) :
    Calls Tryd.prog 36 #[.pointer (some ⟨b, 0, none⟩)] w (Fell 1 w0 w) := by
  have HK := Aside0.mk hk
  clear hk
  have c0 : decide (F.spent < 2000) = true := decide_eq_true hs
  have c1 : decide (F.pc < (B.f2.length : Int)) = true := decide_eq_true hpc
  have q := blk_cells h.blk
  unfold cellsOf at q
  have h2 := h.drew
  have K2 := Aside0.mk (Keeps.of_below (below_drew (Below.refl w.heap.size w)))
  have hmt := must_true 11 w
  have hmt2 := must_true 1 w.drew
  have hpc0 := ok.pc0
  obtain ⟨ad, hAi, r0, r1, r2, r3⟩ := at_T53 (Kd.C_below hi h2.below) F.pc hpc0 hpc
  have H2 := Aside0.mk h2
  clear h hs hi h2
  go_enter Tryd.func36, Tryd.ntmps36
  go_upto_region 1 with ((with_reducible refine hmt.mono ?_); rintro e w' ⟨rfl, rfl⟩)
  refine still_tail 12 (by kernel_rfl) (by kernel_rfl) ?_
  intro S hS hS0
  simp only [List.take_succ_cons, List.take_zero, List.drop_succ_cons, List.drop_zero] at hS0 ⊢
  repeat (refine hS _ _ _ (fun K hK => ?_); go_simp; refine hK _ ?_; clear hK K)
  refine hS0 _ ?_
  clear hS hS0 S
  clear q c0 c1
  go_upto_region 2 with ((with_reducible refine hmt2.mono ?_); rintro e w' ⟨rfl, rfl⟩)
  clear hmt hmt2
  generalize hw2 : World.drew _ = w2 at *
  clear hw2
  have q := blk_cells H2.out.blk
  unfold cellsOf at q
  rw [hAi] at q
  have q12 : w2.cell? ⟨b, 12, none⟩ = some (.int .i64 F.pc) := q 12
  have q8 : w2.cell? ⟨b, 8, none⟩ = some (.slice (some ad) B.f2.length p.ci) := q 8
  have hz := below_alloc (Below.refl w2.heap.size w2) (.cells #[.int .i64 0, .int .i64 0, .int .i64 0, .int .i64 0] 53)
  have q122 := pw_cell_below hz q12
  have q82 := pw_cell_below hz q8
  have r02 := pw_cell_below hz r0
  have r12 := pw_cell_below hz r1
  have r22 := pw_cell_below hz r2
  have r32 := pw_cell_below hz r3
  generalize rd_T53 B.f2 F.pc = i at *
  clear hz q
  go_region
  refine nameEnd ?_
  intro w5 hw5
  have hb5 : Below w2.heap.size w2 w5 := by rw [hw5]; exact below_drew (below_alloc (Below.refl _ _) _)
  have o5 : w5.heap[w2.heap.size]? = some (.cells #[.int .i64 i.f0, .int .i64 i.f1, .int .i64 i.f2, .int .i64 i.f3] 53 (0, 0)) := by rw [hw5]; exact blk_new _ _
  clear hw5
  have h5 := H2.out.mono hb5
  have K5 := Aside0.mk (And.intro (K2.out.trans (Keeps.of_below hb5)) h5.below)
  have p5 := blk_cells o5
  have hmf := must_false 1 w5
  clear q12 q8 q122 q82 r0 r1 r2 r3 r02 r12 r22 r32 hb5 o5 h5 hpc hpc0 hAi
  by_cases g0 : 1 ≤ i.f0
  · have d0 : decide (1 ≤ i.f0) = true := decide_eq_true g0
    have d1 : decide (i.f0 < 20) = false := decide_eq_false (fun hh => HK.out ⟨g0, hh⟩)
    clear g0
    go_wp2_with ((with_reducible refine hmf.mono ?_); rintro e w' ⟨rfl, rfl⟩)
    exact ⟨rfl, rfl, K5.out⟩
  · have d0 : decide (1 ≤ i.f0) = false := decide_eq_false g0
    clear g0
    go_wp2_with ((with_reducible refine hmf.mono ?_); rintro e w' ⟨rfl, rfl⟩)
    exact ⟨rfl, rfl, K5.out⟩

/-- The table of instructions: cell k of the variable holds the function that does instruction k. -/
def fnOf : List FuncId := [66, 68, 71, 73, 75, 76, 79, 81, 83, 85,
  87, 88, 89, 90, 91, 93, 94, 95, 96]
def Table (w : World) : Prop := ∀ k, k < 19 → w.cell? ⟨0, k + 1, none⟩ = some (.func (.func (fnOf.getD k 0)) #[] #[])
theorem Table.below {w w1 : World} (h : Table w) (hb : Below w.heap.size w w1) : Table w1 := fun k hk => pw_cell_below hb (h k hk)

/-- What is only read, read. -/
structure Reads (w0 : World) (C : Cd) (B : S65) (F : Fr) (p : Pt) : Prop where
  funs : k65.C w0 p.Af C.funs.length C.funs
  funsc : C.funs.length ≤ p.cf
  cells : (Kd.int .i64).C w0 p.Ac C.cells.length C.cells
  ins : k53.C w0 p.Ai B.f2.length B.f2
  path : (Kd.int .i64).C w0 p.Ap F.path.length F.path
  pathc : F.path.length ≤ p.cp
  kids : k74.C w0 p.Ak F.kids.length F.kids
  kidsc : F.kids.length ≤ p.ck

set_option maxHeartbeats 4000000 in
theorem step_call {w0 w : World} {b : Nat} {C : Cd} {B : S65} {F : Fr} {p : Pt} {vl vs : Value} (h : RunAt w0 w b C B F p vl vs) (ok : OkF F) (hr : Reads w0 C B F p) (ht : Table w0) : Calls Tryd.prog 36 #[.pointer (some ⟨b, 0, none⟩)] w (Outcome w0 w b C B p vl (stepF C B F)) := by
  unfold stepF
  by_cases hs : ¬ F.spent < 2000
  · rw [if_neg hs]
    exact step_spent h hs
  have hs := Decidable.not_not.1 hs
  rw [if_pos hs]
  by_cases hpc : ¬ F.pc < (B.f2.length : Int)
  · rw [if_neg hpc]
    exact step_pc h hs hpc
  have hpc := Decidable.not_not.1 hpc
  rw [if_pos hpc]
  by_cases hop : ¬ (1 ≤ (rd_T53 B.f2 F.pc).f0 ∧ (rd_T53 B.f2 F.pc).f0 < 20)
  · have hb := step_bad h ok hr.ins hs hpc hop
    have hi : insI C B (rd_T53 B.f2 F.pc) F = .err 1 := by
      unfold insI
      repeat (rw [if_neg (by omega)])
    rw [hi]
    exact hb
  have hop := Decidable.not_not.1 hop
  by_cases e1 : (rd_T53 B.f2 F.pc).f0 = 1
  · unfold insI
    rw [if_pos e1]
    exact step_go h ok hr.ins hs hpc _ _ (fun args w => by kernel_rfl) hop (by rw [e1]; exact ht 0 (by omega)) (fun w1 hh => ins_push hh ok _)
  by_cases e2 : (rd_T53 B.f2 F.pc).f0 = 2
  · unfold insI
    rw [if_neg (by omega)]; rw [if_pos e2]
    exact step_go h ok hr.ins hs hpc _ _ (fun args w => by kernel_rfl) hop (by rw [e2]; exact ht 1 (by omega)) (fun w1 hh => ins_local hh ok _ hr.kids)
  by_cases e3 : (rd_T53 B.f2 F.pc).f0 = 3
  · unfold insI
    rw [if_neg (by omega)]; rw [if_neg (by omega)]; rw [if_pos e3]
    exact step_go h ok hr.ins hs hpc _ _ (fun args w => by kernel_rfl) hop (by rw [e3]; exact ht 2 (by omega)) (fun w1 hh => ins_set hh ok _ hr.kids)
  by_cases e4 : (rd_T53 B.f2 F.pc).f0 = 4
  · unfold insI
    rw [if_neg (by omega)]; rw [if_neg (by omega)]; rw [if_neg (by omega)]; rw [if_pos e4]
    exact step_go h ok hr.ins hs hpc _ _ (fun args w => by kernel_rfl) hop (by rw [e4]; exact ht 3 (by omega)) (fun w1 hh => ins_load hh ok _)
  by_cases e5 : (rd_T53 B.f2 F.pc).f0 = 5
  · unfold insI
    rw [if_neg (by omega)]; rw [if_neg (by omega)]; rw [if_neg (by omega)]; rw [if_neg (by omega)]; rw [if_pos e5]
    exact step_go h ok hr.ins hs hpc _ _ (fun args w => by kernel_rfl) hop (by rw [e5]; exact ht 4 (by omega)) (fun w1 hh => ins_store hh ok _)
  by_cases e6 : (rd_T53 B.f2 F.pc).f0 = 6
  · unfold insI
    rw [if_neg (by omega)]; rw [if_neg (by omega)]; rw [if_neg (by omega)]; rw [if_neg (by omega)]; rw [if_neg (by omega)]; rw [if_pos e6]
    exact step_go h ok hr.ins hs hpc _ _ (fun args w => by kernel_rfl) hop (by rw [e6]; exact ht 5 (by omega)) (fun w1 hh => ins_two6 hh ok _)
  by_cases e7 : (rd_T53 B.f2 F.pc).f0 = 7
  · unfold insI
    rw [if_neg (by omega)]; rw [if_neg (by omega)]; rw [if_neg (by omega)]; rw [if_neg (by omega)]; rw [if_neg (by omega)]; rw [if_neg (by omega)]; rw [if_pos e7]
    exact step_go h ok hr.ins hs hpc _ _ (fun args w => by kernel_rfl) hop (by rw [e7]; exact ht 6 (by omega)) (fun w1 hh => ins_two7 hh ok _)
  by_cases e8 : (rd_T53 B.f2 F.pc).f0 = 8
  · unfold insI
    rw [if_neg (by omega)]; rw [if_neg (by omega)]; rw [if_neg (by omega)]; rw [if_neg (by omega)]; rw [if_neg (by omega)]; rw [if_neg (by omega)]; rw [if_neg (by omega)]; rw [if_pos e8]
    exact step_go h ok hr.ins hs hpc _ _ (fun args w => by kernel_rfl) hop (by rw [e8]; exact ht 7 (by omega)) (fun w1 hh => ins_two8 hh ok _)
  by_cases e9 : (rd_T53 B.f2 F.pc).f0 = 9
  · unfold insI
    rw [if_neg (by omega)]; rw [if_neg (by omega)]; rw [if_neg (by omega)]; rw [if_neg (by omega)]; rw [if_neg (by omega)]; rw [if_neg (by omega)]; rw [if_neg (by omega)]; rw [if_neg (by omega)]; rw [if_pos e9]
    exact step_go h ok hr.ins hs hpc _ _ (fun args w => by kernel_rfl) hop (by rw [e9]; exact ht 8 (by omega)) (fun w1 hh => ins_two9 hh ok _)
  by_cases e10 : (rd_T53 B.f2 F.pc).f0 = 10
  · unfold insI
    rw [if_neg (by omega)]; rw [if_neg (by omega)]; rw [if_neg (by omega)]; rw [if_neg (by omega)]; rw [if_neg (by omega)]; rw [if_neg (by omega)]; rw [if_neg (by omega)]; rw [if_neg (by omega)]; rw [if_neg (by omega)]; rw [if_pos e10]
    exact step_go h ok hr.ins hs hpc _ _ (fun args w => by kernel_rfl) hop (by rw [e10]; exact ht 9 (by omega)) (fun w1 hh => ins_two10 hh ok _)
  by_cases e11 : (rd_T53 B.f2 F.pc).f0 = 11
  · unfold insI
    rw [if_neg (by omega)]; rw [if_neg (by omega)]; rw [if_neg (by omega)]; rw [if_neg (by omega)]; rw [if_neg (by omega)]; rw [if_neg (by omega)]; rw [if_neg (by omega)]; rw [if_neg (by omega)]; rw [if_neg (by omega)]; rw [if_neg (by omega)]; rw [if_pos e11]
    exact step_go h ok hr.ins hs hpc _ _ (fun args w => by kernel_rfl) hop (by rw [e11]; exact ht 10 (by omega)) (fun w1 hh => ins_call hh ok _)
  by_cases e12 : (rd_T53 B.f2 F.pc).f0 = 12
  · unfold insI
    rw [if_neg (by omega)]; rw [if_neg (by omega)]; rw [if_neg (by omega)]; rw [if_neg (by omega)]; rw [if_neg (by omega)]; rw [if_neg (by omega)]; rw [if_neg (by omega)]; rw [if_neg (by omega)]; rw [if_neg (by omega)]; rw [if_neg (by omega)]; rw [if_neg (by omega)]; rw [if_pos e12]
    exact step_go h ok hr.ins hs hpc _ _ (fun args w => by kernel_rfl) hop (by rw [e12]; exact ht 11 (by omega)) (fun w1 hh => ins_drop hh ok _)
  by_cases e13 : (rd_T53 B.f2 F.pc).f0 = 13
  · unfold insI
    rw [if_neg (by omega)]; rw [if_neg (by omega)]; rw [if_neg (by omega)]; rw [if_neg (by omega)]; rw [if_neg (by omega)]; rw [if_neg (by omega)]; rw [if_neg (by omega)]; rw [if_neg (by omega)]; rw [if_neg (by omega)]; rw [if_neg (by omega)]; rw [if_neg (by omega)]; rw [if_neg (by omega)]; rw [if_pos e13]
    exact step_go h ok hr.ins hs hpc _ _ (fun args w => by kernel_rfl) hop (by rw [e13]; exact ht 12 (by omega)) (fun w1 hh => ins_spawn hh ok _ hr.funs)
  by_cases e14 : (rd_T53 B.f2 F.pc).f0 = 14
  · unfold insI
    rw [if_neg (by omega)]; rw [if_neg (by omega)]; rw [if_neg (by omega)]; rw [if_neg (by omega)]; rw [if_neg (by omega)]; rw [if_neg (by omega)]; rw [if_neg (by omega)]; rw [if_neg (by omega)]; rw [if_neg (by omega)]; rw [if_neg (by omega)]; rw [if_neg (by omega)]; rw [if_neg (by omega)]; rw [if_neg (by omega)]; rw [if_pos e14]
    exact step_go h ok hr.ins hs hpc _ _ (fun args w => by kernel_rfl) hop (by rw [e14]; exact ht 13 (by omega)) (fun w1 hh => ins_sync hh ok _)
  by_cases e15 : (rd_T53 B.f2 F.pc).f0 = 15
  · unfold insI
    rw [if_neg (by omega)]; rw [if_neg (by omega)]; rw [if_neg (by omega)]; rw [if_neg (by omega)]; rw [if_neg (by omega)]; rw [if_neg (by omega)]; rw [if_neg (by omega)]; rw [if_neg (by omega)]; rw [if_neg (by omega)]; rw [if_neg (by omega)]; rw [if_neg (by omega)]; rw [if_neg (by omega)]; rw [if_neg (by omega)]; rw [if_neg (by omega)]; rw [if_pos e15]
    exact step_go h ok hr.ins hs hpc _ _ (fun args w => by kernel_rfl) hop (by rw [e15]; exact ht 14 (by omega)) (fun w1 hh => ins_jump hh ok _)
  by_cases e16 : (rd_T53 B.f2 F.pc).f0 = 16
  · unfold insI
    rw [if_neg (by omega)]; rw [if_neg (by omega)]; rw [if_neg (by omega)]; rw [if_neg (by omega)]; rw [if_neg (by omega)]; rw [if_neg (by omega)]; rw [if_neg (by omega)]; rw [if_neg (by omega)]; rw [if_neg (by omega)]; rw [if_neg (by omega)]; rw [if_neg (by omega)]; rw [if_neg (by omega)]; rw [if_neg (by omega)]; rw [if_neg (by omega)]; rw [if_neg (by omega)]; rw [if_pos e16]
    exact step_go h ok hr.ins hs hpc _ _ (fun args w => by kernel_rfl) hop (by rw [e16]; exact ht 15 (by omega)) (fun w1 hh => ins_zero hh ok _)
  by_cases e17 : (rd_T53 B.f2 F.pc).f0 = 17
  · unfold insI
    rw [if_neg (by omega)]; rw [if_neg (by omega)]; rw [if_neg (by omega)]; rw [if_neg (by omega)]; rw [if_neg (by omega)]; rw [if_neg (by omega)]; rw [if_neg (by omega)]; rw [if_neg (by omega)]; rw [if_neg (by omega)]; rw [if_neg (by omega)]; rw [if_neg (by omega)]; rw [if_neg (by omega)]; rw [if_neg (by omega)]; rw [if_neg (by omega)]; rw [if_neg (by omega)]; rw [if_neg (by omega)]; rw [if_pos e17]
    exact step_go h ok hr.ins hs hpc _ _ (fun args w => by kernel_rfl) hop (by rw [e17]; exact ht 16 (by omega)) (fun w1 hh => ins_return hh ok _)
  by_cases e18 : (rd_T53 B.f2 F.pc).f0 = 18
  · unfold insI
    rw [if_neg (by omega)]; rw [if_neg (by omega)]; rw [if_neg (by omega)]; rw [if_neg (by omega)]; rw [if_neg (by omega)]; rw [if_neg (by omega)]; rw [if_neg (by omega)]; rw [if_neg (by omega)]; rw [if_neg (by omega)]; rw [if_neg (by omega)]; rw [if_neg (by omega)]; rw [if_neg (by omega)]; rw [if_neg (by omega)]; rw [if_neg (by omega)]; rw [if_neg (by omega)]; rw [if_neg (by omega)]; rw [if_neg (by omega)]; rw [if_pos e18]
    exact step_go h ok hr.ins hs hpc _ _ (fun args w => by kernel_rfl) hop (by rw [e18]; exact ht 17 (by omega)) (fun w1 hh => ins_assert hh ok _)
  by_cases e19 : (rd_T53 B.f2 F.pc).f0 = 19
  · unfold insI
    rw [if_neg (by omega)]; rw [if_neg (by omega)]; rw [if_neg (by omega)]; rw [if_neg (by omega)]; rw [if_neg (by omega)]; rw [if_neg (by omega)]; rw [if_neg (by omega)]; rw [if_neg (by omega)]; rw [if_neg (by omega)]; rw [if_neg (by omega)]; rw [if_neg (by omega)]; rw [if_neg (by omega)]; rw [if_neg (by omega)]; rw [if_neg (by omega)]; rw [if_neg (by omega)]; rw [if_neg (by omega)]; rw [if_neg (by omega)]; rw [if_neg (by omega)]; rw [if_pos e19]
    exact step_go h ok hr.ins hs hpc _ _ (fun args w => by kernel_rfl) hop (by rw [e19]; exact ht 18 (by omega)) (fun w1 hh => ins_two17 hh ok _)
  omega

end Go.Proofs.YtfcgjadfhojogaaDoor.Vm
