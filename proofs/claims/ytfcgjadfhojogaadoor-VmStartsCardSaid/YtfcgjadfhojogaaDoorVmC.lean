/- The frames and codes as plain data; contracts of vm.Right and its closure, and of the closures over isValue. -/
import Derived.Test.YtfcgjadfhojogaaDoorVmB
import Derived.Deep.DeepMust
namespace Go.Proofs.YtfcgjadfhojogaaDoor.Vm
open Go.RowKit Go.Proofs.YtfcgjadfhojogaaDoorW.PrintWords Go.Proofs.YtfcgjadfhojogaaDoorW.PrintLast Go.Proofs.YtfcgjadfhojogaaDoorW.PrintMore Go.Proofs.YtfcgjadfhojogaaDoor.PVmStarts
set_option linter.unusedVariables false
set_option linter.unusedSimpArgs false

/-- A code. -/
structure Cd where
  funs : List S65
  cells : List Int
  maps : Int
  stacks : Int
  chans : Int
  main : Int
/-- A frame. -/
structure Fr where
  task : Int
  path : List Int
  fn : Int
  pc : Int
  loc : List Int
  stk : List Int
  kids : List S74
  many : Int
  spent : Int
  fail : Bool

def isV (x : Int) : Bool := decide (0 ≤ x) && decide (x < 4294967296)
def notV (x : Int) : Bool := !isV x
def badKid (n : Int) (k : S74) : Bool := decide (k.f0 < 1) || decide (k.f1 < -1) || decide (n ≤ k.f1)

theorem isV_call (x : Int) (w : World) : Calls Tryd.prog 27 #[.int .i64 x] w fun e w' => e = .returned (.bool (isV x)) ∧ w' = w := by
  unfold isV
  by_cases h : 0 ≤ x
  · have h0 : decide (0 ≤ x) = true := decide_eq_true h
    clear h
    go_enter Tryd.func27, Tryd.ntmps27
    go_wp2
    go_ret
    exact ⟨by simp [h0], rfl⟩
  · have h0 : decide (0 ≤ x) = false := decide_eq_false h
    clear h
    go_enter Tryd.func27, Tryd.ntmps27
    go_wp2
    go_ret
    exact ⟨by simp [h0], rfl⟩

theorem start1_call (x : Int) (w : World) : Calls Tryd.prog 26 #[.int .i64 x] w fun e w' => e = .returned (.bool (notV x)) ∧ Below w.heap.size w w' := by
  have hcall := isV_call x w
  unfold notV
  generalize isV x = y at *
  go_enter Tryd.func26, Tryd.ntmps26
  go_wp2_with ((with_reducible refine hcall.mono ?_); rintro e w' ⟨rfl, rfl⟩)
  go_ret
  exact ⟨rfl, Below.refl _ _⟩
theorem values1_call (x : Int) (w : World) : Calls Tryd.prog 48 #[.int .i64 x] w fun e w' => e = .returned (.bool (notV x)) ∧ Below w.heap.size w w' := by
  have hcall := isV_call x w
  unfold notV
  generalize isV x = y at *
  go_enter Tryd.func48, Tryd.ntmps48
  go_wp2_with ((with_reducible refine hcall.mono ?_); rintro e w' ⟨rfl, rfl⟩)
  go_ret
  exact ⟨rfl, Below.refl _ _⟩
theorem start1_pred (w : World) : Pred (Value.int .i64) 26 #[] notV w := fun x w1 _ => start1_call x w1
theorem values1_pred (w : World) : Pred (Value.int .i64) 48 #[] notV w := fun x w1 _ => values1_call x w1

set_option maxHeartbeats 1000000 in
theorem right1_call (k : S74) (g : Nat) (n : Int) (w : World) (hc : w.cell? ⟨g, 1, none⟩ = some (.int .i64 n)) :
    Calls Tryd.prog 39 #[.agg #[.int .i64 k.f0, .int .i64 k.f1], .pointer (some ⟨g, 0, none⟩)] w fun e w' => e = .returned (.bool (badKid n k)) ∧ Below w.heap.size w w' := by
  unfold badKid
  obtain ⟨a, b⟩ := k
  simp only
  have hg : g < w.heap.size := World.block_lt_of_cell? w _ hc
  by_cases h1 : a < 1
  · have c1 : decide (a < 1) = true := decide_eq_true h1
    clear h1
    go_enter Tryd.func39, Tryd.ntmps39
    go_wp2
    go_ret
    exact ⟨by simp [c1], below_alloc (Below.refl _ _) _⟩
  · have c1 : decide (a < 1) = false := decide_eq_false h1
    by_cases h2 : b < -1
    · have c2 : decide (b < -1) = true := decide_eq_true h2
      clear h1 h2
      go_enter Tryd.func39, Tryd.ntmps39
      go_wp2
      go_ret
      exact ⟨by simp [c1, c2], below_alloc (Below.refl _ _) _⟩
    · have c2 : decide (b < -1) = false := decide_eq_false h2
      clear h1 h2
      go_enter Tryd.func39, Tryd.ntmps39
      go_wp2
      go_ret
      exact ⟨by simp [c1, c2], below_alloc (Below.refl _ _) _⟩

/-- What a code's value reads as. -/
def CdAt (w : World) (C : Cd) (v : Value) : Prop := ∃ (Af : Option Addr) (cf : Nat) (Ac : Option Addr) (cc : Nat), v = .agg #[.slice Af C.funs.length cf, .slice Ac C.cells.length cc, .int .i64 C.maps, .int .i64 C.stacks, .int .i64 C.chans, .int .i64 C.main] ∧ C.funs.length ≤ cf ∧ k65.C w Af C.funs.length C.funs ∧ C.cells.length ≤ cc ∧ (Kd.int .i64).C w Ac C.cells.length C.cells
/-- What a frame's value reads as. -/
def FrAt (w : World) (F : Fr) (v : Value) : Prop := ∃ (Ap : Option Addr) (cp : Nat) (Al : Option Addr) (cl : Nat) (As : Option Addr) (cs : Nat) (Ak : Option Addr) (ck : Nat),
  v = .agg #[.int .i64 F.task, .slice Ap F.path.length cp, .int .i64 F.fn, .int .i64 F.pc, .slice Al F.loc.length cl, .slice As F.stk.length cs, .slice Ak F.kids.length ck, .int .i64 F.many, .int .i64 F.spent, .bool F.fail] ∧
  (F.path.length ≤ cp ∧ (Kd.int .i64).C w Ap F.path.length F.path) ∧ (F.loc.length ≤ cl ∧ (Kd.int .i64).C w Al F.loc.length F.loc) ∧ (F.stk.length ≤ cs ∧ (Kd.int .i64).C w As F.stk.length F.stk) ∧ (F.kids.length ≤ ck ∧ k74.C w Ak F.kids.length F.kids)
theorem CdAt.below {w w1 : World} {C : Cd} {v : Value} (h : CdAt w C v) (hb : Below w.heap.size w w1) : CdAt w1 C v := by
  obtain ⟨a, b, c, d, e, f, g, i, j⟩ := h
  exact ⟨a, b, c, d, e, f, Kd.C_below g hb, i, Kd.C_below j hb⟩
theorem FrAt.below {w w1 : World} {F : Fr} {v : Value} (h : FrAt w F v) (hb : Below w.heap.size w w1) : FrAt w1 F v := by
  obtain ⟨a, b, c, d, e, f, g, i, j, ⟨k1, k2⟩, ⟨l1, l2⟩, ⟨m1, m2⟩, ⟨n1, n2⟩⟩ := h
  exact ⟨a, b, c, d, e, f, g, i, j, ⟨k1, Kd.C_below k2 hb⟩, ⟨l1, Kd.C_below l2 hb⟩, ⟨m1, Kd.C_below m2 hb⟩, ⟨n1, Kd.C_below n2 hb⟩⟩

/-- Is a frame right? -/
def late (F : Fr) (b : S65) : Bool :=
  !(decide (F.pc < 0) || decide ((b.f2.length : Int) < F.pc) || !((F.loc.length : Int) == b.f1)) && !((F.loc ++ F.stk).any notV) && !(F.kids.any (badKid b.f1))
def early (C : Cd) (F : Fr) : Bool :=
  decide (F.task < 1) || decide (F.fn < 0) || decide ((C.funs.length : Int) ≤ F.fn) || decide (F.many < 0) || decide (F.spent < 0) || decide (2000 < F.spent) || decide (100 < (F.stk.length : Int))
def rightB (C : Cd) (F : Fr) : Bool := !early C F && late F (rd_T65 C.funs F.fn)

set_option maxHeartbeats 4000000 in
set_option maxRecDepth 100000 in
theorem right_early (C : Cd) (F : Fr) (vc vf : Value) (w : World) (hC : CdAt w C vc) (hF : FrAt w F vf) (he : early C F = true) :
    Calls Tryd.prog 22 #[vc, vf] w (Bool1 false w) := by
  obtain ⟨Af, cf, Ac, cc, rfl, hC⟩ := hC
  obtain ⟨Ap, cp, Al, cl, As, cs, Ak, ck, rfl, hF⟩ := hF
  clear hC hF
  obtain ⟨task, path, fn, pc, loc, stk, kids, many, spent, fail⟩ := F
  unfold early at he
  simp only at *
  by_cases h1 : task < 1
  · have c1 : decide (task < 1) = true := decide_eq_true h1
    clear h1 he
    go_enter Tryd.func22, Tryd.ntmps22
    go_wp2
    go_ret
    exact ⟨rfl, below_alloc (below_alloc (Below.refl _ _) _) _⟩
  have c1 : decide (task < 1) = false := decide_eq_false h1
  by_cases h2 : fn < 0
  · have c2 : decide (fn < 0) = true := decide_eq_true h2
    clear h1 h2 he
    go_enter Tryd.func22, Tryd.ntmps22
    go_wp2
    go_ret
    exact ⟨rfl, below_alloc (below_alloc (Below.refl _ _) _) _⟩
  have c2 : decide (fn < 0) = false := decide_eq_false h2
  by_cases h3 : (C.funs.length : Int) ≤ fn
  · have c3 : decide ((C.funs.length : Int) ≤ fn) = true := decide_eq_true h3
    clear h1 h2 h3 he
    go_enter Tryd.func22, Tryd.ntmps22
    go_wp2
    go_ret
    exact ⟨rfl, below_alloc (below_alloc (Below.refl _ _) _) _⟩
  have c3 : decide ((C.funs.length : Int) ≤ fn) = false := decide_eq_false h3
  by_cases h4 : many < 0
  · have c4 : decide (many < 0) = true := decide_eq_true h4
    clear h1 h2 h3 h4 he
    go_enter Tryd.func22, Tryd.ntmps22
    go_wp2
    go_ret
    exact ⟨rfl, below_alloc (below_alloc (Below.refl _ _) _) _⟩
  have c4 : decide (many < 0) = false := decide_eq_false h4
  by_cases h5 : spent < 0
  · have c5 : decide (spent < 0) = true := decide_eq_true h5
    clear h1 h2 h3 h4 h5 he
    go_enter Tryd.func22, Tryd.ntmps22
    go_wp2
    go_ret
    exact ⟨rfl, below_alloc (below_alloc (Below.refl _ _) _) _⟩
  have c5 : decide (spent < 0) = false := decide_eq_false h5
  by_cases h6 : 2000 < spent
  · have c6 : decide (2000 < spent) = true := decide_eq_true h6
    clear h1 h2 h3 h4 h5 h6 he
    go_enter Tryd.func22, Tryd.ntmps22
    go_wp2
    go_ret
    exact ⟨rfl, below_alloc (below_alloc (Below.refl _ _) _) _⟩
  have c6 : decide (2000 < spent) = false := decide_eq_false h6
  by_cases h7 : 100 < (stk.length : Int)
  · have c7 : decide (100 < (stk.length : Int)) = true := decide_eq_true h7
    clear h1 h2 h3 h4 h5 h6 h7 he
    go_enter Tryd.func22, Tryd.ntmps22
    go_wp2
    go_ret
    exact ⟨rfl, below_alloc (below_alloc (Below.refl _ _) _) _⟩
  have c7 : decide (100 < (stk.length : Int)) = false := decide_eq_false h7
  simp [c1, c2, c3, c4, c5, c6, c7] at he

theorem early_false {C : Cd} {F : Fr} (h : early C F = false) : ¬ F.task < 1 ∧ ¬ F.fn < 0 ∧ ¬ (C.funs.length : Int) ≤ F.fn ∧ ¬ F.many < 0 ∧ ¬ F.spent < 0 ∧ ¬ 2000 < F.spent ∧ ¬ 100 < (F.stk.length : Int) := by
  simp only [early, Bool.or_eq_false_iff, decide_eq_false_iff_not] at h
  exact ⟨h.1.1.1.1.1.1, h.1.1.1.1.1.2, h.1.1.1.1.2, h.1.1.1.2, h.1.1.2, h.1.2, h.2⟩

theorem two_rows {w : World} {g : Nat} {t : TypeId} {A1 A2 : Option Addr} {c1 c2 : Nat} {l1 l2 : List Int} (h : w.heap[g]? = some (.cells #[.slice A1 l1.length c1, .slice A2 l2.length c2] t (0, 0)))
    (e1 : l1.length ≤ c1) (e2 : l2.length ≤ c2) (h1 : (Kd.int .i64).C w A1 l1.length l1) (h2 : (Kd.int .i64).C w A2 l2.length l2) : (Kd.slice 3 (Kd.int .i64)).C w (some ⟨g, 0, none⟩) [l1, l2].length [l1, l2] := by
  refine ⟨rfl, by simp, fun _ => ⟨_, rfl, fun j p hj => ?_⟩⟩
  match j, hj with
  | 0, hj =>
    cases hj
    refine ⟨[.slice A1 l1.length c1], rfl, ⟨A1, c1, rfl, e1, h1⟩, fun i u hu => ?_⟩
    match i, hu with
    | 0, hu => cases hu; exact (blk_cell h 0).trans rfl
    | i + 1, hu => simp at hu
  | 1, hj =>
    cases hj
    refine ⟨[.slice A2 l2.length c2], rfl, ⟨A2, c2, rfl, e2, h2⟩, fun i u hu => ?_⟩
    match i, hu with
    | 0, hu => cases hu; exact (blk_cell h 1).trans rfl
    | i + 1, hu => simp at hu
  | j + 2, hj => simp at hj

set_option maxHeartbeats 4000000 in
set_option maxRecDepth 100000 in
theorem right_late (C : Cd) (F : Fr) (vc vf : Value) (w : World) (hC : CdAt w C vc) (hF : FrAt w F vf) (he : early C F = false) (hl : (F.loc.length + F.stk.length) * 8 ≤ 140737488355328) :
    Calls Tryd.prog 22 #[vc, vf] w (Bool1 (late F (rd_T65 C.funs F.fn)) w) := by
  obtain ⟨h1, h2, h3, h4, h5, h6, h7⟩ := early_false he
  clear he
  obtain ⟨Af, cf, Ac, cc, rfl, hcf, hCf, hcc, hCc⟩ := hC
  obtain ⟨Ap, cp, Al, cl, As, cs, Ak, ck, rfl, hFp, ⟨hFl, hRl⟩, ⟨hFs, hRs⟩, ⟨hFk, hRk⟩⟩ := hF
  obtain ⟨task, path, fn, pc, loc, stk, kids, many, spent, fail⟩ := F
  obtain ⟨funs, cells, maps, stacks, chans, main⟩ := C
  unfold late
  simp only at *
  have hf0 : 0 ≤ fn := by omega
  have hf1 : fn < (funs.length : Int) := by omega
  obtain ⟨ad, A2, c2', rfl, hb0, hb1, hb2, hb3, hb4⟩ := at_T65 hCf fn hf0 hf1
  have c1 : decide (task < 1) = false := decide_eq_false h1
  have c2 : decide (fn < 0) = false := decide_eq_false h2
  have c3 : decide ((funs.length : Int) ≤ fn) = false := decide_eq_false h3
  have c4 : decide (many < 0) = false := decide_eq_false h4
  have c5 : decide (spent < 0) = false := decide_eq_false h5
  have c6 : decide (2000 < spent) = false := decide_eq_false h6
  have c7 : decide (100 < (stk.length : Int)) = false := decide_eq_false h7
  have HRl := Aside0.mk hRl
  have HRs := Aside0.mk hRs
  have HRk := Aside0.mk hRk
  have HL := Aside0.mk hl
  clear h1 h2 h3 h4 h5 h6 h7 hCf hCc hFp hRl hRs hRk hl
  generalize rd_T65 funs fn = B at *
  obtain ⟨bargs, blocals, bins⟩ := B
  simp only at *
  go_enter Tryd.func22, Tryd.ntmps22
  go_upto_region 3 with (fail)
  refine nameW ?_
  intro w1 hw1
  obtain ⟨b0, b1, hb, hsz⟩ := two_boxes hw1
  clear hw1
  replace hb0 := pw_cell_below hb hb0
  replace hb1 := pw_cell_below hb hb1
  replace hb2 := pw_cell_below hb hb2
  have q0 := blk_cells b0
  have q1 := blk_cells b1
  go_upto_region 4 with (fail)
  refine nameW ?_
  intro w2 hw2
  obtain ⟨b3, hb5, hsz2⟩ := one_box hw2
  clear hw2
  replace b1 := blk_below b1 hb5
  rw [hsz] at b3
  clear q0 q1 hb0 hb1 hb2 b0
  have q1 := blk_cells b1
  have q3 := blk_cells b3
  have HB := Aside0.mk (below_step hb hb5)
  clear hb hb5 b1
  have B3 := Aside0.mk b3
  clear b3
  by_cases h1 : pc < 0
  · have d1 : decide (pc < 0) = true := decide_eq_true h1
    clear h1
    go_wp2
    go_ret
    exact ⟨by simp [d1], HB.out⟩
  have d1 : decide (pc < 0) = false := decide_eq_false h1
  by_cases h2 : (bins.length : Int) < pc
  · have d2 : decide ((bins.length : Int) < pc) = true := decide_eq_true h2
    clear h1 h2
    go_wp2
    go_ret
    exact ⟨by simp [d1, d2], HB.out⟩
  have d2 : decide ((bins.length : Int) < pc) = false := decide_eq_false h2
  by_cases h3 : ¬ (loc.length : Int) = blocals
  · have d3 : ((loc.length : Int) == blocals) = false := beq_eq_false_iff_ne.2 h3
    have d4 : ((loc.length : Int) != blocals) = true := bne_iff_ne.2 h3
    clear h1 h2 h3
    go_wp2
    go_ret
    exact ⟨by simp [d1, d2, d3], HB.out⟩
  have h3' := Decidable.not_not.1 h3
  have d3 : ((loc.length : Int) == blocals) = true := beq_iff_eq.2 h3'
  have d4 : ((loc.length : Int) != blocals) = false := bne_eq_false_iff_eq.2 h3'
  clear h3'
  clear h1 h2 h3
  have D1 := Aside0.mk d1
  have D2 := Aside0.mk d2
  have D3 := Aside0.mk d3
  go_upto_region 6 with (fail)
  clear d1 d2 d3 d4
  have hq4 : w2.cell? ⟨w.heap.size + 1, 4, none⟩ = some (.slice Al loc.length cl) := q1 4
  have hq5 : w2.cell? ⟨w.heap.size + 1, 5, none⟩ = some (.slice As stk.length cs) := q1 5
  have hq6 : w2.cell? ⟨w.heap.size + 1, 6, none⟩ = some (.slice Ak kids.length ck) := q1 6
  have hq7 : w2.cell? ⟨w.heap.size + 2, 1, none⟩ = some (.int .i64 blocals) := q3 1
  clear q1 q3
  go_wp2_with fail
  have hb6 := below_alloc (Below.refl w2.heap.size w2) (.cells #[.slice Al loc.length cl, .slice As stk.length cs] 23)
  have hnew := blk_new w2 (.cells #[.slice Al loc.length cl, .slice As stk.length cs] 23)
  have hbase := below_step HB.out hb6
  have hrows := two_rows hnew hFl hFs (Kd.C_below HRl.out hbase) (Kd.C_below HRs.out hbase)
  have hcall := concat_int _ 2 _ _ hrows (by have := HL.out; simpa [total] using this)
  have hfl : [loc, stk].flatten = loc ++ stk := by simp
  rw [hsz2, hsz, hfl] at hcall
  clear hfl
  refine hcall.mono ?_
  rintro e w3 ⟨v, rfl, ho, hb7⟩
  clear hcall hrows hbase
  obtain ⟨A3, c3', rfl, hc3, hr3⟩ := Kd.R_reads ho
  replace hq6 := pw_cell_below hb7 (pw_cell_below hb6 hq6)
  replace hq7 := pw_cell_below hb7 (pw_cell_below hb6 hq7)
  have HB3 := Aside0.mk (below_step HB.out (below_step hb6 hb7))
  have HR3 := Aside0.mk hr3
  have hn3 := hr3.2.1
  clear hr3 ho hb7 hb6 hnew hq4 hq5 HB HRl HRs HL B3
  generalize loc ++ stk = ls at *
  go_wp2
  go_loopg [7, 77] ls.length (fun gg _ s77 wr => ∃ kk : Nat, kk ≤ ls.length ∧ ls.length - kk ≤ gg ∧ s77 = .int .i64 kk ∧ w3 = wr ∧ Aside0 ((ls.take kk).any notV = false))
  case atStart => exact ⟨0, Nat.zero_le _, by omega, rfl, rfl, ⟨by simp⟩⟩
  case round =>
    obtain ⟨kk, hkk, hg, rfl, rfl, HA⟩ := hrel
    by_cases hlt : kk < ls.length
    · have hltz : (kk : Int) < (ls.length : Int) := by omega
      have hK0 : (0 : Int) ≤ (kk : Int) := by omega
      obtain ⟨ad3, rfl, hc0⟩ := Kd.at_int HR3.out (kk : Int) hK0 hltz
      rw [Int.toNat_natCast] at hc0
      have hcall := isV_call (rd ls kk) w3
      have hx : rd ls kk = ls[kk] := by simp [rd, List.getD_eq_getElem?_getD, List.getElem?_eq_getElem hlt]
      have htk : (ls.take (kk + 1)).any notV = ((ls.take kk).any notV || notV (rd ls kk)) := by
        rw [List.take_succ_eq_append_getElem hlt, List.any_append, hx]; simp
      cases hq : isV (rd ls kk) with
      | true =>
        rw [hq] at hcall
        have HF : Aside0 ((ls.take (kk + 1)).any notV = false) := ⟨by rw [htk, HA.out]; simp [notV, hq]⟩
        clear htk hx hq
        go_wp2_with ((with_reducible refine hcall.mono ?_); rintro e w' ⟨rfl, rfl⟩)
        go_roundg (ls.length - (kk + 1))
        case measure => omega
        case rel => exact ⟨kk + 1, by omega, by omega, by go_num, rfl, HF⟩
      | false =>
        rw [hq] at hcall
        have HF : Aside0 (ls.any notV = true) := ⟨by
          rw [List.any_eq_true]; exact ⟨ls[kk], List.getElem_mem _, by rw [← hx]; simp [notV, hq]⟩⟩
        clear htk hx hq
        go_wp2_with ((with_reducible refine hcall.mono ?_); rintro e w' ⟨rfl, rfl⟩)
        go_ret
        exact ⟨by rw [HF.out]; simp, HB3.out⟩
    · have hltz : ¬ (kk : Int) < (ls.length : Int) := by omega
      have hkl : kk = ls.length := by omega
      have HF : Aside0 (ls.any notV = false) := ⟨by have := HA.out; rwa [hkl, List.take_length] at this⟩
      clear hkl
      have hmf : ∀ (fn : Fn) (first cap : Array Value) (w : World), (Instr.makeFunc fn first cap).run Tryd.prog w = .ok (.func fn first cap) w := fun _ _ _ _ => rfl
      have eg : ∀ args w, (callFunc 39 args).run Tryd.prog w = .ok (.enter 39 args) w := fun args w => by kernel_rfl
      have hpred : Pred encKid 39 #[.pointer (some ⟨w.heap.size + 2, 0, none⟩)] (badKid blocals) w3 := fun k w4 h4 => right1_call k _ _ w4 (pw_cell_below h4 hq7)
      have hcall := containsFunc_kid (badKid blocals) 39 #[.pointer (some ⟨w.heap.size + 2, 0, none⟩)] eg Ak ck kids w3 (Kd.C_below HRk.out HB3.out) hpred
      clear hpred eg
      generalize kids.any (badKid blocals) = kb at *
      go_wp2_with ((with_reducible refine hcall.mono ?_); rintro e w' ⟨rfl, hb8⟩)
      go_ret
      exact ⟨by rw [HF.out]; have := D1.out; have := D2.out; have := D3.out; simp [*], below_step HB3.out hb8⟩

theorem right_call (C : Cd) (F : Fr) (vc vf : Value) (w : World) (hC : CdAt w C vc) (hF : FrAt w F vf) (hl : (F.loc.length + F.stk.length) * 8 ≤ 140737488355328) :
    Calls Tryd.prog 22 #[vc, vf] w (Bool1 (rightB C F) w) := by
  unfold rightB
  cases he : early C F with
  | true => simpa using right_early C F vc vf w hC hF he
  | false => simpa using right_late C F vc vf w hC hF he hl

end Go.Proofs.YtfcgjadfhojogaaDoor.Vm
