/- vm.values, vm.Child, vm.Start. vm.Start. -/
import Derived.Test.YtfcgjadfhojogaaDoorVmR
namespace Go.Proofs.YtfcgjadfhojogaaDoor.Vm
open Go.RowKit Go.Proofs.YtfcgjadfhojogaaDoorW.PrintWords Go.Proofs.YtfcgjadfhojogaaDoorW.PrintLast Go.Proofs.YtfcgjadfhojogaaDoorW.PrintMore Go.Proofs.YtfcgjadfhojogaaDoor.PVmStarts
set_option linter.unusedVariables false
set_option linter.unusedSimpArgs false

def valuesB (l : List Int) (n : Int) : Bool := decide ((l.length : Int) = n) && !l.any notV
set_option maxHeartbeats 1000000 in
theorem values_call (A : Option Addr) (c : Nat) (l : List Int) (n : Int) (w : World) (hr : Kd.C (Kd.int .i64) w A l.length l) :
    Calls Tryd.prog 40 #[.slice A l.length c, .int .i64 n] w (Bool1 (valuesB l n) w) := by
  unfold valuesB
  have hcall := containsFunc_int notV 48 #[] (fun _ _ => by kernel_rfl) A c l w hr (values1_pred w)
  by_cases h : (l.length : Int) = n
  · have hd : decide ((l.length : Int) = n) = true := decide_eq_true h
    rw [hd]
    have hb0 : ((l.length : Int) == n) = true := by simpa using hd
    clear h hd
    generalize l.any notV = r at *
    go_enter Tryd.func40, Tryd.ntmps40
    go_wp2_with fail
    refine hcall.mono ?_
    rintro e w1 ⟨rfl, hb⟩
    clear hcall
    go_wp2
    go_ret
    exact ⟨by simp, hb⟩
  · have hd : decide ((l.length : Int) = n) = false := decide_eq_false h
    have hb0 : ((l.length : Int) == n) = false := by simpa using hd
    rw [hd]
    clear h hcall hd
    go_enter Tryd.func40, Tryd.ntmps40
    go_wp2
    go_ret
    exact ⟨by simp, Below.refl _ _⟩

theorem two_cells {W : World} {k : Nat} {cs : Array Value} {t : TypeId} {v1 v7 : Value} (h : W.heap[k]? = some (.cells cs t (0, 0))) (h1 : cs[1]? = some v1) (h7 : cs[7]? = some v7) : W.cell? ⟨k, 1, none⟩ = some v1 ∧ W.cell? ⟨k, 7, none⟩ = some v7 := ⟨(blk_cells h 1).trans h1, (blk_cells h 7).trans h7⟩
theorem cell_of {W : World} {k i : Nat} {cs : Array Value} {t : TypeId} {v1 : Value} (h : W.heap[k]? = some (.cells cs t (0, 0))) (h1 : cs[i]? = some v1) : W.cell? ⟨k, i, none⟩ = some v1 := (blk_cells h i).trans h1
theorem cell_new {W : World} {a : Addr} {v : Value} (h : W.cell? a = some v) (o : Obj) : (W.alloc o).cell? a = some v := pw_cell_below (below_alloc (Below.refl _ _) o) h
theorem cell_newd {W : World} {a : Addr} {v : Value} (h : W.drew.cell? a = some v) (o : Obj) : (W.alloc o).drew.cell? a = some v := pw_cell_below (below_drew (below_alloc (Below.refl _ _) o)) (w := W) h
theorem one_row {w : World} {k : Nat} {x : Int} (h : w.heap[k]? = some (.cells #[.int .i64 x] 3 (0, 0))) : (Kd.int .i64).C w (some ⟨k, 0, none⟩) 1 [x] := by
  refine ⟨rfl, by decide, fun _ => ⟨_, rfl, fun j p hj => ?_⟩⟩
  cases j with
  | succ j => simp at hj
  | zero =>
    simp only [List.getElem?_cons_zero, Option.some.injEq] at hj
    subst hj
    exact ⟨[.int .i64 x], rfl, rfl, fun i u hu => by
      cases i with
      | succ i => simp at hu
      | zero => simp only [List.getElem?_cons_zero, Option.some.injEq] at hu; subst hu; exact blk_cells h 0⟩

def childF (F : Fr) : List Int := F.path ++ [F.many]
def Row1 (l : List Int) (w : World) (e : Ending) (w' : World) : Prop := ∃ v, e = .returned v ∧ (Kd.int .i64).R 3 w' w.heap.size (fun _ => True) v l ∧ Below w.heap.size w w'
set_option maxHeartbeats 2000000 in
theorem child_call (F : Fr) (vf : Value) (w : World) (hF : FrAt w F vf) (hl : F.path.length < 1000000) :
    Calls Tryd.prog 14 #[vf] w (Row1 (childF F) w) := by
  unfold childF
  obtain ⟨Ap, cp, Al, cl, As, cs, Ak, ck, rfl, ⟨hFp0, hFp⟩, ⟨hFl0, hFl⟩, ⟨hFs0, hFs⟩, ⟨hFk0, hFk⟩⟩ := hF
  have HL := Aside0.mk hl
  have HI := Aside0.mk info_int
  clear hl hFl hFs hFk hFp0 hFl0 hFs0 hFk0
  go_enter Tryd.func14, Tryd.ntmps14
  go_upto_region 1 with (fail)
  refine nameW ?_
  intro w1 hw1
  obtain ⟨b0, hb, hsz⟩ := one_box hw1
  clear hw1
  have HB := Aside0.mk hb
  have hcl : ∀ W, Below w1.heap.size w1 W → Calls Tryd.prog 28 #[.slice Ap F.path.length cp] W (fun e wa => ∃ A1 c1, e = .returned (.slice A1 F.path.length c1) ∧ (Kd.int .i64).R 3 wa w.heap.size (fun k => k ≠ w.heap.size) (.slice A1 F.path.length c1) F.path ∧ Below w.heap.size w wa ∧ Below W.heap.size W wa ∧ wa.heap[w.heap.size]? = some (.cells #[.int .i64 F.task, .slice Ap F.path.length cp, .int .i64 F.fn, .int .i64 F.pc, .slice Al F.loc.length cl, .slice As F.stk.length cs, .slice Ak F.kids.length ck, .int .i64 F.many, .int .i64 F.spent, .bool F.fail] 33 (0, 0))) := fun W hW =>
    (clone_int Ap cp F.path W (Kd.C_below (Kd.C_below hFp hb) hW) (by have := HL.out; omega)).mono fun e wa hp => by
      obtain ⟨v1, rfl, ho1, hba⟩ := hp
      obtain ⟨A1, c1, rfl, hcc1, _⟩ := Kd.R_reads ho1
      have hsz2 : w.heap.size + 1 ≤ W.heap.size := by have := hW.size; omega
      exact ⟨A1, c1, rfl, Kd.R_mono (Kd.R_bound (Kd.R_lower ho1 (base' := w.heap.size + 1) hsz2)) (fun k hk => by have := hk.2.1; omega) |> fun r => Kd.R_lower r (by omega), below_step hb (below_step hW hba), hba, blk_below (blk_below b0 hW) hba⟩
  clear hFp
  have f1 : w1.drew.cell? ⟨w.heap.size, 1, none⟩ = some (.slice Ap F.path.length cp) := cell_of b0 rfl
  have f7 : w1.drew.cell? ⟨w.heap.size, 7, none⟩ = some (.int .i64 F.many) := cell_of b0 rfl
  have g1 : (w1.alloc (Obj.cells #[Value.int IntKind.i64 F.many] 3)).drew.cell? ⟨w.heap.size, 1, none⟩ = some (.slice Ap F.path.length cp) := cell_of (blk_alloc b0 _) rfl
  have g7 : (w1.alloc (Obj.cells #[Value.int IntKind.i64 F.many] 3)).drew.cell? ⟨w.heap.size, 7, none⟩ = some (.int .i64 F.many) := cell_of (blk_alloc b0 _) rfl
  have hl1 : Below w1.heap.size w1 w1.drew := below_drew (Below.refl _ _)
  have hl2 : Below w1.heap.size w1 (w1.alloc (Obj.cells #[Value.int IntKind.i64 F.many] 3)).drew := below_drew (below_alloc (Below.refl _ _) _)
  have bn : (w1.alloc (Obj.cells #[Value.int IntKind.i64 F.many] 3)).drew.heap[w.heap.size + 1]? = some (Obj.cells #[Value.int IntKind.i64 F.many] 3 (0, 0)) := by rw [← hsz]; exact blk_new _ _
  have BN := Aside0.mk bn
  have B0 := Aside0.mk b0
  have HS : Aside0 (w1.heap.size = w.heap.size + 1) := ⟨hsz⟩
  clear b0 bn
  go_region_held3 (fun W => W.cell? ⟨w.heap.size, 1, none⟩ = some (.slice Ap F.path.length cp) ∧ W.cell? ⟨w.heap.size, 7, none⟩ = some (.int .i64 F.many)) (first | go_keep | exact cell_new (by assumption) _ | exact cell_newd (by assumption) _ | exact ⟨cell_new f1 _, cell_new f7 _⟩ | exact ⟨cell_newd f1 _, cell_newd f7 _⟩ | exact ⟨f1, f7⟩ | exact ⟨g1, g7⟩ | exact g1 | exact g7)
    (first
      | ((with_reducible refine (hcl _ hl1).mono ?_); rintro e wa ⟨A1, c1, rfl, hoX, hbX, hba, b0⟩; have f1 := (cell_of b0 rfl : wa.cell? ⟨w.heap.size, 1, none⟩ = some (.slice Ap F.path.length cp)); have f7 := (cell_of b0 rfl : wa.cell? ⟨w.heap.size, 7, none⟩ = some (.int .i64 F.many)))
      | ((with_reducible refine (hcl _ hl2).mono ?_); rintro e wa ⟨A1, c1, rfl, hoX, hbX, hba, b0⟩; have f1 := (cell_of b0 rfl : wa.cell? ⟨w.heap.size, 1, none⟩ = some (.slice Ap F.path.length cp)); have f7 := (cell_of b0 rfl : wa.cell? ⟨w.heap.size, 7, none⟩ = some (.int .i64 F.many)))
      | (refine Kd.R_append_rows_step (Kd.int .i64) (w0 := w) w.heap.size (by rfl) (.tmp 5) (.tmp 8) 23 3 (.int .i64 0) 8 (by rfl) Tryd.underlying23 HI.out (by rfl) (by decide) (by decide) (.slice A1 F.path.length c1) F.path [F.many] _ 1 1 (fun k => k ≠ w.heap.size) (fun _ => False) (by rfl) (by rfl) (by first | exact hoX | exact Kd.R_alloc hoX _) (by first | exact one_row (blk_new _ _) | exact one_row (blk_below BN.out hba)) (fun x cs h => h) (fun _ hk => hk.elim) (fun k hk => by have := blk_lt b0; (try simp at hk); omega) (by first | exact hbX | exact below_alloc hbX _) (by first | exact hbX.size | exact (below_alloc hbX _).size) (by have := HL.out; omega) ?_; intro v1 w4 ho hb4 hg hat; have hne := Kd.R_away hoX (g := w.heap.size) (fun k hk => hk); have f1 := World.grownBy.cell hg (by first | exact f1 | exact cell_new f1 _) hne; have f7 := World.grownBy.cell hg (by first | exact f7 | exact cell_new f7 _) hne)
      | fail "no")
  all_goals
    clear g1 g7 hl1 hl2 f1 f7
    have HO := Aside0.mk ho
    clear ho hoX hat hg hcl
    go_wp2
    go_ret
    exact ⟨v1, rfl, Kd.R_mono HO.out (fun _ _ => trivial), hb4⟩



def okStart (C : Cd) (fn : Int) (args : List Int) (task : Int) : Bool :=
  decide (0 ≤ fn ∧ fn < (C.funs.length : Int) ∧ 1 ≤ task ∧ (rd_T65 C.funs fn).f0 = (args.length : Int) ∧ (rd_T65 C.funs fn).f0 ≤ (rd_T65 C.funs fn).f1) && !args.any notV
def frame0 : Fr := ⟨0, [], 0, 0, [], [], [], 0, 0, false⟩
def startF (C : Cd) (fn : Int) (args : List Int) (task : Int) (path : List Int) : Fr × Int :=
  if okStart C fn args task then (⟨task, path, fn, 0, args ++ List.replicate ((rd_T65 C.funs fn).f1.toNat - args.length) 0, [], [], 0, 0, false⟩, 0) else (frame0, 1)
def Framed (r : Fr × Int) (w : World) (e : Ending) (w' : World) : Prop := ∃ v, e = .returned (.tuple #[v, .int .i64 r.2]) ∧ FrAt w' r.1 v ∧ Below w.heap.size w w'

theorem start_results (tmps : Array Value) (w : World) (bo : Nat) (cf : Array Value) (x : Int) (h4 : tmps.getD 10 undef = .pointer (some ⟨bo, 0, none⟩)) (h5 : tmps.getD 11 undef = .int .i64 x)
    (ho : w.heap[bo]? = some (.cells cf 33 (0, 0))) (s1 : cf.size = 10) :
    (results Tryd.f12 tmps).run Tryd.prog w = .ok (.tuple #[.agg cf, .int .i64 x]) w := by
  have i1 : (Tryd.prog.info? 33).map (·.size) = some cf.size := by rw [s1]; kernel_rfl
  have h4' : tmps[10]?.getD undef = .pointer (some ⟨bo, 0, none⟩) := by simpa using h4
  have h5' : tmps[11]?.getD undef = .int .i64 x := by simpa using h5
  simp [results, Tryd.results12, h4', h5', asAddr, run_loadVar_row w bo _ 33 cf _ _ ho Tryd.underlying33 rfl i1]

theorem OnlyB.below {b B : Nat} {w0 w w' : World} (h : OnlyB b w w') (hb : Below B w0 w) (hB : B ≤ b) : Below B w0 w' :=
  ⟨h.os.trans hb.os, h.tape.trans hb.tape, h.output.trans hb.output, Nat.le_trans hb.size h.size, fun k hk => (h.far k (by omega)).trans (hb.block k hk)⟩
theorem only_row {b base n c : Nat} {w w' : World} {cs : Array Value} {t : TypeId} {A : Option Addr} {l : List Int} (h : OnlyB b w w') (hb : w.heap[b]? = some (.cells cs t (0, 0))) (ht : t ≠ 3) (hr : (Kd.int .i64).R 3 w base (fun _ => True) (.slice A n c) l) :
    n = l.length ∧ l.length ≤ c ∧ (Kd.int .i64).C w' A l.length l := by
  have r1 := Kd.R_types hr hb (fun q hq he => ht (he.symm.trans (by simpa [Kd.int, Kd.scalar] using hq)))
  have r2 := Kd.R_reads' (Kd.R_step r1 (fun k hk _ => h.far k hk.2))
  exact ⟨r2.1, by have := r2.2.1; have := r2.1; omega, r2.2.2⟩
theorem zero_at (w : World) : FrAt w frame0 (.agg zFr) := ⟨none, 0, none, 0, none, 0, none, 0, rfl, ⟨by decide, Kd.C_nil _ _⟩, ⟨by decide, Kd.C_nil _ _⟩, ⟨by decide, Kd.C_nil _ _⟩, ⟨by decide, Kd.C_nil _ _⟩⟩

set_option maxHeartbeats 4000000 in
theorem start_early (C : Cd) (vc : Value) (fn : Int) (Aa : Option Addr) (ca : Nat) (args : List Int) (task : Int) (Ap : Option Addr) (cp : Nat) (path : List Int) (w : World) (hC : CdAt w C vc)
    (hn : ¬ (0 ≤ fn ∧ fn < (C.funs.length : Int) ∧ 1 ≤ task)) :
    Calls Tryd.prog 12 #[vc, .int .i64 fn, .slice Aa args.length ca, .int .i64 task, .slice Ap path.length cp] w (Framed (frame0, 1) w) := by
  obtain ⟨Af, cf, Ac, cc, rfl, hcf, hCf, hcc, hCc⟩ := hC
  clear hCf hCc hcf hcc
  go_enter Tryd.func12, Tryd.ntmps12
  go_upto_region 1 with (fail)
  refine nameW ?_
  intro w1 hw1
  obtain ⟨b0, b1, hb, hsz⟩ := two_boxes hw1
  clear hw1
  have q0 := blk_cells b0
  have q2 := blk_cells b1
  have q1 : ∀ i, w1.frozen? ⟨w.heap.size + 1, i, none⟩ = false := blk_frozen b1
  have B1 := Aside0.mk b1
  have HB := Aside0.mk hb
  clear b0 b1 hb
  by_cases h1 : fn < 0
  · have d1 : decide (fn < 0) = true := decide_eq_true h1
    clear hn h1
    go_upto_region 2 with (fail)
    go_wp2
    refine bodyPost_ret (start_results _ _ (w.heap.size + 1) _ _ rfl rfl (sets10 B1.out _ _ _ _ _ _ _ _ _ _) rfl) rfl ?_
    exact ⟨_, rfl, zero_at _, (only10 w1 (w.heap.size + 1) _ _ _ _ _ _ _ _ _ _).below HB.out (by omega)⟩
  have d1 : decide (fn < 0) = false := decide_eq_false h1
  by_cases h2 : (C.funs.length : Int) ≤ fn
  · have d2 : decide ((C.funs.length : Int) ≤ fn) = true := decide_eq_true h2
    clear hn h1 h2
    go_upto_region 2 with (fail)
    go_wp2
    refine bodyPost_ret (start_results _ _ (w.heap.size + 1) _ _ rfl rfl (sets10 B1.out _ _ _ _ _ _ _ _ _ _) rfl) rfl ?_
    exact ⟨_, rfl, zero_at _, (only10 w1 (w.heap.size + 1) _ _ _ _ _ _ _ _ _ _).below HB.out (by omega)⟩
  have d2 : decide ((C.funs.length : Int) ≤ fn) = false := decide_eq_false h2
  have d3 : decide (task < 1) = true := decide_eq_true (by omega)
  clear hn h1 h2
  · go_upto_region 2 with (fail)
    go_wp2
    refine bodyPost_ret (start_results _ _ (w.heap.size + 1) _ _ rfl rfl (sets10 B1.out _ _ _ _ _ _ _ _ _ _) rfl) rfl ?_
    exact ⟨_, rfl, zero_at _, (only10 w1 (w.heap.size + 1) _ _ _ _ _ _ _ _ _ _).below HB.out (by omega)⟩

set_option maxHeartbeats 8000000 in
set_option maxRecDepth 100000 in
theorem start_late (C : Cd) (vc : Value) (fn : Int) (Aa : Option Addr) (ca : Nat) (args : List Int) (task : Int) (Ap : Option Addr) (cp : Nat) (path : List Int) (w : World) (hC : CdAt w C vc)
    (ha : Kd.C (Kd.int .i64) w Aa args.length args) (hp : Kd.C (Kd.int .i64) w Ap path.length path) (hl : path.length < 1000000) (hL : (rd_T65 C.funs fn).f1 < 1000000)
    (hn : 0 ≤ fn ∧ fn < (C.funs.length : Int) ∧ 1 ≤ task) :
    Calls Tryd.prog 12 #[vc, .int .i64 fn, .slice Aa args.length ca, .int .i64 task, .slice Ap path.length cp] w (Framed (startF C fn args task path) w) := by
  obtain ⟨hf0, hf1, ht⟩ := hn
  generalize hr : startF C fn args task path = r
  unfold startF okStart at hr
  rw [show decide (0 ≤ fn ∧ fn < (C.funs.length : Int) ∧ 1 ≤ task ∧ (rd_T65 C.funs fn).f0 = (args.length : Int) ∧ (rd_T65 C.funs fn).f0 ≤ (rd_T65 C.funs fn).f1) = decide ((rd_T65 C.funs fn).f0 = (args.length : Int) ∧ (rd_T65 C.funs fn).f0 ≤ (rd_T65 C.funs fn).f1) from by simp only [hf0, hf1, ht, true_and]] at hr
  obtain ⟨Af, cf, Ac, cc, rfl, hcf, hCf, hcc, hCc⟩ := hC
  obtain ⟨ad, A2, c2', rfl, k0, k1, k2, hb3, hb4⟩ := at_T65 hCf fn hf0 hf1
  have d1 : decide (fn < 0) = false := decide_eq_false (by omega)
  have d2 : decide ((C.funs.length : Int) ≤ fn) = false := decide_eq_false (by omega)
  have d3 : decide (task < 1) = false := decide_eq_false (by omega)
  have HA := Aside0.mk ha
  have HP := Aside0.mk hp
  have HPL := Aside0.mk hl
  have HLL := Aside0.mk hL
  clear ha hp hCf hCc hb3 hb4 ht hcf hcc hl hL
  generalize rd_T65 C.funs fn = B at *
  obtain ⟨bargs, blocals, bins⟩ := B
  simp only at *
  by_cases h4 : bargs = (args.length : Int)
  · subst h4
    by_cases h5 : blocals < (args.length : Int)
    · rw [show decide ((args.length : Int) = (args.length : Int) ∧ (args.length : Int) ≤ blocals) = false from decide_eq_false (by omega)] at hr
      simp only [Bool.false_and, Bool.false_eq_true, if_false] at hr
      subst hr
      have e5 : decide (blocals < (args.length : Int)) = true := decide_eq_true h5
      clear h5
      go_enter Tryd.func12, Tryd.ntmps12
      go_upto_region 1 with (fail)
      refine nameW ?_
      intro w1 hw1
      obtain ⟨b0, b1, hb, hsz⟩ := two_boxes hw1
      clear hw1
      replace k0 := pw_cell_below hb k0
      replace k1 := pw_cell_below hb k1
      replace k2 := pw_cell_below hb k2
      have q0 := blk_cells b0
      go_upto_region 4 with (fail)
      refine nameW ?_
      intro w2 hw2
      obtain ⟨b3, hb5, hsz2⟩ := one_box hw2
      clear hw2
      replace b1 := blk_below b1 hb5
      rw [hsz] at b3
      clear q0 k0 k1 k2 b0
      have hcon := containsFunc_int notV 26 #[] (fun _ _ => by kernel_rfl) Aa ca args w2 (Kd.C_below HA.out (below_step hb hb5)) (start1_pred w2)
      have HB := Aside0.mk (below_step hb hb5)
      have B3 := Aside0.mk b3
      have B1 := Aside0.mk b1
      have q2 := blk_cells b1
      have q1 : ∀ i, w2.frozen? ⟨w.heap.size + 1, i, none⟩ = false := blk_frozen b1
      have q3 := blk_cells b3
      clear b1 b3 hb hb5
      clear hcon
      go_wp2
      refine bodyPost_ret (start_results _ _ (w.heap.size + 1) _ _ rfl rfl (sets10 B1.out _ _ _ _ _ _ _ _ _ _) rfl) rfl ?_
      exact ⟨_, rfl, zero_at _, (only10 w2 (w.heap.size + 1) _ _ _ _ _ _ _ _ _ _).below HB.out (by omega)⟩
    rw [show decide ((args.length : Int) = (args.length : Int) ∧ (args.length : Int) ≤ blocals) = true from decide_eq_true ⟨rfl, by omega⟩] at hr
    have e5 : decide (blocals < (args.length : Int)) = false := decide_eq_false h5
    have HBB : Aside0 (args.length ≤ blocals.toNat ∧ 0 ≤ blocals) := ⟨by omega, by omega⟩
    simp only [Bool.true_and] at hr
    clear h5
    cases hn : args.any notV with
    | true =>
      rw [hn] at hr
      simp only [Bool.not_true, Bool.false_eq_true, if_false] at hr
      subst hr
      go_enter Tryd.func12, Tryd.ntmps12
      go_upto_region 1 with (fail)
      refine nameW ?_
      intro w1 hw1
      obtain ⟨b0, b1, hb, hsz⟩ := two_boxes hw1
      clear hw1
      replace k0 := pw_cell_below hb k0
      replace k1 := pw_cell_below hb k1
      replace k2 := pw_cell_below hb k2
      have q0 := blk_cells b0
      go_upto_region 4 with (fail)
      refine nameW ?_
      intro w2 hw2
      obtain ⟨b3, hb5, hsz2⟩ := one_box hw2
      clear hw2
      replace b1 := blk_below b1 hb5
      rw [hsz] at b3
      clear q0 k0 k1 k2 b0
      have hcon := containsFunc_int notV 26 #[] (fun _ _ => by kernel_rfl) Aa ca args w2 (Kd.C_below HA.out (below_step hb hb5)) (start1_pred w2)
      have HB := Aside0.mk (below_step hb hb5)
      have B3 := Aside0.mk b3
      have B1 := Aside0.mk b1
      have q2 := blk_cells b1
      have q1 : ∀ i, w2.frozen? ⟨w.heap.size + 1, i, none⟩ = false := blk_frozen b1
      have q3 := blk_cells b3
      clear b1 b3 hb hb5
      rw [hn] at hcon
      clear hn
      go_upto_region 5 with ((with_reducible refine hcon.mono ?_); rintro e w3 ⟨rfl, hb3⟩)
      have HB3 := Aside0.mk (below_step HB.out hb3)
      have B13 := Aside0.mk (blk_below B1.out hb3)
      have q2' := blk_cells B13.out
      have q1' : ∀ i, w3.frozen? ⟨w.heap.size + 1, i, none⟩ = false := blk_frozen B13.out
      clear q1 q2 q3 hcon
      go_wp2
      refine bodyPost_ret (start_results _ _ (w.heap.size + 1) _ _ rfl rfl (sets10 B13.out _ _ _ _ _ _ _ _ _ _) rfl) rfl ?_
      exact ⟨_, rfl, zero_at _, (only10 w3 (w.heap.size + 1) _ _ _ _ _ _ _ _ _ _).below HB3.out (by omega)⟩
    | false =>
      rw [hn] at hr
      simp only [Bool.not_false, if_true] at hr
      subst hr
      go_enter Tryd.func12, Tryd.ntmps12
      go_upto_region 1 with (fail)
      refine nameW ?_
      intro w1 hw1
      obtain ⟨b0, b1, hb, hsz⟩ := two_boxes hw1
      clear hw1
      replace k0 := pw_cell_below hb k0
      replace k1 := pw_cell_below hb k1
      replace k2 := pw_cell_below hb k2
      have q0 := blk_cells b0
      go_upto_region 4 with (fail)
      refine nameW ?_
      intro w2 hw2
      obtain ⟨b3, hb5, hsz2⟩ := one_box hw2
      clear hw2
      replace b1 := blk_below b1 hb5
      rw [hsz] at b3
      clear q0 k0 k1 k2 b0
      have hcon := containsFunc_int notV 26 #[] (fun _ _ => by kernel_rfl) Aa ca args w2 (Kd.C_below HA.out (below_step hb hb5)) (start1_pred w2)
      have HB := Aside0.mk (below_step hb hb5)
      have B3 := Aside0.mk b3
      have B1 := Aside0.mk b1
      have q2 := blk_cells b1
      have q1 : ∀ i, w2.frozen? ⟨w.heap.size + 1, i, none⟩ = false := blk_frozen b1
      have q3 := blk_cells b3
      clear b1 b3 hb hb5
      rw [hn] at hcon
      clear hn
      go_upto_region 6 with ((with_reducible refine hcon.mono ?_); rintro e w3 ⟨rfl, hb3⟩)
      have HB3 := Aside0.mk (below_step HB.out hb3)
      have B13 := Aside0.mk (blk_below B1.out hb3)
      have q3' := blk_cells (blk_below B3.out hb3)
      clear q1 q2 q3 hcon
      have HI := Aside0.mk info_int
      go_upto_region 7 with ((with_reducible refine gate_dst (N := 52) rfl ?_); (try (refine gate_guard (by rfl) ?_; dsimp only)); refine Kd.R_make (Kd.int .i64) (w0 := w3) w3.heap.size 3 rfl rfl 23 _ _ rfl blocals rfl rfl Tryd.underlying23 (.int .i64 0) 8 HI.out rfl (by decide) (by decide) (0 : Int) (ok := fun _ => True) (okp := fun _ => False) rfl (fun _ h => h.elim) trivial HBB.out.2 ?hl (Below.refl _ _) (Nat.le_refl _) ?_)
      case hl => have := HLL.out; omega
      intro v1 w4 ho hb4 hg x hx hxl
      obtain ⟨A1, c1, rfl, hcc1, _⟩ := Kd.R_reads ho
      have hbl := HBB.out
      rw [List.length_replicate] at ho
      have HO := Aside0.mk ho
      have HB4 := Aside0.mk hb4
      clear ho hg hx hxl hcc1 q3'
      rw [List.length_replicate]
      have HA4 := Aside0.mk (Kd.C_below HA.out (below_step HB3.out hb4))
      have HI1 : Aside0 ((Tryd.prog.info? 3).map (·.size) = some 1) := ⟨by kernel_rfl⟩
      go_upto_region 8 with ((with_reducible refine gate_builtin (b := .copy) (xs := #[.tmp 53, .tmp 54]) rfl ?_); refine Kd.R_copy (0 : Int) (w0 := w3) w3.heap.size rfl (.tmp 53) (.tmp 54) 23 23 3 rfl Tryd.underlying23 HI1.out (.slice A1 blocals.toNat c1) (List.replicate blocals.toNat (0 : Int)) args Aa args.length ca (fun _ => True) rfl rfl HO.out HA4.out HB4.out HB4.out.size ?_; intro w5 ho5 hb5 hg5)
      have hle : min args.length (List.replicate blocals.toNat (0 : Int)).length = args.length := by simp; omega
      rw [hle, List.take_length, List.drop_replicate] at ho5
      have HO5 := Aside0.mk ho5
      have HB5 := Aside0.mk (below_step HB3.out hb5)
      have B15 := Aside0.mk (blk_below B13.out hb5)
      have hcl := clone_int Ap cp path w5 (Kd.C_below HP.out (below_step HB3.out hb5)) (by have := HPL.out; omega)
      clear ho5 hb5 hg5 hle
      go_wp2_with ((with_reducible refine hcl.mono ?_); rintro e w6 ⟨v6, rfl, ho6, hb6⟩; obtain ⟨A6, c6, rfl, hcc6, hr6⟩ := Kd.R_reads ho6; have B16 := Aside0.mk (blk_below B15.out hb6); have q6 := blk_cells B16.out; have q6' := (blk_frozen B16.out : ∀ i, w6.frozen? ⟨w.heap.size + 1, i, none⟩ = false))
      refine bodyPost_ret (start_results _ _ (w.heap.size + 1) _ _ rfl rfl (sets10 B16.out _ _ _ _ _ _ _ _ _ _) rfl) rfl ?_
      obtain ⟨g1, g2, g3⟩ := only_row (only10 w6 (w.heap.size + 1) _ _ _ _ _ _ _ _ _ _) B16.out (by decide) ho6
      obtain ⟨g4, g5, g6⟩ := only_row (only10 w6 (w.heap.size + 1) _ _ _ _ _ _ _ _ _ _) B16.out (by decide) (Kd.R_below HO5.out hb6)
      refine ⟨_, rfl, ⟨A6, c6, A1, c1, none, 0, none, 0, by rw [show Value.slice A1 blocals.toNat c1 = Value.slice A1 (args ++ List.replicate (blocals.toNat - args.length) 0).length c1 from congrArg (fun n => Value.slice A1 n c1) g4]; rfl, ⟨g2, g3⟩, ⟨g5, g6⟩, ⟨Nat.le_refl 0, Kd.C_nil _ _⟩, ⟨Nat.le_refl 0, Kd.C_nil _ _⟩⟩, (only10 w6 (w.heap.size + 1) _ _ _ _ _ _ _ _ _ _).below (below_step HB5.out hb6) (by omega)⟩
  · rw [show decide (bargs = (args.length : Int) ∧ bargs ≤ blocals) = false from decide_eq_false (by omega)] at hr
    simp only [Bool.false_and, Bool.false_eq_true, if_false] at hr
    subst hr
    have e4 : (bargs != (args.length : Int)) = true := by simpa using h4
    clear h4
    go_enter Tryd.func12, Tryd.ntmps12
    go_upto_region 1 with (fail)
    refine nameW ?_
    intro w1 hw1
    obtain ⟨b0, b1, hb, hsz⟩ := two_boxes hw1
    clear hw1
    replace k0 := pw_cell_below hb k0
    replace k1 := pw_cell_below hb k1
    replace k2 := pw_cell_below hb k2
    have q0 := blk_cells b0
    go_upto_region 4 with (fail)
    refine nameW ?_
    intro w2 hw2
    obtain ⟨b3, hb5, hsz2⟩ := one_box hw2
    clear hw2
    replace b1 := blk_below b1 hb5
    rw [hsz] at b3
    clear q0 k0 k1 k2 b0
    have hcon := containsFunc_int notV 26 #[] (fun _ _ => by kernel_rfl) Aa ca args w2 (Kd.C_below HA.out (below_step hb hb5)) (start1_pred w2)
    have HB := Aside0.mk (below_step hb hb5)
    have B3 := Aside0.mk b3
    have B1 := Aside0.mk b1
    have q2 := blk_cells b1
    have q1 : ∀ i, w2.frozen? ⟨w.heap.size + 1, i, none⟩ = false := blk_frozen b1
    have q3 := blk_cells b3
    clear b1 b3 hb hb5
    clear hcon
    go_wp2
    refine bodyPost_ret (start_results _ _ (w.heap.size + 1) _ _ rfl rfl (sets10 B1.out _ _ _ _ _ _ _ _ _ _) rfl) rfl ?_
    exact ⟨_, rfl, zero_at _, (only10 w2 (w.heap.size + 1) _ _ _ _ _ _ _ _ _ _).below HB.out (by omega)⟩


theorem start_call (C : Cd) (vc : Value) (fn : Int) (Aa : Option Addr) (ca : Nat) (args : List Int) (task : Int) (Ap : Option Addr) (cp : Nat) (path : List Int) (w : World) (hC : CdAt w C vc)
    (ha : Kd.C (Kd.int .i64) w Aa args.length args) (hp : Kd.C (Kd.int .i64) w Ap path.length path) (hl : path.length < 1000000) (hL : 0 ≤ fn → fn < (C.funs.length : Int) → (rd_T65 C.funs fn).f1 < 1000000) :
    Calls Tryd.prog 12 #[vc, .int .i64 fn, .slice Aa args.length ca, .int .i64 task, .slice Ap path.length cp] w (Framed (startF C fn args task path) w) := by
  by_cases hn : 0 ≤ fn ∧ fn < (C.funs.length : Int) ∧ 1 ≤ task
  · exact start_late C vc fn Aa ca args task Ap cp path w hC ha hp hl (hL hn.1 hn.2.1) hn
  · have : okStart C fn args task = false := by
      unfold okStart
      rw [decide_eq_false (fun h => hn ⟨h.1, h.2.1, h.2.2.1⟩), Bool.false_and]
    unfold startF
    rw [if_neg (by simp [this])]
    exact start_early C vc fn Aa ca args task Ap cp path w hC hn

end Go.Proofs.YtfcgjadfhojogaaDoor.Vm
