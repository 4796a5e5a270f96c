/- The instruction that asks for an operation. -/
import Derived.Test.YtfcgjadfhojogaaDoorVmG
import Derived.RegionTactic
namespace Go.Proofs.YtfcgjadfhojogaaDoor.Vm
open Go.RowKit Go.Proofs.YtfcgjadfhojogaaDoorW.PrintWords Go.Proofs.YtfcgjadfhojogaaDoorW.PrintLast Go.Proofs.YtfcgjadfhojogaaDoorW.PrintMore Go.Proofs.YtfcgjadfhojogaaDoor.PVmStarts
set_option linter.unusedVariables false
set_option linter.unusedSimpArgs false

theorem objs_range (C : Cd) (k : Int) : 0 ≤ (objs C k).2 ∧ (objs C k).2 ≤ 2 := by
  unfold objs
  repeat' split
  all_goals simp

theorem key_eq (n : Int) (h1 : -9223372036854775808 ≤ n) (h2 : n ≤ 9223372036854775807) : Int.tmod (wrap64 (Int.tmod n 65536 + 65536)) 65536 = keyI n := by
  have h3 := Int.mul_tdiv_add_tmod n 65536
  have h4 := Int.tmod_lt_of_pos n (show (0 : Int) < 65536 by omega)
  have h5 := Int.lt_tmod_of_pos n (show (0 : Int) < 65536 by omega)
  generalize Int.tmod n 65536 = t at *
  generalize Int.tdiv n 65536 = q at *
  have h6 : wrap64 (t + 65536) = t + 65536 := by unfold wrap64; omega
  rw [h6, Int.tmod_eq_emod_of_nonneg (by omega)]
  unfold keyI
  omega
theorem key_call (n : Int) (w : World) (h1 : -9223372036854775808 ≤ n) (h2 : n ≤ 9223372036854775807) :
    Calls Tryd.prog 16 #[.int .i64 n] w fun e w' => e = .returned (.int .i64 (keyI n)) ∧ w' = w := by
  have HE := Aside0.mk (key_eq n h1 h2)
  clear h1 h2
  go_enter Tryd.func16, Tryd.ntmps16
  go_wp2
  go_ret
  exact ⟨by rw [← HE.out]; rfl, rfl⟩

/-- A new row of numbers, read. -/
theorem lit_reads (w : World) (l : List Int) (hl : l.length ≤ 9223372036854775807) : (Kd.int .i64).C (w.alloc (.cells (nums .i64 l).toArray 3)) (some ⟨w.heap.size, 0, none⟩) l.length l := by
  have h := own_lit w 0 3 .i64 l (Nat.zero_le _) hl
  have hR : (Kd.int .i64).R 3 (w.alloc (.cells (nums .i64 l).toArray 3)) 0 (fun _ => True) (.slice (some ⟨w.heap.size, 0, none⟩) l.length l.length) l := Kd.R_of_own h (fun _ _ => trivial)
  obtain ⟨A1, c1, he, _, hr⟩ := Kd.R_reads hR
  injection he with hA _ _
  subst hA
  exact hr

theorem head_two {w : World} {base : Nat} {v : Value} {l : List Int} (h : (Kd.int .i64).R 3 w base (fun _ => True) v l) (h2 : 2 ≤ l.length) :
    ∃ g cap, v = .slice (some ⟨g, 0, none⟩) l.length cap ∧ w.cell? ⟨g, 0, none⟩ = some (.int .i64 (rd l 0)) ∧ w.cell? ⟨g, 1, none⟩ = some (.int .i64 (rd l 1)) := by
  obtain ⟨A, c, rfl, hc, hr⟩ := Kd.R_reads h
  obtain ⟨inner, ho⟩ := Kd.R_own h
  obtain ⟨g, cap, he, _, _⟩ := ho.form (by omega)
  injection he with hA _ hcc
  subst hA
  obtain ⟨ad, e0, h0⟩ := Kd.at_int hr 0 (by omega) (by omega)
  obtain ⟨ad1, e1, h1⟩ := Kd.at_int hr 1 (by omega) (by omega)
  cases e0
  cases e1
  exact ⟨g, c, rfl, by simpa [Addr.add] using h0, by simpa [Addr.add] using h1⟩

set_option maxHeartbeats 40000000 in
set_option maxRecDepth 100000 in
theorem ins_call {w0 w : World} {b : Nat} {C : Cd} {B : S65} {F : Fr} {p : Pt} {vl vs : Value} (h : RunAt w0 w b C B F p vl vs) (ok : OkF F) (i : S53) :
    Calls Tryd.prog 87 #[.pointer (some ⟨b, 0, none⟩), .agg #[.int .i64 i.f0, .int .i64 i.f1, .int .i64 i.f2, .int .i64 i.f3]] w (Outcome w0 w b C B p vl (iCall C i F)) := by
  unfold iCall
  by_cases hx : ¬ (0 ≤ i.f2 ∧ i.f2 < (objs C i.f1).1 ∧ i.f3 = (objs C i.f1).2)
  · rw [if_neg hx]
    by_cases h0 : 0 ≤ i.f2
    · by_cases h1 : i.f2 < (objs C i.f1).1
      · have h2 : ¬ i.f3 = (objs C i.f1).2 := fun hh => hx ⟨h0, h1, hh⟩
        have c0 : decide (0 ≤ i.f2) = true := decide_eq_true h0
        have c1 : decide (i.f2 < (objs C i.f1).1) = true := decide_eq_true h1
        have c2 : (i.f3 == (objs C i.f1).2) = false := beq_eq_false_iff_ne.2 h2
        clear h0 h1 h2
        go_enter Tryd.func87, Tryd.ntmps87
        go_upto_region 1 with (fail)
        refine nameW ?_
        intro w1 hw1
        obtain ⟨b0, hb, hsz⟩ := one_box hw1
        clear hw1
        have h1 := h.mono hb
        have K1 := Aside0.mk (Keeps.of_below hb)
        have H1 := Aside0.mk h1
        have hob := objects_call h1 i.f1
        have q0 := blk_cells b0
        have hmf := must_false 1 w1
        generalize objs C i.f1 = mo at *
        clear h h1 b0 hb hsz hx
        go_wp2_with (first | ((with_reducible refine hob.mono ?_); rintro e w' ⟨rfl, rfl⟩) | ((with_reducible refine hmf.mono ?_); rintro e w' ⟨rfl, rfl⟩))
        exact ⟨rfl, rfl, K1.out, H1.out.below⟩
      · skip
        have c0 : decide (0 ≤ i.f2) = true := decide_eq_true h0
        have c1 : decide (i.f2 < (objs C i.f1).1) = false := decide_eq_false h1
        clear h0 h1
        go_enter Tryd.func87, Tryd.ntmps87
        go_upto_region 1 with (fail)
        refine nameW ?_
        intro w1 hw1
        obtain ⟨b0, hb, hsz⟩ := one_box hw1
        clear hw1
        have h1 := h.mono hb
        have K1 := Aside0.mk (Keeps.of_below hb)
        have H1 := Aside0.mk h1
        have hob := objects_call h1 i.f1
        have q0 := blk_cells b0
        have hmf := must_false 1 w1
        generalize objs C i.f1 = mo at *
        clear h h1 b0 hb hsz hx
        go_wp2_with (first | ((with_reducible refine hob.mono ?_); rintro e w' ⟨rfl, rfl⟩) | ((with_reducible refine hmf.mono ?_); rintro e w' ⟨rfl, rfl⟩))
        exact ⟨rfl, rfl, K1.out, H1.out.below⟩
    · skip
      have c0 : decide (0 ≤ i.f2) = false := decide_eq_false h0
      clear h0
      go_enter Tryd.func87, Tryd.ntmps87
      go_upto_region 1 with (fail)
      refine nameW ?_
      intro w1 hw1
      obtain ⟨b0, hb, hsz⟩ := one_box hw1
      clear hw1
      have h1 := h.mono hb
      have K1 := Aside0.mk (Keeps.of_below hb)
      have H1 := Aside0.mk h1
      have hob := objects_call h1 i.f1
      have q0 := blk_cells b0
      have hmf := must_false 1 w1
      generalize objs C i.f1 = mo at *
      clear h h1 b0 hb hsz hx
      go_wp2_with (first | ((with_reducible refine hob.mono ?_); rintro e w' ⟨rfl, rfl⟩) | ((with_reducible refine hmf.mono ?_); rintro e w' ⟨rfl, rfl⟩))
      exact ⟨rfl, rfl, K1.out, H1.out.below⟩
  · have hx := Decidable.not_not.1 hx
    rw [if_pos hx]
    obtain ⟨h0, h1, h2⟩ := hx
    have c0 : decide (0 ≤ i.f2) = true := decide_eq_true h0
    have c1 : decide (i.f2 < (objs C i.f1).1) = true := decide_eq_true h1
    have c2 : (i.f3 == (objs C i.f1).2) = true := beq_iff_eq.2 h2
    have hn0 : 0 ≤ (objs C i.f1).2 ∧ (objs C i.f1).2 ≤ 2 := objs_range C i.f1
    unfold popsF
    clear h0 h1 h2
    by_cases hlen : (objs C i.f1).2.toNat ≤ F.stk.length
    · rw [if_pos hlen]
      have hsplit : F.stk = F.stk.take (F.stk.length - (objs C i.f1).2.toNat) ++ F.stk.drop (F.stk.length - (objs C i.f1).2.toNat) := (List.take_append_drop _ _).symm
      have hll : (F.stk.drop (F.stk.length - (objs C i.f1).2.toNat)).length = (objs C i.f1).2.toNat := by rw [List.length_drop]; omega
      have hvals : ∀ x, x ∈ F.stk.drop (F.stk.length - (objs C i.f1).2.toNat) → isV x = true := fun x hx => ok.stk x (List.mem_of_mem_drop hx)
      generalize F.stk.drop (F.stk.length - (objs C i.f1).2.toNat) = l at *
      generalize F.stk.take (F.stk.length - (objs C i.f1).2.toNat) = s at *
      by_cases h3 : i.f1 ≤ 3
      · have d3 : decide (i.f1 ≤ 3) = true := decide_eq_true h3
        simp only [if_pos h3]
        clear h3
        go_enter Tryd.func87, Tryd.ntmps87
        go_upto_region 1 with (fail)
        refine nameW ?_
        intro w1 hw1
        obtain ⟨b0, hb, hsz⟩ := one_box hw1
        clear hw1
        have h1 := h.mono hb
        have K1 := Aside0.mk (Keeps.of_below hb)
        have H1 := Aside0.mk h1
        have hob := objects_call h1 i.f1
        have hpo := pops_some h1 s l hsplit (by omega)
        have hlz : (l.length : Int) = (objs C i.f1).2 := by omega
        rw [hlz] at hpo
        have HV := Aside0.mk hvals
        have HLL := Aside0.mk hll
        have HN := Aside0.mk hn0
        have B0 := Aside0.mk b0
        have q0 := blk_cells b0
        have hmt := must_true 1 w1
        have HI := Aside0.mk info_int
        clear h h1 b0 hb hsz hsplit hvals hlen hll hn0 hlz
        go_upto_region 3 with (first | ((with_reducible refine hob.mono ?_); rintro e w' ⟨rfl, rfl⟩) | ((with_reducible refine hmt.mono ?_); rintro e w' ⟨rfl, rfl⟩))
        go_wp2_with fail
        refine hpo.mono ?_
        rintro e w3 ⟨v, rfl, ho, k3, vs3, h3, hne⟩
        clear hpo hob hmt q0 c0 c1 c2
        obtain ⟨A3, c3, rfl, hc3, _⟩ := Kd.R_reads ho
        have HO := Aside0.mk (Kd.R_alloc ho (.cells #[.int .i64 0, .int .i64 0] 3))
        have HL2 : Aside0 ((l.length + 2) * 8 ≤ 140737488355328) := ⟨by have := HLL.out; have := HN.out; omega⟩
        go_wp2_with (at_builtin; refine Kd.R_append_rows (Kd.int .i64) (w0 := w3) w'.heap.size rfl (.tmp 33) (.tmp 34) 23 3 (.int .i64 0) 8 rfl Tryd.underlying23 HI.out rfl (by decide) (by decide) (.slice A3 l.length c3) l [0, 0] (some ⟨w3.heap.size, 0, none⟩) 2 2 (fun _ => True) (fun _ => False) rfl rfl HO.out (lit_reads w3 [0, 0] (by simp)) (fun x cs h => h) (fun _ hk => hk.elim) (fun _ _ => trivial) ((Below.refl _ _).alloc k3.size _) (Nat.le_trans k3.size (by simp)) HL2.out ?_)
        intro v4 w4 ho4 hb4 hg4 hat4
        have hal := below_alloc (Below.refl w3.heap.size w3) (.cells #[.int .i64 0, .int .i64 0] 3)
        obtain ⟨inn, hinn⟩ := Kd.R_own ho
        obtain ⟨inl, hinl⟩ := Kd.R_own H1.out.loc
        have h4 := (h3.mono hal).far hg4 (below_weaken h3.below H1.out.below.size hb4) (Kd.R_ne ho h3.blk (by decide)) (fun k hk hh => by have e1 := own_base hinn k hh.symm; have e2 := own_lt hinl k hk; omega) (fun k hk hh => hne k hh.symm hk)
        have K4 := Aside0.mk (K1.out.trans (k3.trans ((Keeps.of_below hal).trans (Keeps.grown (hinn.alloc _) hg4))))
        obtain ⟨g, cap, rfl, hcA, hcB⟩ := head_two ho4 (by simp)
        have B4 := Aside0.mk ((k3.trans ((Keeps.of_below hal).trans (Keeps.grown (hinn.alloc _) hg4))).blk _ _ _ B0.out (by decide) (by decide))
        have q0 := blk_cells B4.out
        have H4 := Aside0.mk h4
        have hl4 : 1 < (l ++ [0, 0]).length := by simp
        have HR0 : Aside0 (isV (rd (l ++ [0, 0]) 0) = true) := ⟨by
          cases l with
          | nil => simp [rd, isV]
          | cons a r => simpa [rd] using HV.out a (by simp)⟩
        clear ho k3 h3 hne hb4 hg4 hat4 hal hinn hinl h4 hc3 HO ho4
        generalize hl5 : (l ++ [0, 0]).length = n5 at *
        generalize rd (l ++ [0, 0]) 0 = va at *
        generalize rd (l ++ [0, 0]) 1 = vb at *
        clear hl5
        have hz := below_alloc (Below.refl w4.heap.size w4) (.cells #[.int .i64 0, .int .i64 0, .int .i64 0, .int .i64 0] 38)
        have hcA2 := pw_cell_below hz hcA
        have hcB2 := pw_cell_below hz hcB
        have r1 : w4.cell? ⟨w.heap.size, 1, none⟩ = some (.int .i64 i.f1) := q0 1
        have r2 : w4.cell? ⟨w.heap.size, 2, none⟩ = some (.int .i64 i.f2) := q0 2
        have r12 := pw_cell_below hz r1
        have r22 := pw_cell_below hz r2
        clear hz q0
        go_upto_region 4 with (fail)
        go_region
        refine nameEnd ?_
        intro w5 hw5
        have hb5 : Below w4.heap.size w4 w5 := by rw [hw5]; exact below_drew (below_alloc (Below.refl _ _) _)
        have o5 : w5.heap[w4.heap.size]? = some (.cells #[.int .i64 i.f1, .int .i64 i.f2, .int .i64 va, .int .i64 vb] 38 (0, 0)) := by rw [hw5]; exact blk_new _ _
        clear hw5
        have r15 := pw_cell_below hb5 r1
        have p5 := blk_cells o5
        have pf : w5.frozen? ⟨w4.heap.size, 2, none⟩ = false := blk_frozen o5 2
        have hge : w4.heap.size ≤ w4.heap.size := Nat.le_refl _
        clear r1 r2 r12 r22 hcA hcB hcA2 hcB2 hge
        have hv := (isV_iff va).1 HR0.out
        have hkey := key_call va w5 (by omega) (by omega)
        have hb6 : Below w4.heap.size w4 (w5.setCell ⟨w4.heap.size, 2, none⟩ (.int .i64 (keyI va))) := hb5.setCell (Nat.le_refl _) _
        have o6 := blk_set o5 2 (.int .i64 (keyI va))
        have h6 := H4.out.mono hb6
        have K6 := Aside0.mk (K4.out.trans (Keeps.of_below hb6))
        have O6 := Aside0.mk o6
        clear hv hb6 hb5 o5 o6
        go_wp2_with (first | ((with_reducible refine hkey.mono ?_); rintro e w' ⟨rfl, rfl⟩))
        have hpa := ok.pass h6 rfl rfl
        clear hkey h6 p5 pf r15 d3
        go_wp2_with fail
        refine hpa.mono ?_
        rintro e w8 ⟨rfl, k8, vs8, h8⟩
        have K8 := Aside0.mk (K6.out.trans k8)
        have hen := end_call h8 { noAk with kind := 3, okind := i.f1, oobj := i.f2, oa := keyI va, ob := vb } none 0 w0.heap.size (Kd.R_nil _ _ _ _ _)
        have q8 := blk_cells (k8.blk _ _ _ O6.out (by decide) (by decide))
        clear hpa h8 k8
        go_wp2_with fail
        refine hen.mono ?_
        rintro e w9 hd
        have HD := Aside0.mk (Asked.pre K8.out hd)
        obtain ⟨rfl, _, _⟩ := hd
        clear hen
        go_wp2
        first | go_end0 | refine bodyPost_ret (results_none rfl _ _ _) rfl ?_
        exact HD.out
      · have d3 : decide (i.f1 ≤ 3) = false := decide_eq_false h3
        simp only [if_neg h3, if_false]
        clear h3
        go_enter Tryd.func87, Tryd.ntmps87
        go_upto_region 1 with (fail)
        refine nameW ?_
        intro w1 hw1
        obtain ⟨b0, hb, hsz⟩ := one_box hw1
        clear hw1
        have h1 := h.mono hb
        have K1 := Aside0.mk (Keeps.of_below hb)
        have H1 := Aside0.mk h1
        have hob := objects_call h1 i.f1
        have hpo := pops_some h1 s l hsplit (by omega)
        have hlz : (l.length : Int) = (objs C i.f1).2 := by omega
        rw [hlz] at hpo
        have HV := Aside0.mk hvals
        have HLL := Aside0.mk hll
        have HN := Aside0.mk hn0
        have B0 := Aside0.mk b0
        have q0 := blk_cells b0
        have hmt := must_true 1 w1
        have HI := Aside0.mk info_int
        clear h h1 b0 hb hsz hsplit hvals hlen hll hn0 hlz
        go_upto_region 3 with (first | ((with_reducible refine hob.mono ?_); rintro e w' ⟨rfl, rfl⟩) | ((with_reducible refine hmt.mono ?_); rintro e w' ⟨rfl, rfl⟩))
        go_wp2_with fail
        refine hpo.mono ?_
        rintro e w3 ⟨v, rfl, ho, k3, vs3, h3, hne⟩
        clear hpo hob hmt q0 c0 c1 c2
        obtain ⟨A3, c3, rfl, hc3, _⟩ := Kd.R_reads ho
        have HO := Aside0.mk (Kd.R_alloc ho (.cells #[.int .i64 0, .int .i64 0] 3))
        have HL2 : Aside0 ((l.length + 2) * 8 ≤ 140737488355328) := ⟨by have := HLL.out; have := HN.out; omega⟩
        go_wp2_with (at_builtin; refine Kd.R_append_rows (Kd.int .i64) (w0 := w3) w'.heap.size rfl (.tmp 33) (.tmp 34) 23 3 (.int .i64 0) 8 rfl Tryd.underlying23 HI.out rfl (by decide) (by decide) (.slice A3 l.length c3) l [0, 0] (some ⟨w3.heap.size, 0, none⟩) 2 2 (fun _ => True) (fun _ => False) rfl rfl HO.out (lit_reads w3 [0, 0] (by simp)) (fun x cs h => h) (fun _ hk => hk.elim) (fun _ _ => trivial) ((Below.refl _ _).alloc k3.size _) (Nat.le_trans k3.size (by simp)) HL2.out ?_)
        intro v4 w4 ho4 hb4 hg4 hat4
        have hal := below_alloc (Below.refl w3.heap.size w3) (.cells #[.int .i64 0, .int .i64 0] 3)
        obtain ⟨inn, hinn⟩ := Kd.R_own ho
        obtain ⟨inl, hinl⟩ := Kd.R_own H1.out.loc
        have h4 := (h3.mono hal).far hg4 (below_weaken h3.below H1.out.below.size hb4) (Kd.R_ne ho h3.blk (by decide)) (fun k hk hh => by have e1 := own_base hinn k hh.symm; have e2 := own_lt hinl k hk; omega) (fun k hk hh => hne k hh.symm hk)
        have K4 := Aside0.mk (K1.out.trans (k3.trans ((Keeps.of_below hal).trans (Keeps.grown (hinn.alloc _) hg4))))
        obtain ⟨g, cap, rfl, hcA, hcB⟩ := head_two ho4 (by simp)
        have B4 := Aside0.mk ((k3.trans ((Keeps.of_below hal).trans (Keeps.grown (hinn.alloc _) hg4))).blk _ _ _ B0.out (by decide) (by decide))
        have q0 := blk_cells B4.out
        have H4 := Aside0.mk h4
        have hl4 : 1 < (l ++ [0, 0]).length := by simp
        have HR0 : Aside0 (isV (rd (l ++ [0, 0]) 0) = true) := ⟨by
          cases l with
          | nil => simp [rd, isV]
          | cons a r => simpa [rd] using HV.out a (by simp)⟩
        clear ho k3 h3 hne hb4 hg4 hat4 hal hinn hinl h4 hc3 HO ho4
        generalize hl5 : (l ++ [0, 0]).length = n5 at *
        generalize rd (l ++ [0, 0]) 0 = va at *
        generalize rd (l ++ [0, 0]) 1 = vb at *
        clear hl5
        have hz := below_alloc (Below.refl w4.heap.size w4) (.cells #[.int .i64 0, .int .i64 0, .int .i64 0, .int .i64 0] 38)
        have hcA2 := pw_cell_below hz hcA
        have hcB2 := pw_cell_below hz hcB
        have r1 : w4.cell? ⟨w.heap.size, 1, none⟩ = some (.int .i64 i.f1) := q0 1
        have r2 : w4.cell? ⟨w.heap.size, 2, none⟩ = some (.int .i64 i.f2) := q0 2
        have r12 := pw_cell_below hz r1
        have r22 := pw_cell_below hz r2
        clear hz q0
        go_upto_region 4 with (fail)
        go_region
        refine nameEnd ?_
        intro w5 hw5
        have hb5 : Below w4.heap.size w4 w5 := by rw [hw5]; exact below_drew (below_alloc (Below.refl _ _) _)
        have o5 : w5.heap[w4.heap.size]? = some (.cells #[.int .i64 i.f1, .int .i64 i.f2, .int .i64 va, .int .i64 vb] 38 (0, 0)) := by rw [hw5]; exact blk_new _ _
        clear hw5
        have r15 := pw_cell_below hb5 r1
        have p5 := blk_cells o5
        have pf : w5.frozen? ⟨w4.heap.size, 2, none⟩ = false := blk_frozen o5 2
        have hge : w4.heap.size ≤ w4.heap.size := Nat.le_refl _
        clear r1 r2 r12 r22 hcA hcB hcA2 hcB2 hge
        have h6 := H4.out.mono hb5
        have K6 := Aside0.mk (K4.out.trans (Keeps.of_below hb5))
        have O6 := Aside0.mk o5
        clear hb5 o5
        have hpa := ok.pass h6 rfl rfl
        clear h6 p5 pf
        go_wp2_with fail
        refine hpa.mono ?_
        rintro e w8 ⟨rfl, k8, vs8, h8⟩
        have K8 := Aside0.mk (K6.out.trans k8)
        have hen := end_call h8 { noAk with kind := 3, okind := i.f1, oobj := i.f2, oa := va, ob := vb } none 0 w0.heap.size (Kd.R_nil _ _ _ _ _)
        have q8 := blk_cells (k8.blk _ _ _ O6.out (by decide) (by decide))
        clear hpa h8 k8
        go_wp2_with fail
        refine hen.mono ?_
        rintro e w9 hd
        have HD := Aside0.mk (Asked.pre K8.out hd)
        obtain ⟨rfl, _, _⟩ := hd
        clear hen
        go_wp2
        first | go_end0 | refine bodyPost_ret (results_none rfl _ _ _) rfl ?_
        exact HD.out
    · rw [if_neg hlen]
      go_enter Tryd.func87, Tryd.ntmps87
      go_upto_region 1 with (fail)
      refine nameW ?_
      intro w1 hw1
      obtain ⟨b0, hb, hsz⟩ := one_box hw1
      clear hw1
      have h1 := h.mono hb
      have K1 := Aside0.mk (Keeps.of_below hb)
      have H1 := Aside0.mk h1
      have hob := objects_call h1 i.f1
      have hpo := pops_none h1 (objs C i.f1).2 (by omega)
      have q0 := blk_cells b0
      have hmt := must_true 1 w1
      clear h h1 b0 hb hsz hlen hn0
      go_wp2_with (first | ((with_reducible refine hob.mono ?_); rintro e w' ⟨rfl, rfl⟩) | ((with_reducible refine hmt.mono ?_); rintro e w' ⟨rfl, rfl⟩))
      go_wp2_with fail
      refine hpo.mono ?_
      rintro e w2 ⟨rfl, k2, hb2⟩
      exact ⟨rfl, rfl, K1.out.trans k2, hb2⟩


end Go.Proofs.YtfcgjadfhojogaaDoor.Vm
