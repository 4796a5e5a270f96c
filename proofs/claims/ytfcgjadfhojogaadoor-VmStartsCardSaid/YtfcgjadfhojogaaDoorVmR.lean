/- vm.Next of a frame that is right. -/
import Derived.Test.YtfcgjadfhojogaaDoorVmQ
namespace Go.Proofs.YtfcgjadfhojogaaDoor.Vm
open Go.RowKit Go.Proofs.YtfcgjadfhojogaaDoorW.PrintWords Go.Proofs.YtfcgjadfhojogaaDoorW.PrintLast Go.Proofs.YtfcgjadfhojogaaDoorW.PrintMore Go.Proofs.YtfcgjadfhojogaaDoor.PVmStarts
set_option linter.unusedVariables false
set_option linter.unusedSimpArgs false

theorem late_true {B : S65} {F : Fr} (h : late F B = true) : 0 ≤ F.pc ∧ F.pc ≤ (B.f2.length : Int) ∧ (F.loc.length : Int) = B.f1 ∧ (∀ x, x ∈ F.loc → isV x = true) ∧ (∀ x, x ∈ F.stk → isV x = true) ∧ F.kids.any (badKid B.f1) = false := by
  simp only [late, Bool.and_eq_true, Bool.not_eq_true', Bool.or_eq_false_iff, decide_eq_false_iff_not, List.any_eq_false, Bool.not_eq_false', beq_iff_eq] at h
  obtain ⟨⟨⟨⟨a, b⟩, c⟩, d⟩, e⟩ := h
  refine ⟨by omega, by omega, c, fun x hx => ?_, fun x hx => ?_, by rw [List.any_eq_false]; exact e⟩
  · have := d x (List.mem_append_left _ hx); simpa [notV] using this
  · have := d x (List.mem_append_right _ hx); simpa [notV] using this
theorem right_inv {C : Cd} {F : Fr} (h : rightB C F = true) : 0 ≤ F.fn ∧ F.fn < (C.funs.length : Int) ∧ InvF (rd_T65 C.funs F.fn) F := by
  unfold rightB at h
  rw [Bool.and_eq_true, Bool.not_eq_true'] at h
  obtain ⟨h1, h2, h3, h4, h5, h6, h7⟩ := early_false h.1
  obtain ⟨g1, g2, g3, g4, g5, g6⟩ := late_true h.2
  exact ⟨by omega, by omega, ⟨g1, g2, by omega, by omega, by omega, g5, g4⟩⟩

/-- What holds at each round of Next's loop. -/
def LoopInv (w2 : World) (C : Cd) (B : S65) (F0 : Fr) (p : Pt) (vl : Value) (S : St) (k : Nat) (wr : World) : Prop :=
  (∃ F vs, RunAt w2 wr w2.heap.size C B F p vl vs ∧ InvF B F ∧ Kin F0 F ∧ nextF C B k F = S ∧ (2001 : Int) ≤ k + F.spent) ∨ (∃ F K vs Aa ca, DoneAt w2 wr w2.heap.size C B F K p vl vs Aa ca ∧ S = .ask F K ∧ Kin F0 F)
theorem Reads.kin {w0 : World} {C : Cd} {B : S65} {F F' : Fr} {p : Pt} (h : Reads w0 C B F p) (k : Kin F F') : Reads w0 C B F' p :=
  ⟨h.funs, h.funsc, h.cells, h.ins, by rw [k.path]; exact h.path, by rw [k.path]; exact h.pathc, by rw [k.kids]; exact h.kids, by rw [k.kids]; exact h.kidsc⟩
theorem Wrote.row {w w' : World} {bo ba be : Nat} {cf ca : Array Value} {x : Int} {c1 c2 c3 : Array Value} {A : Option Addr} {n c base : Nat} {l : List Int} (h : Wrote w w' bo ba be cf ca x)
    (e2 : w.heap[bo]? = some (.cells c1 33 (0, 0))) (e3 : w.heap[ba]? = some (.cells c2 46 (0, 0))) (e4 : w.heap[be]? = some (.cells c3 34 (0, 0)))
    (hr : (Kd.int .i64).R 3 w base (fun _ => True) (.slice A n c) l) : l.length ≤ c ∧ (Kd.int .i64).C w' A l.length l := by
  have t : ∀ q, q ∈ 3 :: (Kd.int .i64).E → q = 3 := by intro q hq; simpa [Kd.int, Kd.scalar] using hq
  have r1 := Kd.R_types (Kd.R_types (Kd.R_types hr e2 (fun q hq => by have := t q hq; omega)) e3 (fun q hq => by have := t q hq; omega)) e4 (fun q hq => by have := t q hq; omega)
  have r2 := Kd.R_step r1 (fun k hk _ => h.far k hk.1.1.2 hk.1.2 hk.2)
  exact (Kd.R_reads' r2).2 |> fun g => ⟨by have := (Kd.R_reads' r2).1; omega, g.2⟩
def NextPost (F : Fr) (w : World) : St → Ending → World → Prop
  | .go _ => Said F noAk 11 w
  | .ask F' K => Said F' K 0 w
  | .err x => Said F noAk x w
def NextPost2 (vin : Value) (F : Fr) (w : World) : St → Ending → World → Prop
  | .go _ => Said2 vin F noAk 11 w
  | .ask F' K => Said2 vin F' K 0 w
  | .err x => Said2 vin F noAk x w
theorem NextPost2.post {vin : Value} {F : Fr} {w : World} {S : St} {e : Ending} {w' : World} (h : NextPost2 vin F w S e w') : NextPost F w S e w' := by
  cases S <;> exact Said2.said h

set_option maxHeartbeats 40000000 in
set_option maxRecDepth 100000 in
theorem next_right (C : Cd) (F : Fr) (vc vf : Value) (w : World) (hC : CdAt w C vc) (hF : FrAt w F vf) (ht : Table w) (hl : (F.loc.length + F.stk.length) * 8 ≤ 140737488355328) (hR : rightB C F = true) :
    Calls Tryd.prog 21 #[vc, vf] w (NextPost2 vf F w (nextF C (rd_T65 C.funs F.fn) 2001 F)) := by
  obtain ⟨hf0, hf1, hinv⟩ := right_inv hR
  generalize hS : nextF C (rd_T65 C.funs F.fn) 2001 F = S
  have HS := Aside0.mk hS
  have HI := Aside0.mk hinv
  have HF := Aside0.mk hF
  have HC := Aside0.mk hC
  have HT := Aside0.mk ht
  have hcall := fun w1 (hb : Below w.heap.size w w1) => right_call C F vc vf w1 (hC.below hb) (hF.below hb) hl
  rw [hR] at hcall
  have HLn := Aside0.mk hl
  obtain ⟨Af, cf, Ac, cc, rfl, hcf, hCf, hcc, hCc⟩ := hC
  obtain ⟨Ap, cp, Al, cl, As, cs, Ak, ck, rfl, ⟨hFp0, hFp⟩, ⟨hFl0, hFl⟩, ⟨hFs0, hFs⟩, ⟨hFk0, hFk⟩⟩ := hF
  obtain ⟨ad, A2, c2', rfl, k0, k1, k2, hb3, hb4⟩ := at_T65 hCf F.fn hf0 hf1
  have HX := Aside0.mk (And.intro hCf (And.intro hCc (And.intro hFp (And.intro hFl (And.intro hFs (And.intro hFk (And.intro hb3 hb4)))))))
  have HY := Aside0.mk (And.intro hFl0 (And.intro hFs0 (And.intro hFk0 (And.intro hFp0 (And.intro hcf hcc)))))
  clear hR hl hS hinv ht hCf hCc hFp hFl hFs hFk hb3 hb4
  go_enter_defers Tryd.func21, Tryd.ntmps21
  go_upto_region 1 with (fail)
  refine nameW ?_
  intro w1 hw1
  obtain ⟨b0, b1, b2, b3, b4, hb⟩ := five_boxes hw1
  clear hw1
  have hcall1 := hcall w1 hb
  clear hcall
  have l4 : w.heap.size ≤ w.heap.size + 1 + 1 + 1 + 1 := by omega
  have l3 : w.heap.size ≤ w.heap.size + 1 + 1 + 1 := by omega
  have l2 : w.heap.size ≤ w.heap.size + 1 + 1 := by omega
  have n0 : w.heap.size + 1 ≠ w.heap.size + 1 + 1 := by omega
  generalize w.heap.size + 1 + 1 + 1 + 1 = be at *
  generalize w.heap.size + 1 + 1 + 1 = ba at *
  generalize w.heap.size + 1 + 1 = bo at *
  generalize w.heap.size + 1 = bf at *
  generalize hbc : w.heap.size = bc at b0 ⊢
  have q0 := blk_cells b0
  have q1 := blk_cells b1
  have HL := Aside0.mk (And.intro l2 (And.intro l3 (And.intro l4 hbc)))
  clear l2 l3 l4 hbc
  go_upto_region 2 with ((with_reducible refine hcall1.mono ?_); rintro e w2 ⟨rfl, hb2⟩)
  have HB := Aside0.mk (below_step hb hb2)
  have B1 := Aside0.mk (blk_below b1 hb2)
  have B2 := Aside0.mk (blk_below b2 hb2)
  have B3 := Aside0.mk (blk_below b3 hb2)
  have B4 := Aside0.mk (blk_below b4 hb2)
  replace k0 := pw_cell_below HB.out k0
  replace k1 := pw_cell_below HB.out k1
  replace k2 := pw_cell_below HB.out k2
  have b0' := blk_below b0 hb2
  clear q0 q1 hcall1
  have q0 := blk_cells b0'
  have q1 := blk_cells B1.out
  clear b0 b1 b2 b3 b4 b0' hb hb2
  refine still_tail 9 (by kernel_rfl) (by kernel_rfl) ?_
  intro S hS hS0
  simp only [List.take_succ_cons, List.take_zero, List.drop_succ_cons, List.drop_zero] at hS0 ⊢
  repeat (refine hS _ _ _ (fun K hK => ?_); go_simp; refine hK _ ?_; clear hK K)
  refine hS0 _ ?_
  clear hS hS0 S
  go_upto_region 5 with (fail)
  refine nameW ?_
  intro w3 hw3
  have hb3 : Below w2.heap.size w2 w3 := by rw [hw3]; exact below_alloc (below_drew (Below.refl _ _)) _
  have hrun : w3.heap[w2.heap.size]? = some (.cells (cellsOf C (rd_T65 C.funs F.fn) F noAk false ⟨some ad, cf, Ac, cc, A2, c2', Ap, cp, Ak, ck⟩ (.slice Al F.loc.length cl) (.slice As F.stk.length cs) (.slice none 0 0)) 77 (0, 0)) := by rw [hw3]; exact blk_new _ _
  clear hw3 q0 q1 k0 k1 k2
  have hbf1 := blk_drew (blk_below B1.out hb3)
  have f4 : w3.drew.cell? ⟨bf, 4, none⟩ = some (.slice Al F.loc.length cl) := blk_cells hbf1 4
  have f5 : w3.drew.cell? ⟨bf, 5, none⟩ = some (.slice As F.stk.length cs) := blk_cells hbf1 5
  have nbf : bf ≠ w2.heap.size := by have := blk_lt B1.out; omega
  have hb3d : Below w2.heap.size w2 w3.drew := below_drew hb3
  have HB3 := Aside0.mk (below_step HB.out hb3d)
  have hcl1 := clone_int Al cl F.loc w3.drew (Kd.C_below HX.out.2.2.2.1 HB3.out) (by have := HLn.out; omega)
  have hcl2 := fun W (hW : Below w3.drew.heap.size w3.drew W) => clone_int As cs F.stk W (Kd.C_below HX.out.2.2.2.2.1 (below_step HB3.out hW)) (by have := HLn.out; omega)
  have HC2 := Aside0.mk hcl2
  have hrund := blk_drew hrun
  have HRUN := Aside0.mk hrund
  clear hcl2 hrun hrund hbf1 hb3
  go_region_held3 (fun W => W.cell? ⟨bf, 4, none⟩ = some (.slice Al F.loc.length cl) ∧ W.cell? ⟨bf, 5, none⟩ = some (.slice As F.stk.length cs)) (first | go_keep | exact ⟨(cell_far nbf _).trans f4, (cell_far nbf _).trans f5⟩ | exact ⟨(cell_far nbf _).trans ((cell_far nbf _).trans f4), (cell_far nbf _).trans ((cell_far nbf _).trans f5)⟩)
    (first | ((with_reducible refine hcl1.mono ?_); rintro e wa ⟨v1, rfl, ho1, hba⟩; obtain ⟨A1, c1, rfl, hcc1, _⟩ := Kd.R_reads ho1; have f4 := pw_cell_below hba f4; have f5 := pw_cell_below hba f5; have hcl2 := HC2.out wa hba) | ((with_reducible refine hcl2.mono ?_); rintro e wb ⟨v2, rfl, ho2, hbb⟩; obtain ⟨A2', c2'', rfl, hcc2, _⟩ := Kd.R_reads ho2; have f4 := pw_cell_below hbb f4; have f5 := pw_cell_below hbb f5; have hrb := blk_below (blk_below HRUN.out hba) hbb; have g13 : wb.cell? ⟨w2.heap.size, 13, none⟩ = some (.slice Al F.loc.length cl) := blk_cells hrb 13; have g14 : wb.cell? ⟨w2.heap.size, 14, none⟩ = some (.slice As F.stk.length cs) := blk_cells hrb 14; have gf : ∀ i, wb.frozen? ⟨w2.heap.size, i, none⟩ = false := blk_frozen hrb))
  refine nameEnd ?_
  intro w5 hw5
  have hrun5 : RunAt w2 w5 w2.heap.size C (rd_T65 C.funs F.fn) F ⟨some ad, cf, Ac, cc, A2, c2', Ap, cp, Ak, ck⟩ (.slice A1 F.loc.length c1) (.slice A2' F.stk.length c2'') := by
    rw [hw5]
    obtain ⟨in1, hin1⟩ := Kd.R_own ho1
    obtain ⟨in2, hin2⟩ := Kd.R_own ho2
    have t1 := blk_put hrb 13 (.slice A1 F.loc.length c1) (cs' := cellsOf C (rd_T65 C.funs F.fn) F noAk false ⟨some ad, cf, Ac, cc, A2, c2', Ap, cp, Ak, ck⟩ (.slice A1 F.loc.length c1) (.slice As F.stk.length cs) (.slice none 0 0)) rfl
    have t2 := blk_put t1 14 (.slice A2' F.stk.length c2'') (cs' := cellsOf C (rd_T65 C.funs F.fn) F noAk false ⟨some ad, cf, Ac, cc, A2, c2', Ap, cp, Ak, ck⟩ (.slice A1 F.loc.length c1) (.slice A2' F.stk.length c2'') (.slice none 0 0)) rfl
    have bl := below_then hb3d hb3d.size (below_step hba hbb)
    have sz : w2.heap.size ≤ w3.drew.heap.size := hb3d.size
    refine ⟨t2, Nat.le_refl _, (bl.setCell (Nat.le_refl _) _).setCell (Nat.le_refl _) _, ?_, ?_, fun k hk hk' => ?_⟩
    · exact Kd.R_set (Kd.R_set (Kd.R_below (Kd.R_lower ho1 sz) hbb) hrb no_run 13 _) t1 no_run 14 _
    · exact Kd.R_set (Kd.R_set (Kd.R_lower ho2 (Nat.le_trans sz hba.size)) hrb no_run 13 _) t1 no_run 14 _
    · have e1 := own_lt hin1 k hk
      have e2 := own_base hin2 k hk'
      omega
  have hrd : Reads w2 C (rd_T65 C.funs F.fn) F ⟨some ad, cf, Ac, cc, A2, c2', Ap, cp, Ak, ck⟩ :=
    ⟨Kd.C_below HX.out.1 HB.out, HY.out.2.2.2.2.1, Kd.C_below HX.out.2.1 HB.out, Kd.C_below HX.out.2.2.2.2.2.2.2 HB.out, Kd.C_below HX.out.2.2.1 HB.out, HY.out.2.2.2.1, Kd.C_below HX.out.2.2.2.2.2.1 HB.out, HY.out.2.2.1⟩
  have HRD := Aside0.mk hrd
  have HTB := Aside0.mk (HT.out.below HB.out)
  have hloop : LoopInv w2 C (rd_T65 C.funs F.fn) F ⟨some ad, cf, Ac, cc, A2, c2', Ap, cp, Ak, ck⟩ (.slice A1 F.loc.length c1) S 2001 w5 :=
    .inl ⟨F, _, hrun5, HI.out, Kin.refl F, HS.out, by have := HI.out.sp0; omega⟩
  have HLO := Aside0.mk hloop
  have hpk : (Kd.int .i64).C w (⟨some ad, cf, Ac, cc, A2, c2', Ap, cp, Ak, ck⟩ : Pt).Ap F.path.length F.path ∧ k74.C w (⟨some ad, cf, Ac, cc, A2, c2', Ap, cp, Ak, ck⟩ : Pt).Ak F.kids.length F.kids ∧ (∀ k, k < w.heap.size → FarF k (.agg #[.int .i64 F.task, .slice Ap F.path.length cp, .int .i64 F.fn, .int .i64 F.pc, .slice Al F.loc.length cl, .slice As F.stk.length cs, .slice Ak F.kids.length ck, .int .i64 F.many, .int .i64 F.spent, .bool F.fail]) → ∀ (G : Fr), G.path = F.path → G.kids = F.kids → ∀ (wq : World) (a5 a6 : Value) (okq okr : Nat → Prop), (Kd.int .i64).R 3 wq w2.heap.size okq a5 G.loc → (Kd.int .i64).R 3 wq w2.heap.size okr a6 G.stk → FarF k (.agg (frArr G (⟨some ad, cf, Ac, cc, A2, c2', Ap, cp, Ak, ck⟩ : Pt).Ap (⟨some ad, cf, Ac, cc, A2, c2', Ap, cp, Ak, ck⟩ : Pt).cp a5 a6 (⟨some ad, cf, Ac, cc, A2, c2', Ap, cp, Ak, ck⟩ : Pt).Ak (⟨some ad, cf, Ac, cc, A2, c2', Ap, cp, Ak, ck⟩ : Pt).ck))) := ⟨HX.out.2.2.1, HX.out.2.2.2.2.2.1, fun k hk hf G e1 e2 wq a5 a6 okq okr r1 r2 => by
    have hb2 := HB.out.size
    have f1 := hf 1 _ rfl
    have f6 := hf 6 _ rfl
    rw [← e1] at f1
    rw [← e2] at f6
    exact farF_of (rowFar_int _ _) f1 (rowFar_int _ _) (rowFar_int _ _) (rowFar_R r1 (by omega)) (rowFar_R r2 (by omega)) f6 (rowFar_int _ _) (rowFar_int _ _) (rowFar_bool _ _)⟩
  have HPK := Aside0.mk hpk
  clear hpk
  generalize (⟨some ad, cf, Ac, cc, A2, c2', Ap, cp, Ak, ck⟩ : Pt) = p at *
  clear hw5 hrun5 hrd hloop hrb g13 g14 gf f4 f5 hbb hba ho1 ho2 hcc1 hcc2 hcl1 hcl2 HC2 HRUN hb3d
  generalize rd_T65 C.funs F.fn = B at *
  go_wp2_with fail
  go_loopg [39] 2001 (fun gg _ wr => Aside0 (LoopInv w2 C B F p (.slice A1 F.loc.length c1) S gg wr))
  case atStart => exact HLO
  case round =>
    clear HLO
    rcases hrel.out with ⟨Fr1, vs1, hr1, hi1, hk1, hn1, hm1⟩ | ⟨Fr1, K1, vs1, Aa, ca, hd1, hS1, hk1⟩
    · have hst := step_inv hr1 hi1 (HRD.out.kin hk1) HTB.out
      have q := blk_cells hr1.blk
      unfold cellsOf at q
      have q27 : wr.cell? ⟨w2.heap.size, 27, none⟩ = some (.bool false) := q 27
      have hok := ok_step C B Fr1 hi1
      obtain ⟨g1, rfl⟩ : ∃ g1, gk = g1 + 1 := ⟨gk - 1, by have := hi1.sp1; omega⟩
      have hm2 : (2001 : Int) ≤ g1 + (Fr1.spent + 1) := by omega
      clear q hrel hr1
      unfold nextF at hn1
      cases hsf : stepF C B Fr1 with
      | go F2 =>
        rw [hsf] at hst hok hn1
        have HK := Aside0.mk (And.intro hn1 (And.intro hok (And.intro hk1 hm2)))
        clear hn1 hok hsf hk1 hm1 hm2 hi1
        go_wp2_with fail
        refine hst.mono ?_
        rintro e w6 ⟨rfl, _, vs2, hr2⟩
        have HN : Aside0 (LoopInv w2 C B F p (.slice A1 F.loc.length c1) S g1 w6) :=
          ⟨.inl ⟨F2, vs2, hr2, HK.out.2.1.1, HK.out.2.2.1.trans HK.out.2.1.2.1, HK.out.1, by rw [HK.out.2.1.2.2]; exact HK.out.2.2.2⟩⟩
        clear hst hr2 q27
        go_wp2
        go_roundg g1
        case measure => omega
        case rel => exact HN
      | ask F2 K2 =>
        rw [hsf] at hst hok hn1
        have HK := Aside0.mk (And.intro hn1 (And.intro hok hk1))
        clear hn1 hok hsf hk1 hm1 hm2 hi1
        go_wp2_with fail
        refine hst.mono ?_
        rintro e w6 ⟨rfl, _, vs2, Aa, ca, hd2⟩
        have HN : Aside0 (LoopInv w2 C B F p (.slice A1 F.loc.length c1) S g1 w6) :=
          ⟨.inr ⟨F2, K2, vs2, Aa, ca, hd2, HK.out.1.symm, HK.out.2.2.trans HK.out.2.1.2.1⟩⟩
        clear hst hd2 q27
        go_wp2
        go_roundg g1
        case measure => omega
        case rel => exact HN
      | err x =>
        rw [hsf] at hst hn1
        simp only at hn1
        subst hn1
        clear hok hsf hk1 hm1 hm2 hi1
        go_wp2_with fail
        refine hst.mono ?_
        rintro e w6 ⟨rfl, _, hb6⟩
        clear hst q27
        have c1' := blk_below B1.out hb6
        have c2'' := blk_below B2.out hb6
        have c3' := blk_below B3.out hb6
        have c4' := blk_below B4.out hb6
        change Leaves Tryd.prog _ _ _ _ _ _
        refine leaves_cons (f := 35) (args := #[.pointer (some ⟨bf, 0, none⟩), .pointer (some ⟨bo, 0, none⟩), .pointer (some ⟨ba, 0, none⟩), .pointer (some ⟨be, 0, none⟩)]) (by simp) (by simp [go_sem]) ?_
        refine (catch_panics bf bo ba be x F Ap cp Al cl As cs Ak ck w6 c1' c2'' c3' c4' n0).mono ?_
        rintro e u' w7 ⟨rfl, rfl, hW⟩
        have hbl := hW.below (below_step HB.out hb6) HL.out.1 HL.out.2.1 HL.out.2.2.1
        exact ⟨_, next_results _ w7 bo ba be _ _ x rfl rfl rfl hW.out hW.ask hW.err rfl rfl, _, _, rfl, HF.out.below hbl, ⟨none, 0, rfl, by decide, ⟨rfl, by decide, fun h => absurd h (by decide)⟩⟩, hbl, fun k _ h => h⟩
    · subst hS1
      have q := blk_cells hd1.blk
      unfold cellsOf at q
      obtain ⟨A5, c5, hvl, hc5, hr5⟩ := Kd.R_reads hd1.loc
      obtain ⟨A6, c6, rfl, hc6, hr6⟩ := Kd.R_reads hd1.stk
      have b2' := blk_below B2.out hd1.below
      have b3' := blk_below B3.out hd1.below
      have b4' := blk_below B4.out hd1.below
      have q2 := blk_cells b2'
      have q3 := blk_cells b3'
      have q4 := blk_cells b4'
      have f2 : ∀ i, wr.frozen? ⟨bo, i, none⟩ = false := blk_frozen b2'
      have f3 : ∀ i, wr.frozen? ⟨ba, i, none⟩ = false := blk_frozen b3'
      have f4 : ∀ i, wr.frozen? ⟨be, i, none⟩ = false := blk_frozen b4'
      have n1 : bo ≠ ba := blk_ne b2' b3' (by decide)
      have n2 : bo ≠ be := blk_ne b2' b4' (by decide)
      have n3 : ba ≠ be := blk_ne b3' b4' (by decide)
      have HD := Aside0.mk hd1
      have E2 := Aside0.mk b2'
      have E3 := Aside0.mk b3'
      have E4 := Aside0.mk b4'
      have m1 : bo ≠ w2.heap.size := by have := blk_lt B2.out; omega
      have m2 : ba ≠ w2.heap.size := by have := blk_lt B3.out; omega
      have m3 : be ≠ w2.heap.size := by have := blk_lt B4.out; omega
      clear hd1 b2' b3' b4' hr5 hr6 hrel
      go_upto_region 8 with (fail)
      go_region
      refine nameEnd ?_
      intro w8 hw8
      have hW : Wrote wr w8 bo ba be (frArr Fr1 p.Ap p.cp (.slice A5 Fr1.loc.length c5) (.slice A6 Fr1.stk.length c6) p.Ak p.ck) (akArr K1 (.slice Aa K1.args.length ca)) 0 := by
        rw [hw8]
        exact wrote_all n1 n2 n3 E2.out E3.out E4.out _ _ _ _ _ _ _ _ _ _ _ _ _ _ _ _ _ _ 0
      clear hw8 q q2 q3 q4 f2 f3 f4 m1 m2 m3
      have hloc := HD.out.loc
      rw [hvl] at hloc
      have hL := Wrote.row (base := w2.heap.size) hW E2.out E3.out E4.out hloc
      have hSt := Wrote.row (base := w2.heap.size) hW E2.out E3.out E4.out HD.out.stk
      obtain ⟨b0, hA0⟩ := HD.out.args
      have hA := Wrote.row hW E2.out E3.out E4.out hA0
      have hbl := hW.below (below_step HB.out HD.out.below) HL.out.1 HL.out.2.1 HL.out.2.2.1
      have hrk := HRD.out.kin hk1
      have hp8 : (Kd.int .i64).C w8 p.Ap Fr1.path.length Fr1.path := by rw [hk1.path]; exact Kd.C_below HPK.out.1 hbl
      have hk8 : k74.C w8 p.Ak Fr1.kids.length Fr1.kids := by rw [hk1.kids]; exact Kd.C_below HPK.out.2.1 hbl
      go_wp2_with fail
      change Leaves Tryd.prog _ _ _ _ _ _
      refine leaves_cons (f := 35) (args := #[.pointer (some ⟨bf, 0, none⟩), .pointer (some ⟨bo, 0, none⟩), .pointer (some ⟨ba, 0, none⟩), .pointer (some ⟨be, 0, none⟩)]) (by simp) (by simp [go_sem]) ?_
      refine (catch_idle _ _ _ _ _).mono ?_
      rintro e u' w7 ⟨rfl, rfl, rfl⟩
      exact ⟨_, next_results _ w7 bo ba be _ _ 0 rfl rfl rfl hW.out hW.ask hW.err rfl rfl, _, _, rfl, ⟨p.Ap, p.cp, A5, c5, A6, c6, p.Ak, p.ck, rfl, ⟨hrk.pathc, hp8⟩, hL, hSt, ⟨hrk.kidsc, hk8⟩⟩, ⟨Aa, ca, rfl, hA.1, hA.2⟩, hbl, fun k hk hf => HPK.out.2.2 k hk hf Fr1 hk1.path hk1.kids wr _ _ _ _ hloc HD.out.stk⟩

theorem next_call2 (C : Cd) (F : Fr) (vc vf : Value) (w : World) (hC : CdAt w C vc) (hF : FrAt w F vf) (ht : Table w) (hl : (F.loc.length + F.stk.length) * 8 ≤ 140737488355328) :
    Calls Tryd.prog 21 #[vc, vf] w (NextPost2 vf F w (if rightB C F then nextF C (rd_T65 C.funs F.fn) 2001 F else .err 1)) := by
  by_cases h : rightB C F = true
  · rw [if_pos h]; exact next_right C F vc vf w hC hF ht hl h
  · rw [if_neg h]; exact next_wrong C F vc vf w hC hF hl (by simpa using h)

theorem next_call (C : Cd) (F : Fr) (vc vf : Value) (w : World) (hC : CdAt w C vc) (hF : FrAt w F vf) (ht : Table w) (hl : (F.loc.length + F.stk.length) * 8 ≤ 140737488355328) :
    Calls Tryd.prog 21 #[vc, vf] w (NextPost F w (if rightB C F then nextF C (rd_T65 C.funs F.fn) 2001 F else .err 1)) :=
  (next_call2 C F vc vf w hC hF ht hl).mono fun _ _ h => h.post

end Go.Proofs.YtfcgjadfhojogaaDoor.Vm
