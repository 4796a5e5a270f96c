/- vm.Told, refused; and of a load or a call. plain; and what shown answers. -/
import Derived.Test.YtfcgjadfhojogaaDoorVmT
namespace Go.Proofs.YtfcgjadfhojogaaDoor.Vm
open Go.RowKit Go.Proofs.YtfcgjadfhojogaaDoorW.PrintWords Go.Proofs.YtfcgjadfhojogaaDoorW.PrintLast Go.Proofs.YtfcgjadfhojogaaDoorW.PrintMore Go.Proofs.YtfcgjadfhojogaaDoor.PVmStarts
set_option linter.unusedVariables false
set_option linter.unusedSimpArgs false

theorem told_results (tmps : Array Value) (w : World) (bo : Nat) (cf : Array Value) (x : Int) (h4 : tmps.getD 6 undef = .pointer (some ⟨bo, 0, none⟩)) (h5 : tmps.getD 7 undef = .int .i64 x)
    (ho : w.heap[bo]? = some (.cells cf 33 (0, 0))) (s1 : cf.size = 10) :
    (results Tryd.f23 tmps).run Tryd.prog w = .ok (.tuple #[.agg cf, .int .i64 x]) w := by
  have i1 : (Tryd.prog.info? 33).map (·.size) = some cf.size := by rw [s1]; kernel_rfl
  have h4' : tmps[6]?.getD undef = .pointer (some ⟨bo, 0, none⟩) := by simpa using h4
  have h5' : tmps[7]?.getD undef = .int .i64 x := by simpa using h5
  simp [results, Tryd.results23, h4', h5', asAddr, run_loadVar_row w bo _ 33 cf _ _ ho Tryd.underlying33 rfl i1]
theorem three_boxes {w w1 : World} {c1 c2 c3 : Array Value} {t1 t2 t3 : TypeId} (h : w1 = ((w.alloc (.cells c1 t1)).alloc (.cells c2 t2)).alloc (.cells c3 t3)) :
    w1.heap[w.heap.size]? = some (.cells c1 t1 (0, 0)) ∧ w1.heap[w.heap.size + 1]? = some (.cells c2 t2 (0, 0)) ∧ w1.heap[w.heap.size + 2]? = some (.cells c3 t3 (0, 0)) ∧ Below w.heap.size w w1 ∧ w1.heap.size = w.heap.size + 3 := by
  subst h
  have a1 := blk_new w (.cells c1 t1)
  have a2 := blk_new (w.alloc (.cells c1 t1)) (.cells c2 t2)
  have a3 := blk_new ((w.alloc (.cells c1 t1)).alloc (.cells c2 t2)) (.cells c3 t3)
  refine ⟨blk_alloc (blk_alloc a1 _) _, blk_alloc (by simpa using a2) _, by simpa using a3, below_alloc (below_alloc (below_alloc (Below.refl _ _) _) _) _, by simp⟩

set_option maxHeartbeats 4000000 in
set_option maxRecDepth 100000 in
theorem told_refused (F : Fr) (vf : Value) (K : Ak) (vk : Value) (Av : Option Addr) (cv : Nat) (vals : List Int) (w : World) (hF : FrAt w F vf) (hK : AkAt w K vk) (hv : (Kd.int .i64).C w Av vals.length vals)
    (hk : K.kind = 1 ∨ K.kind = 3) (hn : ¬ (valuesB vals 1 = true ∧ F.stk.length < 100)) :
    Calls Tryd.prog 23 #[vf, vk, .slice Av vals.length cv] w (Framed (F, 1) w) := by
  have HF := Aside0.mk hF
  have HN := Aside0.mk hn
  have hcall := fun W (hb : Below w.heap.size w W) => values_call Av cv vals 1 W (Kd.C_below hv hb)
  obtain ⟨Ap, cp, Al, cl, As, cs, Ak, ck, rfl, ⟨hFp0, hFp⟩, ⟨hFl0, hFl⟩, ⟨hFs0, hFs⟩, ⟨hFk0, hFk⟩⟩ := hF
  obtain ⟨Aa, ca, rfl, _, _⟩ := hK
  obtain ⟨kind, ka, kb, kok, kobj, koa, kob, kargs⟩ := K
  simp only at hk
  clear hn hv hFp0 hFp hFl0 hFl hFs0 hFs hFk0 hFk
  have hd : valuesB vals 1 = false ∨ (valuesB vals 1 = true ∧ decide ((F.stk.length : Int) < 100) = false) := by
    cases h : valuesB vals 1 with
    | false => exact .inl rfl
    | true => exact .inr ⟨rfl, decide_eq_false (by have := HN.out; rw [h] at this; intro hc; exact this ⟨rfl, by omega⟩)⟩
  generalize valuesB vals 1 = r at *
  rcases hk with rfl | rfl
  all_goals
    rcases hd with rfl | ⟨rfl, hd⟩
  all_goals
    go_enter Tryd.func23, Tryd.ntmps23
    go_upto_region 1 with (fail)
    refine nameW ?_
    intro w1 hw1
    obtain ⟨b0, b1, b2, hb, hsz⟩ := three_boxes hw1
    clear hw1
    have q0 := blk_cells b0
    go_upto_region 2 with (fail)
    refine nameW ?_
    intro w2 hw2
    obtain ⟨b3, hb5, hsz2⟩ := one_box hw2
    clear hw2 q0
    rw [hsz] at b3
    replace b0 := blk_below b0 hb5
    replace b1 := blk_below b1 hb5
    replace b2 := blk_below b2 hb5
    have HB := Aside0.mk (below_step hb hb5)
    have hc2 := hcall w2 HB.out
    have q0 := blk_cells b0
    have q1 := blk_cells b1
    have B0 := Aside0.mk b0
    have B2 := Aside0.mk b2
    clear b0 b1 b2 b3 hb hb5 hsz hsz2 hcall
    go_upto_region 19 with ((with_reducible refine hc2.mono ?_); rintro e w3 ⟨rfl, hb3⟩; have q0' := blk_cells (blk_below B0.out hb3); have B23 := Aside0.mk (blk_below B2.out hb3); have q3' := blk_cells B23.out; have q3 : ∀ i, w3.frozen? ⟨w.heap.size + 2, i, none⟩ = false := blk_frozen B23.out; have HB3 := Aside0.mk (below_step HB.out hb3))
    go_wp2
    refine bodyPost_ret (told_results _ _ (w.heap.size + 2) _ _ rfl rfl (sets10 B23.out _ _ _ _ _ _ _ _ _ _) rfl) rfl ?_
    exact ⟨_, rfl, HF.out.below ((only10 w3 (w.heap.size + 2) _ _ _ _ _ _ _ _ _ _).below HB3.out (by omega)), (only10 w3 (w.heap.size + 2) _ _ _ _ _ _ _ _ _ _).below HB3.out (by omega)⟩



def plainC (l : List S53) (n : Int) : Cd := ⟨[⟨0, n, l⟩], [0, 0], 1, 1, 1, 0⟩
def Coded (C : Cd) (w : World) (e : Ending) (w' : World) : Prop := ∃ v, e = .returned v ∧ CdAt w' C v ∧ Below w.heap.size w w'
theorem plain_call (A : Option Addr) (c : Nat) (l : List S53) (n : Int) (w : World) (base : Nat) (hr : k53.R 53 w base (fun _ => True) (.slice A l.length c) l) :
    Calls Tryd.prog 24 #[.slice A l.length c, .int .i64 n] w (Coded (plainC l n) w) := by
  refine (underwoodlaw08_plain.calls (fun _ => True) A c l n _ _ _ _ _ _ w (Kd.R_V hr) rfl).mono ?_
  rintro e w' ⟨v0, v1, rfl, h0, h1, hb⟩
  obtain ⟨A0, c0, rfl, l0, r0⟩ := Kd.N_reads h0
  obtain ⟨A1, c1, rfl, l1, r1⟩ := Kd.R_reads h1
  exact ⟨_, rfl, ⟨A0, c0, A1, c1, rfl, l0, r0, l1, r1⟩, hb⟩

def shownL : List S53 := [⟨1, 2, 0, 0⟩, ⟨1, 3, 0, 0⟩, ⟨8, 0, 0, 0⟩, ⟨17, 0, 0, 0⟩]
def shownC : Cd := plainC shownL 0
def shownF : Fr := (startF shownC 0 [] 1 []).1
def shownG : Fr := { shownF with pc := 4, spent := 4 }
def shownK : Ak := ⟨6, 6, 0, 0, 0, 0, 0, []⟩
theorem shown_start : startF shownC 0 [] 1 [] = (shownF, 0) := by rfl
theorem shown_right : rightB shownC shownF = true := by decide
theorem shown_right2 : rightB shownC shownG = true := by decide
theorem shown_next : nextF shownC (rd_T65 shownC.funs shownF.fn) 2001 shownF = .ask shownG shownK := by rfl
theorem shown_next2 : nextF shownC (rd_T65 shownC.funs shownG.fn) 2001 shownG = .err 1 := by rfl
theorem shown_wrong : rightB shownC frame0 = false := by decide

def encIns : List S53 → List Value
  | [] => []
  | i :: l => .int .i64 i.f0 :: .int .i64 i.f1 :: .int .i64 i.f2 :: .int .i64 i.f3 :: encIns l
theorem reps_ins (W : World) (base : Nat) (ok : Nat → Prop) (l : List S53) : Reps (k53.M W base ok) k53.sz l (encIns l) := by
  have hsz : k53.sz = 4 := rfl
  rw [hsz]
  induction l with
  | nil => exact Reps.none _ _
  | cons i l ih =>
    refine ⟨by have := ih.1; simp [encIns] at this ⊢; omega, fun j p hj => ?_⟩
    cases j with
    | zero =>
      simp only [List.getElem?_cons_zero, Option.some.injEq] at hj
      subst hj
      exact k53_mkM W base ok i
    | succ j =>
      have := ih.2 j p (by simpa using hj)
      rw [show (j + 1) * 4 = j * 4 + 4 from by omega]
      simpa [encIns] using this

theorem enc_len (l : List S53) : (encIns l).length = l.length * 4 := by
  induction l with
  | nil => rfl
  | cons i l ih => simp only [encIns, List.length_cons, ih]; omega
theorem lit_row {w : World} {b base : Nat} {l : List S53} (h : w.heap[b]? = some (.cells (encIns l).toArray 53 (0, 0))) (hb : base ≤ b) (hl : l.length ≤ 1000000) : k53.R 53 w base (fun _ => True) (.slice (some ⟨b, 0, none⟩) l.length l.length) l := by
  have hsz : k53.sz = 4 := rfl
  refine ⟨fun _ _ => trivial, encIns l, ⟨by rw [hsz]; exact enc_len l, .inr ⟨b, l.length, (encIns l).toArray, rfl, hb, h, Nat.le_refl _, Nat.le_trans hl (by decide), by rw [hsz]; simp [enc_len], ?_⟩⟩, reps_ins _ _ _ _⟩
  rw [hsz, ← enc_len]
  simp
theorem lit_plain (w : World) (l : List S53) (n : Int) (k : Nat) (cells : Array Value) (hk : k = l.length) (hc : cells = (encIns l).toArray) (hl : l.length ≤ 1000000) :
    Calls Tryd.prog 24 #[.slice (some ⟨w.heap.size, 0, none⟩) k k, .int .i64 n] (w.alloc (.cells cells 53)) (Coded (plainC l n) w) := by
  subst hk hc
  refine (plain_call _ _ l n _ w.heap.size (lit_row (blk_new _ _) (Nat.le_refl _) hl)).mono ?_
  rintro e w' ⟨v, rfl, hC, hb⟩
  exact ⟨v, rfl, hC, below_step (below_alloc (Below.refl _ _) _) hb⟩

set_option maxHeartbeats 40000000 in
set_option maxRecDepth 100000 in
theorem shown_call (w : World) (ht : Table w) : Calls Tryd.prog 10 #[] w (Bool1 true w) := by
  have HT := Aside0.mk ht
  have hpl : Calls Tryd.prog 24 #[.slice (some ⟨w.heap.size, 0, none⟩) 4 4, .int .i64 0] (w.alloc (.cells #[.int .i64 1, .int .i64 2, .int .i64 0, .int .i64 0, .int .i64 1, .int .i64 3, .int .i64 0, .int .i64 0, .int .i64 8, .int .i64 0, .int .i64 0, .int .i64 0, .int .i64 17, .int .i64 0, .int .i64 0, .int .i64 0] 53)) (Coded shownC w) :=
    lit_plain w shownL 0 4 _ rfl rfl (by decide)
  clear ht
  go_enter Tryd.func10, Tryd.ntmps10
  go_upto_region 2 with ((with_reducible refine hpl.mono ?_); rintro e w2 ⟨vc, rfl, hC, hb2⟩; have HC := Aside0.mk hC; obtain ⟨Af, cf, Ac, cc, rfl, _, _, _, _⟩ := hC; have HB2 := Aside0.mk hb2)
  refine nameW ?_
  intro w3 hw3
  obtain ⟨b3, hb3, hsz3⟩ := one_box hw3
  clear hw3 hpl hb2
  have HC3 := Aside0.mk (HC.out.below hb3)
  have HB3 := Aside0.mk (below_step HB2.out hb3)
  have q3 := blk_cells b3
  have B3 := Aside0.mk b3
  generalize w2.heap.size = bc at *
  have hst : Calls Tryd.prog 12 #[.agg #[.slice Af shownC.funs.length cf, .slice Ac shownC.cells.length cc, .int .i64 shownC.maps, .int .i64 shownC.stacks, .int .i64 shownC.chans, .int .i64 shownC.main], .int .i64 0, .slice none 0 0, .int .i64 1, .slice none 0 0] w3 (Framed (shownF, 0) w3) := by
    have := start_call shownC _ 0 none 0 [] 1 none 0 [] w3 HC3.out (Kd.C_nil _ _) (Kd.C_nil _ _) (by decide) (fun _ _ => by decide)
    rw [shown_start] at this
    exact this
  clear b3 hb3 hsz3
  go_upto_region 3 with ((with_reducible refine hst.mono ?_); rintro e w4 ⟨vf, rfl, hF, hb4⟩; have HF := Aside0.mk hF; obtain ⟨Ap, cp, Al, cl, As, cs, Ak, ck, rfl, _, _, _, _⟩ := hF; have HB4 := Aside0.mk hb4)
  refine nameW ?_
  intro w5 hw5
  obtain ⟨b5, hb5, hsz5⟩ := one_box hw5
  clear hw5 hst hsz5 q3
  have HS5 := Aside0.mk (below_step HB4.out hb5)
  have HC5 := Aside0.mk (HC3.out.below HS5.out)
  have HF5 := Aside0.mk (HF.out.below hb5)
  have HB5 := Aside0.mk (below_step HB3.out HS5.out)
  have BC5 := Aside0.mk (blk_below B3.out HS5.out)
  have q3 := blk_cells BC5.out
  have q5 := blk_cells b5
  have BF5 := Aside0.mk b5
  have hn1 : Calls Tryd.prog 21 #[.agg #[.slice Af shownC.funs.length cf, .slice Ac shownC.cells.length cc, .int .i64 shownC.maps, .int .i64 shownC.stacks, .int .i64 shownC.chans, .int .i64 shownC.main], .agg #[.int .i64 shownF.task, .slice Ap shownF.path.length cp, .int .i64 shownF.fn, .int .i64 shownF.pc, .slice Al shownF.loc.length cl, .slice As shownF.stk.length cs, .slice Ak shownF.kids.length ck, .int .i64 shownF.many, .int .i64 shownF.spent, .bool shownF.fail]] w5 (Said shownG shownK 0 w5) := by
    have := next_call shownC shownF _ _ w5 HC5.out HF5.out (HT.out.below HB5.out) (by decide)
    rw [if_pos shown_right, shown_next] at this
    exact this
  generalize w4.heap.size = bf at *
  clear b5 hb5 hb4
  go_upto_region 4 with ((with_reducible refine hn1.mono ?_); rintro e w6 ⟨vg, vk, rfl, hG, hK, hb6⟩; have HG := Aside0.mk hG; have HK := Aside0.mk hK; obtain ⟨Gp, gp, Gl, gl, Gs, gs, Gk, gk, rfl, _, _, _, _⟩ := hG; obtain ⟨Aa, ca, rfl, _, _⟩ := hK; have HB6 := Aside0.mk hb6)
  refine nameW ?_
  intro w7 hw7
  obtain ⟨b7, b8, hb7, hsz7⟩ := two_boxes hw7
  clear hw7 hn1 hsz7 q3 q5
  have HS7 := Aside0.mk (below_step HB6.out hb7)
  have HC7 := Aside0.mk (HC5.out.below HS7.out)
  have HG7 := Aside0.mk (HG.out.below hb7)
  have HF7 := Aside0.mk (HF5.out.below HS7.out)
  have HB7 := Aside0.mk (below_step HB5.out HS7.out)
  have BC7 := Aside0.mk (blk_below BC5.out HS7.out)
  have BF7 := Aside0.mk (blk_below BF5.out HS7.out)
  have q3 := blk_cells BC7.out
  have q7 := blk_cells b7
  have BG7 := Aside0.mk b7
  have BA7 := Aside0.mk b8
  have hn2 : Calls Tryd.prog 21 #[.agg #[.slice Af shownC.funs.length cf, .slice Ac shownC.cells.length cc, .int .i64 shownC.maps, .int .i64 shownC.stacks, .int .i64 shownC.chans, .int .i64 shownC.main], .agg #[.int .i64 shownG.task, .slice Gp shownG.path.length gp, .int .i64 shownG.fn, .int .i64 shownG.pc, .slice Gl shownG.loc.length gl, .slice Gs shownG.stk.length gs, .slice Gk shownG.kids.length gk, .int .i64 shownG.many, .int .i64 shownG.spent, .bool shownG.fail]] w7 (Said shownG noAk 1 w7) := by
    have := next_call shownC shownG _ _ w7 HC7.out HG7.out (HT.out.below HB7.out) (by decide)
    rw [if_pos shown_right2, shown_next2] at this
    exact this
  generalize w6.heap.size + 1 = ba at *
  generalize w6.heap.size = bg at *
  clear b7 b8 hb7 hb6
  go_upto_region 5 with ((with_reducible refine hn2.mono ?_); rintro e w8 ⟨vx, vy, rfl, hX, hY, hb8⟩; obtain ⟨Xp, xp, Xl, xl, Xs, xs, Xk, xk, rfl, _, _, _, _⟩ := hX; obtain ⟨Ya, ya, rfl, _, _⟩ := hY; have HB8 := Aside0.mk hb8)
  refine nameW ?_
  intro w9 hw9
  obtain ⟨_, _, hb9, _⟩ := two_boxes hw9
  clear hw9 hn2 q3 q7
  have HS9 := Aside0.mk (below_step HB8.out hb9)
  have HC9 := Aside0.mk (HC7.out.below HS9.out)
  have HF9 := Aside0.mk (HF7.out.below HS9.out)
  have HB9 := Aside0.mk (below_step HB7.out HS9.out)
  have BC9 := Aside0.mk (blk_below BC7.out HS9.out)
  have BF9 := Aside0.mk (blk_below BF7.out HS9.out)
  have BG9 := Aside0.mk (blk_below BG7.out HS9.out)
  have BA9 := Aside0.mk (blk_below BA7.out HS9.out)
  have q5 := blk_cells BF9.out
  have htl : Calls Tryd.prog 23 #[.agg #[.int .i64 shownF.task, .slice Ap shownF.path.length cp, .int .i64 shownF.fn, .int .i64 shownF.pc, .slice Al shownF.loc.length cl, .slice As shownF.stk.length cs, .slice Ak shownF.kids.length ck, .int .i64 shownF.many, .int .i64 shownF.spent, .bool shownF.fail], .agg #[.int .i64 1, .int .i64 0, .int .i64 0, .int .i64 0, .int .i64 0, .int .i64 0, .int .i64 0, .slice none 0 0], .slice none 0 0] w9 (Framed (shownF, 1) w9) :=
    told_refused shownF _ ⟨1, 0, 0, 0, 0, 0, 0, []⟩ _ none 0 [] w9 HF9.out ⟨none, 0, rfl, Nat.le_refl 0, Kd.C_nil _ _⟩ (Kd.C_nil _ _) (.inl rfl) (by decide)
  clear hb9 hb8
  go_upto_region 6 with ((with_reducible refine htl.mono ?_); rintro e w10 ⟨vz, rfl, hZ, hb10⟩; obtain ⟨Zp, zp, Zl, zl, Zs, zs, Zk, zk, rfl, _, _, _, _⟩ := hZ; have HB10 := Aside0.mk hb10)
  refine nameW ?_
  intro w11 hw11
  obtain ⟨_, hb11, _⟩ := one_box hw11
  clear hw11 htl q5
  have HS11 := Aside0.mk (below_step HB10.out hb11)
  have HC11 := Aside0.mk (HC9.out.below HS11.out)
  have HF11 := Aside0.mk (HF9.out.below HS11.out)
  have HB11 := Aside0.mk (below_step HB9.out HS11.out)
  have BC11 := Aside0.mk (blk_below BC9.out HS11.out)
  have BF11 := Aside0.mk (blk_below BF9.out HS11.out)
  have BG11 := Aside0.mk (blk_below BG9.out HS11.out)
  have BA11 := Aside0.mk (blk_below BA9.out HS11.out)
  have q5 := blk_cells BF11.out
  have hch : Calls Tryd.prog 14 #[.agg #[.int .i64 shownF.task, .slice Ap shownF.path.length cp, .int .i64 shownF.fn, .int .i64 shownF.pc, .slice Al shownF.loc.length cl, .slice As shownF.stk.length cs, .slice Ak shownF.kids.length ck, .int .i64 shownF.many, .int .i64 shownF.spent, .bool shownF.fail]] w11 (Row1 [0] w11) := child_call shownF _ w11 HF11.out (by decide)
  clear hb11 hb10
  go_upto_region 9 with ((with_reducible refine hch.mono ?_); rintro e w12 ⟨vl, rfl, hL, hb12⟩; obtain ⟨La, lc, rfl, hL1, hL2⟩ := Kd.R_reads hL; have HB12 := Aside0.mk hb12; have HLR := Aside0.mk hL2)
  have HC12 := Aside0.mk (HC11.out.below HB12.out)
  have HF12 := Aside0.mk (HF11.out.below HB12.out)
  have BC12 := Aside0.mk (blk_below BC11.out HB12.out)
  have q3 := blk_cells BC12.out
  have q5' := blk_cells (blk_below BF11.out HB12.out)
  have BG12 := blk_below BG11.out HB12.out
  have BA12 := blk_below BA11.out HB12.out
  have r8 : w12.cell? ⟨bg, 8, none⟩ = some (.int .i64 4) := blk_cells BG12 8
  have r3 : w12.cell? ⟨bg, 3, none⟩ = some (.int .i64 4) := blk_cells BG12 3
  have r5 : w12.cell? ⟨bg, 5, none⟩ = some (.slice Gs 0 gs) := blk_cells BG12 5
  have r0 : w12.cell? ⟨ba, 0, none⟩ = some (.int .i64 6) := blk_cells BA12 0
  have r1 : w12.cell? ⟨ba, 1, none⟩ = some (.int .i64 6) := blk_cells BA12 1
  obtain ⟨ad, rfl, rl⟩ := Kd.at_int HLR.out 0 (by decide) (by decide)
  have rl' : w12.cell? ad = some (.int .i64 0) := by
    have h0 : ad.add (0 : Int).toNat = ad := by simp [Addr.add]
    rw [h0] at rl
    exact rl
  have hr1 : Calls Tryd.prog 22 #[.agg #[.slice Af shownC.funs.length cf, .slice Ac shownC.cells.length cc, .int .i64 shownC.maps, .int .i64 shownC.stacks, .int .i64 shownC.chans, .int .i64 shownC.main], .agg #[.int .i64 shownF.task, .slice Ap shownF.path.length cp, .int .i64 shownF.fn, .int .i64 shownF.pc, .slice Al shownF.loc.length cl, .slice As shownF.stk.length cs, .slice Ak shownF.kids.length ck, .int .i64 shownF.many, .int .i64 shownF.spent, .bool shownF.fail]] w12 (Bool1 true w12) := by
    have := right_call shownC shownF _ _ w12 HC12.out HF12.out (by decide)
    rw [shown_right] at this
    exact this
  have hr2 : ∀ W, Below w12.heap.size w12 W → Calls Tryd.prog 22 #[.agg #[.slice Af shownC.funs.length cf, .slice Ac shownC.cells.length cc, .int .i64 shownC.maps, .int .i64 shownC.stacks, .int .i64 shownC.chans, .int .i64 shownC.main], .agg #[.int .i64 0, .slice none 0 0, .int .i64 0, .int .i64 0, .slice none 0 0, .slice none 0 0, .slice none 0 0, .int .i64 0, .int .i64 0, .bool false]] W (Bool1 false W) := by
    intro W hW
    have := right_call shownC frame0 _ _ W (HC12.out.below hW) (zero_at W) (by decide)
    rw [shown_wrong] at this
    exact this
  clear rl BG12 BA12 hL hL1 hL2 hb12 hch q5
  have HB12' := Aside0.mk (below_step HB11.out HB12.out)
  have hk : ∀ W, Calls Tryd.prog 16 #[.int .i64 (-1)] W (fun e w' => e = .returned (.int .i64 65535) ∧ Below W.heap.size W w') := fun W => (key_call (-1) W (by decide) (by decide)).mono fun e w' h => ⟨h.1, by rw [h.2]; exact Below.refl _ _⟩
  have hv1 : ∀ W, Calls Tryd.prog 18 #[.agg #[.int .i64 5, .int .i64 0, .int .i64 0, .int .i64 0], .int .i64 6, .bool true] W (fun e w' => e = .returned (.int .i64 7) ∧ Below W.heap.size W w') := fun W => vm_Value.calls 5 5 0 0 0 6 true 7 W (by kernel_rfl)
  have hv2 : ∀ W, Calls Tryd.prog 18 #[.agg #[.int .i64 2, .int .i64 0, .int .i64 0, .int .i64 0], .int .i64 6, .bool true] W (fun e w' => e = .returned (.int .i64 1) ∧ Below W.heap.size W w') := fun W => vm_Value.calls 5 2 0 0 0 6 true 1 W (by kernel_rfl)
  go_wp2_with (first
    | ((with_reducible refine hr1.mono ?_); rintro e w13 ⟨rfl, hb13⟩; have q13 := blk_cells (blk_below BC12.out hb13); have hr3 := hr2 w13 hb13)
    | ((with_reducible refine hr3.mono ?_); rintro e w14 ⟨rfl, hb14⟩)
    | ((with_reducible refine (hk _).mono ?_); rintro e w15 ⟨rfl, hb15⟩)
    | ((with_reducible refine (hv1 _).mono ?_); rintro e w16 ⟨rfl, hb16⟩)
    | ((with_reducible refine (hv2 _).mono ?_); rintro e w17 ⟨rfl, hb17⟩))
  have HE := Aside0.mk (below_step HB12'.out (below_step hb13 (below_step hb14 (below_step hb15 (below_step hb16 hb17)))))
  go_ret
  exact ⟨rfl, HE.out⟩

end Go.Proofs.YtfcgjadfhojogaaDoor.Vm
