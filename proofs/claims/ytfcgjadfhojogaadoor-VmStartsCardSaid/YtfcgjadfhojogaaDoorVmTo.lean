/- vm.Told: what was asked is told. -/
import Derived.Test.YtfcgjadfhojogaaDoorVmV
import Derived.Deep.RegionHeld3
namespace Go.Proofs.YtfcgjadfhojogaaDoor.Vm
open Go.RowKit Go.Proofs.YtfcgjadfhojogaaDoorW.PrintWords Go.Proofs.YtfcgjadfhojogaaDoorW.PrintLast Go.Proofs.YtfcgjadfhojogaaDoorW.PrintMore Go.Proofs.YtfcgjadfhojogaaDoor.PVmStarts
set_option linter.unusedVariables false
set_option linter.unusedSimpArgs false

theorem one_val {w : World} {A : Option Addr} {x : Int} (h : (Kd.int .i64).C w A [x].length [x]) : ∃ ad, A = some ad ∧ w.cell? ad = some (.int .i64 x) := by
  obtain ⟨ad, rfl, rl⟩ := Kd.at_int h 0 (by decide) (by show (0 : Int) < 1; decide)
  refine ⟨ad, rfl, ?_⟩
  have h0 : ad.add (0 : Int).toNat = ad := by simp [Addr.add]
  rw [h0] at rl
  exact rl

theorem cell_block_lt {w : World} {a : Addr} {v : Value} (h : w.cell? a = some v) : a.block < w.heap.size := by
  rcases Nat.lt_or_ge a.block w.heap.size with h1 | h1
  · exact h1
  · have : w.heap[a.block]? = none := Array.getElem?_eq_none h1
    simp [World.cell?, this] at h

theorem keep3 {W : World} {b c i j : Nat} {av : Addr} {v5 v6 : Value} (n03 : b ≠ c) (nav : av.block ≠ c) (h5 : W.cell? ⟨b, i, none⟩ = some v5) (h6 : W.cell? av = some v6) (h7 : W.frozen? ⟨c, j, none⟩ = false) (u : Value) :
    (W.setCell ⟨c, j, none⟩ u).cell? ⟨b, i, none⟩ = some v5 ∧ (W.setCell ⟨c, j, none⟩ u).cell? av = some v6 ∧ (W.setCell ⟨c, j, none⟩ u).frozen? ⟨c, j, none⟩ = false := by
  refine ⟨?_, ?_, ?_⟩
  · rw [cell_far (p := ⟨c, j, none⟩) (a := ⟨b, i, none⟩) n03]; exact h5
  · rw [cell_far (p := ⟨c, j, none⟩) nav]; exact h6
  · simpa using h7

theorem no_frame (q : Nat) (h : q ∈ 3 :: (Kd.int .i64).E) : q ≠ 33 := by
  have : q = 3 := by simpa [Kd.int, Kd.scalar] using h
  omega
theorem frame_stk {w : World} {F : Fr} {s : List Int} {Ap Al As Ak : Option Addr} {cp cl cs ck : Nat} (h : FrAt w F (.agg #[.int .i64 F.task, .slice Ap F.path.length cp, .int .i64 F.fn, .int .i64 F.pc, .slice Al F.loc.length cl, .slice As F.stk.length cs, .slice Ak F.kids.length ck, .int .i64 F.many, .int .i64 F.spent, .bool F.fail]))
    {A5 : Option Addr} {c5 n : Nat} (hn : n = s.length) (h1 : s.length ≤ c5) (h2 : (Kd.int .i64).C w A5 s.length s) : FrAt w { F with stk := s } (.agg (frArr { F with stk := s } Ap cp (.slice Al F.loc.length cl) (.slice A5 n c5) Ak ck)) := by
  subst hn
  obtain ⟨a, b, c, d, e, f, g, i, he, hp, hl, hs, hk⟩ := h
  simp only [Value.agg.injEq, Array.mk.injEq, List.cons.injEq, Value.slice.injEq, true_and, and_true] at he
  obtain ⟨⟨rfl, rfl⟩, ⟨rfl, rfl⟩, ⟨rfl, rfl⟩, ⟨rfl, rfl⟩⟩ := he
  exact ⟨_, _, _, _, _, _, _, _, rfl, hp, hl, ⟨h1, h2⟩, hk⟩

/-- What a copy of a stack leaves, beside what is read later. -/
def Own3 (w w2 : World) (av : Addr) (x : Int) (As : Option Addr) (cs : Nat) (F : Fr) (W : World) (e : Ending) (wa : World) : Prop :=
  ∃ A1 c1, e = .returned (.slice A1 F.stk.length c1) ∧ (Kd.int .i64).R 3 wa w2.heap.size (fun _ => True) (.slice A1 F.stk.length c1) F.stk ∧ Below w2.heap.size w2 wa ∧ wa.cell? ⟨w.heap.size, 5, none⟩ = some (.slice As F.stk.length cs) ∧ wa.cell? av = some (.int .i64 x) ∧ wa.frozen? ⟨w.heap.size + 3, 5, none⟩ = false ∧ Below W.heap.size W wa
theorem own3_of {w w2 : World} {av : Addr} {x : Int} {As : Option Addr} {cs : Nat} {F : Fr} {W : World} {g : FuncId} {args : Array Value} {c0 c3 : Array Value} {t0 t3 : TypeId} (b0 : w2.heap[w.heap.size]? = some (.cells c0 t0 (0, 0))) (b3 : w2.heap[w.heap.size + 3]? = some (.cells c3 t3 (0, 0))) (e5 : c0[5]? = some (.slice As F.stk.length cs)) (hb : Below w.heap.size w w2) (hv : w.cell? av = some (.int .i64 x)) (hW : Below w2.heap.size w2 W)
    (h : Calls Tryd.prog g args W (Cloned (Kd.int .i64) 3 F.stk W)) : Calls Tryd.prog g args W (Own3 w w2 av x As cs F W) := by
  refine h.mono ?_
  rintro e wa ⟨v, rfl, ho, hb1⟩
  obtain ⟨A1, c1, rfl, _, _⟩ := Kd.R_reads ho
  have hb2 := below_step hW hb1
  exact ⟨A1, c1, rfl, Kd.R_lower ho hW.size, hb2, cell_of (blk_below b0 hb2) e5, pw_cell_below (below_step hb hb2) hv, blk_frozen (blk_below b3 hb2) 5, hb1⟩

/-! #### frames whose boxes are written anew -/
def Framed2 (vin : Value) (r : Fr × Int) (w : World) (e : Ending) (w' : World) : Prop := ∃ v, e = .returned (.tuple #[v, .int .i64 r.2]) ∧ FrAt w' r.1 v ∧ Below w.heap.size w w' ∧ ∀ k, k < w.heap.size → FarF k vin → FarF k v
theorem Framed2.framed {vin : Value} {r : Fr × Int} {w : World} {e : Ending} {w' : World} (h : Framed2 vin r w e w') : Framed r w e w' := by
  obtain ⟨a, b, c, d, _⟩ := h
  exact ⟨a, b, c, d⟩
theorem rowFar_K {α : Type} {d : Kd α} {e : TypeId} {w : World} {base k n0 : Nat} {ok : Nat → Prop} {A0 : Option Addr} {c0 : Nat} {l : List α} (h : d.R e w base ok (.slice A0 l.length c0) l) (hk : k < base) (hn0 : n0 = l.length) : RowFar k (.slice A0 n0 c0) := by
  subst hn0
  intro ad n c he0 hn
  injection he0 with e1 e2 e3
  subst e1 e2 e3
  obtain ⟨inner, hown⟩ := Kd.R_own h
  obtain ⟨g, cap, he, hg, _⟩ := hown.form hn
  injection he with e1 _ _
  injection e1 with e1
  subst e1
  show g ≠ k
  omega
theorem rowFar_nil (k : Nat) (A : Option Addr) (c : Nat) : RowFar k (.slice A 0 c) := by
  intro ad n c h hn
  injection h with _ h2 _
  omega
theorem C_lt {α : Type} {d : Kd α} {w : World} {A : Option Addr} {l : List α} (hsz : ∀ x cs, d.K w x cs → 0 < cs.length) (h : d.C w A l.length l) {k c : Nat} (hk : w.heap.size ≤ k) : RowFar k (.slice A l.length c) := by
  intro ad n c he hn
  injection he with e1 e2 _
  subst e1 e2
  obtain ⟨ad', e1, hc⟩ := h.2.2 hn
  injection e1 with e1
  subst e1
  obtain ⟨cs, hl, hK, hcc⟩ := hc 0 l[0] (List.getElem?_eq_getElem hn)
  have hp := hsz _ _ hK
  have h0 := hcc 0 cs[0] (List.getElem?_eq_getElem hp)
  have hblk := cell_block_lt h0
  have e : ad.add (0 * d.sz + 0) = ad := by simp [Addr.add]
  rw [e] at hblk
  omega
theorem int_pos (w : World) (x : Int) (cs : List Value) (h : (Kd.int .i64).K w x cs) : 0 < cs.length := by rw [(Kd.int .i64).K_len h]; decide
theorem kid_pos (w : World) (x : S74) (cs : List Value) (h : k74.K w x cs) : 0 < cs.length := by rw [k74_open h]; simp
/-- A block that comes later is none of a frame's rows. -/
theorem FrAt.later {w : World} {F : Fr} {v : Value} (h : FrAt w F v) {k : Nat} (hk : w.heap.size ≤ k) : FarF k v := by
  obtain ⟨a, b, c, d, e, f, g, i, rfl, ⟨_, h1⟩, ⟨_, h2⟩, ⟨_, h3⟩, ⟨_, h4⟩⟩ := h
  exact farF_of (rowFar_int _ _) (C_lt (int_pos w) h1 hk) (rowFar_int _ _) (rowFar_int _ _) (C_lt (int_pos w) h2 hk) (C_lt (int_pos w) h3 hk) (C_lt (kid_pos w) h4 hk) (rowFar_int _ _) (rowFar_int _ _) (rowFar_bool _ _)
theorem row_far {α : Type} {d : Kd α} {w w' : World} {b c : Nat} {A : Option Addr} {l : List α} (hd : ∀ x cs, d.K w x cs → d.K w' x cs) (h : d.C w A l.length l) (hn : RowFar b (.slice A l.length c)) (ho : ∀ k, k ≠ b → k < w.heap.size → w'.heap[k]? = w.heap[k]?) : d.C w' A l.length l := by
  refine ⟨h.1, h.2.1, fun hp => ?_⟩
  obtain ⟨ad, rfl, hc⟩ := h.2.2 hp
  refine ⟨ad, rfl, fun j p hj => ?_⟩
  obtain ⟨cs, hcl, hk, hcc⟩ := hc j p hj
  refine ⟨cs, hcl, hd _ _ hk, fun i u hu => ?_⟩
  have hb := hn ad _ _ rfl hp
  have := hcc i u hu
  have hlt := cell_block_lt this
  have hblk : (ad.add (j * d.sz + i)).block = ad.block := by unfold Addr.add; split <;> rfl
  rw [hblk] at hlt
  unfold World.cell? at this ⊢
  rw [ho _ (by rw [hblk]; exact hb) (by rw [hblk]; exact hlt)]
  exact this
/-- What a frame reads stays, where one block is written that is none of its rows. -/
theorem FrAt.far {w w' : World} {F : Fr} {v : Value} (h : FrAt w F v) {b : Nat} (hf : FarF b v) (ho : ∀ k, k ≠ b → k < w.heap.size → w'.heap[k]? = w.heap[k]?) : FrAt w' F v := by
  obtain ⟨a, p, c, d, e, f, g, i, rfl, ⟨k1, h1⟩, ⟨k2, h2⟩, ⟨k3, h3⟩, ⟨k4, h4⟩⟩ := h
  refine ⟨a, p, c, d, e, f, g, i, rfl, ⟨k1, row_far (w := w) (w' := w') (fun x cs hk => hk) h1 (hf 1 _ rfl) ho⟩, ⟨k2, row_far (w := w) (w' := w') (fun x cs hk => hk) h2 (hf 4 _ rfl) ho⟩, ⟨k3, row_far (w := w) (w' := w') (fun x cs hk => hk) h3 (hf 5 _ rfl) ho⟩, ⟨k4, row_far (w := w) (w' := w') (fun x cs hk => ?_) h4 (hf 6 _ rfl) ho⟩⟩
  rw [k74_open hk]
  exact k74_mk w' x

theorem info_kid : (Tryd.prog.info? 74).map (fun i => (i.zero, i.size, i.bytes)) = some (some (.agg #[.int .i64 0, .int .i64 0]), 2, 16) := by kernel_rfl
set_option maxHeartbeats 8000000 in
set_option maxRecDepth 100000 in
theorem told_push (F : Fr) (vf : Value) (K : Ak) (vk : Value) (Av : Option Addr) (cv : Nat) (x : Int) (w : World) (hF : FrAt w F vf) (hK : AkAt w K vk) (hv : (Kd.int .i64).C w Av [x].length [x])
    (hk : K.kind = 1 ∨ K.kind = 3) (hx : isV x = true) (hn : F.stk.length < 100) :
    Calls Tryd.prog 23 #[vf, vk, .slice Av 1 cv] w (Framed2 vf ({ F with stk := F.stk ++ [x] }, 0) w) := by
  have HF := Aside0.mk hF
  have hcall : ∀ W, Below w.heap.size w W → Calls Tryd.prog 40 #[.slice Av 1 cv, .int .i64 1] W (Bool1 true W) := fun W hb => by
    have := values_call Av cv [x] 1 W (Kd.C_below hv hb)
    rw [show valuesB [x] 1 = true by simp [valuesB, notV, hx]] at this
    exact this
  obtain ⟨av, rfl, hv0⟩ := one_val hv
  obtain ⟨Ap, cp, Al, cl, As, cs, Ak, ck, rfl, ⟨hFp0, hFp⟩, ⟨hFl0, hFl⟩, ⟨hFs0, hFs⟩, ⟨hFk0, hFk⟩⟩ := hF
  have hcl := fun W (hb : Below w.heap.size w W) => clone_int As cs F.stk W (Kd.C_below hFs hb) (by omega)
  obtain ⟨Aa, ca, rfl, _, _⟩ := hK
  obtain ⟨kind, ka, kb, kok, kobj, koa, kob, kargs⟩ := K
  simp only at hk
  have hd : decide ((F.stk.length : Int) < 100) = true := decide_eq_true (by omega)
  have HN := Aside0.mk hn
  have HI := Aside0.mk info_int
  have HCL := Aside0.mk hcl
  clear hx hn hv hFp0 hFp hFl0 hFl hFs0 hFs hFk0 hFk hcl
  rcases hk with rfl | rfl
  all_goals
    go_enter Tryd.func23, Tryd.ntmps23
    go_upto_region 1 with (fail)
    refine nameW ?_
    intro w1 hw1
    obtain ⟨b0, b1, b2, hb, hsz⟩ := three_boxes hw1
    replace b2 : w1.heap[w.heap.size + 1 + 1]? = _ := b2
    clear hw1
    have q0 := blk_cells b0
    go_upto_region 2 with (fail)
    refine nameW ?_
    intro w2 hw2
    obtain ⟨b3, hb5, hsz2⟩ := one_box hw2
    clear hw2 q0
    rw [hsz] at b3 hsz2
    replace b0 := blk_below b0 hb5
    replace b1 := blk_below b1 hb5
    replace b2 := blk_below b2 hb5
    have HB := Aside0.mk (below_step hb hb5)
    have hc2 := hcall w2 HB.out
    have q0 := blk_cells b0
    have q1 := blk_cells b1
    have B0 := Aside0.mk b0
    have B2 := Aside0.mk b2
    have B3 := Aside0.mk b3
    clear b0 b1 b2 b3 hb hb5 hsz hcall
    generalize hk2 : w.heap.size + 1 + 1 = k2 at *
    have HK2 : Aside0 (w.heap.size ≤ k2 ∧ k2 ≠ w.heap.size + 3) := ⟨by omega⟩
    clear hk2
    go_upto_region 7 with ((with_reducible refine hc2.mono ?_); rintro e w3 ⟨rfl, hb3⟩; have q0' := blk_cells (blk_below B0.out hb3); have HB3 := Aside0.mk (below_step HB.out hb3); have HS3 := Aside0.mk hb3)
    clear hc2 q0 q1 q0'
    have hv3 : w3.drew.cell? av = some (.int .i64 x) := pw_cell_below (below_drew HB3.out) hv0
    have f5 : w3.drew.cell? ⟨w.heap.size, 5, none⟩ = some (.slice As F.stk.length cs) := cell_of (blk_below B0.out (below_drew HS3.out)) rfl
    have fz : w3.drew.frozen? ⟨w.heap.size + 3, 5, none⟩ = false := blk_frozen (blk_below B3.out (below_drew HS3.out)) 5
    have gv : (w3.alloc (Obj.cells #[Value.int IntKind.i64 x] 3)).drew.cell? av = some (.int .i64 x) := pw_cell_below (below_drew (below_alloc HB3.out _)) hv0
    have g5 : (w3.alloc (Obj.cells #[Value.int IntKind.i64 x] 3)).drew.cell? ⟨w.heap.size, 5, none⟩ = some (.slice As F.stk.length cs) := cell_of (blk_below B0.out (below_drew (below_alloc HS3.out _))) rfl
    have gz : (w3.alloc (Obj.cells #[Value.int IntKind.i64 x] 3)).drew.frozen? ⟨w.heap.size + 3, 5, none⟩ = false := blk_frozen (blk_below B3.out (below_drew (below_alloc HS3.out _))) 5
    have hcl1 : Calls Tryd.prog 28 #[.slice As F.stk.length cs] w3.drew (Own3 w w2 av x As cs F w3.drew) := own3_of B0.out B3.out rfl (HB.out) hv0 (below_drew HS3.out) (HCL.out w3.drew (below_drew HB3.out))
    have hcl2 : Calls Tryd.prog 28 #[.slice As F.stk.length cs] (w3.alloc (Obj.cells #[Value.int IntKind.i64 x] 3)).drew (Own3 w w2 av x As cs F (w3.alloc (Obj.cells #[Value.int IntKind.i64 x] 3)).drew) := own3_of B0.out B3.out rfl (HB.out) hv0 (below_drew (below_alloc HS3.out _)) (HCL.out _ (below_drew (below_alloc HB3.out _)))
    have HV0 := Aside0.mk hv0
    have BN : Aside0 ((w3.alloc (Obj.cells #[Value.int IntKind.i64 x] 3)).drew.heap[w3.heap.size]? = some (Obj.cells #[Value.int IntKind.i64 x] 3 (0, 0))) := ⟨blk_new _ _⟩
    have nav : av.block ≠ w.heap.size + 3 := by have := cell_block_lt hv0; omega
    have n03 : (⟨w.heap.size, 5, none⟩ : Addr).block ≠ (⟨w.heap.size + 3, 5, none⟩ : Addr).block := by show w.heap.size ≠ w.heap.size + 3; omega
    clear hb3 hv0
    go_region_held3 (fun W => W.cell? ⟨w.heap.size, 5, none⟩ = some (.slice As F.stk.length cs) ∧ W.cell? av = some (.int .i64 x) ∧ W.frozen? ⟨w.heap.size + 3, 5, none⟩ = false) (first | exact ⟨f5, hv3, fz⟩ | exact ⟨g5, gv, gz⟩ | exact ⟨h5, h6, h7⟩ | exact keep3 (by omega) nav h5 h6 h7 _ | exact ⟨cell_new h5 _, cell_new h6 _, (frozen?_alloc_cells _ _ _ _).trans h7⟩ | (refine ⟨?_, ?_, ?_⟩ <;> go_keep))
      (first
        | ((with_reducible refine hcl1.mono ?_); rintro e wa ⟨A1, c1, rfl, hoX, hbX, h5, h6, h7, hba⟩)
        | ((with_reducible refine hcl2.mono ?_); rintro e wa ⟨A1, c1, rfl, hoX, hbX, h5, h6, h7, hba⟩)
        | (refine Kd.R_append_rows_step (Kd.int .i64) (w0 := w2) w2.heap.size (by rfl) (.tmp 27) (.tmp 31) 23 3 (.int .i64 0) 8 (by rfl) Tryd.underlying23 HI.out (by rfl) (by decide) (by decide) (.slice A1 F.stk.length c1) F.stk [x] _ 1 1 (fun _ => True) (fun _ => False) (by rfl) (by rfl) (by first | exact hoX | exact Kd.R_alloc hoX _) (by first | exact one_row (blk_new _ _) | exact one_row (blk_below BN.out hba)) (fun x cs h => h) (fun _ hk => hk.elim) (fun _ _ => trivial) (by first | exact hbX | exact below_alloc hbX _) (by first | exact hbX.size | exact (below_alloc hbX _).size) (by have := HN.out; omega) ?_; intro v1 w4 ho hb4 hg hat; obtain ⟨A5, c5, rfl, hc5, hC5⟩ := Kd.R_reads ho; have h5 := (cell_of (blk_below B0.out hb4) rfl : w4.cell? ⟨w.heap.size, 5, none⟩ = some (.slice As F.stk.length cs)); have h6 := pw_cell_below (below_step HB.out hb4) HV0.out; have h7 := blk_frozen (blk_below B3.out hb4) 5; have h8 := (cell_of (blk_below B3.out hb4) rfl : w4.cell? ⟨w.heap.size + 3, 5, none⟩ = some (.slice As F.stk.length cs)))
        | fail "no")
    all_goals
      refine nameEnd ?_
      intro w5 hw5
      have hbF : Below w.heap.size w w5 := by rw [hw5]; exact ((below_step HB.out hb4).setCell (by show w.heap.size ≤ w.heap.size + 3; omega) _)
      have b3' : w5.heap[w.heap.size + 3]? = some (.cells (frArr { F with stk := F.stk ++ [x] } Ap cp (.slice Al F.loc.length cl) (.slice A5 (F.stk ++ [x]).length c5) Ak ck) 33 (0, 0)) := by
        rw [hw5]; exact blk_put (blk_below B3.out hb4) 5 _ (by simp [frArr])
      have b2' : w5.heap[k2]? = some (.cells zFr 33 (0, 0)) := by
        rw [hw5]; exact (((OnlyB.refl (w.heap.size + 3) w4).set 5 _).far _ HK2.out.2).trans (blk_below B2.out hb4)
      have ho5 : (Kd.int .i64).R 3 w5 w2.heap.size (fun _ => True) (.slice A5 (F.stk ++ [x]).length c5) (F.stk ++ [x]) := by
        rw [hw5]; exact Kd.R_set ho (blk_below B3.out hb4) no_frame 5 _
      have HO5 := Aside0.mk ho5
      have HBF := Aside0.mk hbF
      have B2' := Aside0.mk b2'
      have q3' := blk_cells b3'
      unfold frArr at q3'
      have q2' := blk_cells b2'
      unfold zFr at q2'
      have z2 : ∀ i, w5.frozen? ⟨k2, i, none⟩ = false := blk_frozen b2'
      have HF5 := Aside0.mk (HF.out.below hbF)
      clear hw5 ho5 hbF b2' b3' ho hb4 hg hat
      clear hcl1 hcl2 f5 hv3 fz gv g5 gz hoX hbX hba h8 h7 h6 h5 HCL HI HN
      go_wp2
      refine bodyPost_ret (told_results _ _ (k2) _ _ rfl rfl (sets10 B2'.out _ _ _ _ _ _ _ _ _ _) rfl) rfl ?_
      have ho := only10 w5 (k2) (.int .i64 F.task) (.slice Ap F.path.length cp) (.int .i64 F.fn) (.int .i64 F.pc) (.slice Al F.loc.length cl) (.slice A5 (F.stk.length + 1) c5) (.slice Ak F.kids.length ck) (.int .i64 F.many) (.int .i64 F.spent) (.bool F.fail)
      have hfin := ho.below HBF.out HK2.out.1
      obtain ⟨r1, r2, r3⟩ := only_row ho B2'.out (by decide) HO5.out
      exact ⟨_, rfl, frame_stk (HF.out.below hfin) (by simp) r2 r3, hfin, fun k hk hf => farF_of (rowFar_int _ _) (hf 1 _ rfl) (rowFar_int _ _) (rowFar_int _ _) (hf 4 _ rfl) (rowFar_K HO5.out (by have := HB.out.size; omega) (by simp)) (hf 6 _ rfl) (rowFar_int _ _) (rowFar_int _ _) (rowFar_bool _ _)⟩

/-! #### a spawn -/
theorem one_kid {w : World} {k : Nat} {x y : Int} (h : w.heap[k]? = some (.cells #[.int .i64 x, .int .i64 y] 74 (0, 0))) : k74.C w (some ⟨k, 0, none⟩) 1 [⟨x, y⟩] := by
  refine ⟨rfl, by decide, fun _ => ⟨_, rfl, fun j p hj => ?_⟩⟩
  cases j with
  | succ j => simp at hj
  | zero =>
    simp only [List.getElem?_cons_zero, Option.some.injEq] at hj
    subst hj
    refine ⟨_, rfl, k74_mk w ⟨x, y⟩, fun i u hu => ?_⟩
    match i with
    | 0 =>
      simp only [List.getElem?_cons_zero, Option.some.injEq] at hu
      subst hu
      exact blk_cells h 0
    | 1 =>
      simp only [List.getElem?_cons_succ, List.getElem?_cons_zero, Option.some.injEq] at hu
      subst hu
      have := blk_cells h 1
      simpa [Addr.add, k74, Kd.iso, Kd.pair, Kd.int, Kd.scalar] using this
    | i + 2 => simp at hu
theorem keep4 {W : World} {b c d i j k : Nat} {av : Addr} {v5 v6 v7 : Value} (n03 : b ≠ c) (n13 : d ≠ c) (nav : av.block ≠ c) (h5 : W.cell? ⟨b, i, none⟩ = some v5) (h6 : W.cell? av = some v6) (h8 : W.cell? ⟨d, k, none⟩ = some v7) (h7 : W.frozen? ⟨c, j, none⟩ = false) (u : Value) :
    (W.setCell ⟨c, j, none⟩ u).cell? ⟨b, i, none⟩ = some v5 ∧ (W.setCell ⟨c, j, none⟩ u).cell? av = some v6 ∧ (W.setCell ⟨c, j, none⟩ u).cell? ⟨d, k, none⟩ = some v7 ∧ (W.setCell ⟨c, j, none⟩ u).frozen? ⟨c, j, none⟩ = false := by
  refine ⟨?_, ?_, ?_, ?_⟩
  · rw [cell_far (p := ⟨c, j, none⟩) (a := ⟨b, i, none⟩) n03]; exact h5
  · rw [cell_far (p := ⟨c, j, none⟩) nav]; exact h6
  · rw [cell_far (p := ⟨c, j, none⟩) (a := ⟨d, k, none⟩) n13]; exact h8
  · simpa using h7
def Own4 (w w2 : World) (av : Addr) (x kb : Int) (As : Option Addr) (cs : Nat) (F : Fr) (W : World) (e : Ending) (wa : World) : Prop :=
  ∃ A1 c1, e = .returned (.slice A1 F.kids.length c1) ∧ k74.R 74 wa w2.heap.size (fun _ => True) (.slice A1 F.kids.length c1) F.kids ∧ Below w2.heap.size w2 wa ∧ wa.cell? ⟨w.heap.size, 6, none⟩ = some (.slice As F.kids.length cs) ∧ wa.cell? av = some (.int .i64 x) ∧ wa.cell? ⟨w.heap.size + 1, 2, none⟩ = some (.int .i64 kb) ∧ wa.frozen? ⟨w.heap.size + 3, 6, none⟩ = false ∧ Below W.heap.size W wa
theorem own4_of {w w2 : World} {av : Addr} {x kb : Int} {As : Option Addr} {cs : Nat} {F : Fr} {W : World} {g : FuncId} {args : Array Value} {c0 c1 c3 : Array Value} {t0 t1 t3 : TypeId} (b0 : w2.heap[w.heap.size]? = some (.cells c0 t0 (0, 0))) (b1 : w2.heap[w.heap.size + 1]? = some (.cells c1 t1 (0, 0))) (b3 : w2.heap[w.heap.size + 3]? = some (.cells c3 t3 (0, 0))) (e5 : c0[6]? = some (.slice As F.kids.length cs)) (e6 : c1[2]? = some (.int .i64 kb)) (hb : Below w.heap.size w w2) (hv : w.cell? av = some (.int .i64 x)) (hW : Below w2.heap.size w2 W)
    (h : Calls Tryd.prog g args W (Cloned k74 74 F.kids W)) : Calls Tryd.prog g args W (Own4 w w2 av x kb As cs F W) := by
  refine h.mono ?_
  rintro e wa ⟨v, rfl, ho, hb1⟩
  obtain ⟨A1, c1, rfl, _, _⟩ := Kd.R_reads ho
  have hb2 := below_step hW hb1
  exact ⟨A1, c1, rfl, Kd.R_lower ho hW.size, hb2, cell_of (blk_below b0 hb2) e5, pw_cell_below (below_step hb hb2) hv, cell_of (blk_below b1 hb2) e6, blk_frozen (blk_below b3 hb2) 6, hb1⟩
theorem no_frameK (q : Nat) (h : q ∈ 74 :: k74.E) : q ≠ 33 := by
  have : q = 74 := by simpa [k74, Kd.iso, Kd.pair, Kd.int, Kd.scalar] using h
  omega
theorem only_rowK {b base n c : Nat} {w w' : World} {cs : Array Value} {A : Option Addr} {l : List S74} (h : OnlyB b w w') (hb : w.heap[b]? = some (.cells cs 33 (0, 0))) (hr : k74.R 74 w base (fun _ => True) (.slice A n c) l) :
    n = l.length ∧ l.length ≤ c ∧ k74.C w' A l.length l := by
  have r1 := Kd.R_types hr hb (fun q hq he => (no_frameK q hq) he)
  have r2 := Kd.R_reads' (Kd.R_step r1 (fun k hk _ => h.far k hk.2))
  exact ⟨r2.1, by have := r2.2.1; have := r2.1; omega, r2.2.2⟩
theorem frame_kids {w : World} {F : Fr} {s : List S74} {m : Int} {Ap Al As Ak : Option Addr} {cp cl cs ck : Nat} (h : FrAt w F (.agg #[.int .i64 F.task, .slice Ap F.path.length cp, .int .i64 F.fn, .int .i64 F.pc, .slice Al F.loc.length cl, .slice As F.stk.length cs, .slice Ak F.kids.length ck, .int .i64 F.many, .int .i64 F.spent, .bool F.fail]))
    {A5 : Option Addr} {c5 n : Nat} (hn : n = s.length) (h1 : s.length ≤ c5) (h2 : k74.C w A5 s.length s) : FrAt w { F with kids := s, many := m } (.agg #[.int .i64 F.task, .slice Ap F.path.length cp, .int .i64 F.fn, .int .i64 F.pc, .slice Al F.loc.length cl, .slice As F.stk.length cs, .slice A5 n c5, .int .i64 m, .int .i64 F.spent, .bool F.fail]) := by
  subst hn
  obtain ⟨a, b, c, d, e, f, g, i, he, hp, hl, hs, hk⟩ := h
  simp only [Value.agg.injEq, Array.mk.injEq, List.cons.injEq, Value.slice.injEq, true_and, and_true] at he
  obtain ⟨⟨rfl, rfl⟩, ⟨rfl, rfl⟩, ⟨rfl, rfl⟩, ⟨rfl, rfl⟩⟩ := he
  exact ⟨_, _, _, _, _, _, _, _, rfl, hp, hl, hs, ⟨h1, h2⟩⟩

set_option maxHeartbeats 8000000 in
set_option maxRecDepth 100000 in
theorem told_spawn (F : Fr) (vf : Value) (K : Ak) (vk : Value) (Av : Option Addr) (cv : Nat) (x : Int) (w : World) (hF : FrAt w F vf) (hK : AkAt w K vk) (hv : (Kd.int .i64).C w Av [x].length [x])
    (hk : K.kind = 4) (hx : 1 ≤ x) (hb0 : -1 ≤ K.b) (hb1 : K.b < (F.loc.length : Int)) (hn : F.kids.length ≤ 1000000) (hm0 : 0 ≤ F.many) (hm1 : F.many ≤ 1000000000) :
    Calls Tryd.prog 23 #[vf, vk, .slice Av 1 cv] w (Framed2 vf ({ F with kids := F.kids ++ [⟨x, K.b⟩], many := F.many + 1 }, 0) w) := by
  have HF := Aside0.mk hF
  obtain ⟨av, rfl, hv0⟩ := one_val hv
  obtain ⟨Ap, cp, Al, cl, As, cs, Ak, ck, rfl, ⟨hFp0, hFp⟩, ⟨hFl0, hFl⟩, ⟨hFs0, hFs⟩, ⟨hFk0, hFk⟩⟩ := hF
  have hcl := fun W (hb : Below w.heap.size w W) => clone_kid Ak ck F.kids W (Kd.C_below hFk hb) (by omega)
  obtain ⟨Aa, ca, rfl, _, _⟩ := hK
  obtain ⟨kind, ka, kb, kok, kobj, koa, kob, kargs⟩ := K
  simp only at hk hb0 hb1
  subst hk
  have d1 : decide (1 ≤ x) = true := decide_eq_true hx
  have d2 : decide (-1 ≤ kb) = true := decide_eq_true hb0
  have d3 : decide (kb < (F.loc.length : Int)) = true := decide_eq_true hb1
  have HN := Aside0.mk hn
  have HI := Aside0.mk info_kid
  have HCL := Aside0.mk hcl
  clear hn hv hFp0 hFp hFl0 hFl hFs0 hFs hFk0 hFk hcl hx hb0 hb1
  go_enter Tryd.func23, Tryd.ntmps23
  go_upto_region 1 with (fail)
  refine nameW ?_
  intro w1 hw1
  obtain ⟨b0, b1, b2, hb, hsz⟩ := three_boxes hw1
  replace b2 : w1.heap[w.heap.size + 1 + 1]? = _ := b2
  clear hw1
  have q0 := blk_cells b0
  go_upto_region 2 with (fail)
  refine nameW ?_
  intro w2 hw2
  obtain ⟨b3, hb5, hsz2⟩ := one_box hw2
  clear hw2 q0
  rw [hsz] at b3 hsz2
  replace b0 := blk_below b0 hb5
  replace b1 := blk_below b1 hb5
  replace b2 := blk_below b2 hb5
  have HB := Aside0.mk (below_step hb hb5)
  have hv2 := pw_cell_below HB.out hv0
  have q0 := blk_cells b0
  have q1 := blk_cells b1
  have B0 := Aside0.mk b0
  have B1 := Aside0.mk b1
  have B2 := Aside0.mk b2
  have B3 := Aside0.mk b3
  clear b0 b1 b2 b3 hb hb5 hsz hsz2
  generalize hk2 : w.heap.size + 1 + 1 = k2 at *
  have HK2 : Aside0 (w.heap.size ≤ k2 ∧ k2 ≠ w.heap.size + 3) := ⟨by omega⟩
  clear hk2
  go_upto_region 13 with (fail)
  clear q0 q1 hv2
  have hv3 : w2.drew.cell? av = some (.int .i64 x) := pw_cell_below (below_drew HB.out) hv0
  have f5 : w2.drew.cell? ⟨w.heap.size, 6, none⟩ = some (.slice Ak F.kids.length ck) := cell_of (blk_drew B0.out) rfl
  have fk : w2.drew.cell? ⟨w.heap.size + 1, 2, none⟩ = some (.int .i64 kb) := cell_of (blk_drew B1.out) rfl
  have fz : w2.drew.frozen? ⟨w.heap.size + 3, 6, none⟩ = false := blk_frozen (blk_drew B3.out) 6
  have gv : (w2.alloc (Obj.cells #[Value.int IntKind.i64 x, Value.int IntKind.i64 kb] 74)).drew.cell? av = some (.int .i64 x) := pw_cell_below (below_drew (below_alloc HB.out _)) hv0
  have g5 : (w2.alloc (Obj.cells #[Value.int IntKind.i64 x, Value.int IntKind.i64 kb] 74)).drew.cell? ⟨w.heap.size, 6, none⟩ = some (.slice Ak F.kids.length ck) := cell_of (blk_below B0.out (below_drew (below_alloc (Below.refl _ _) _))) rfl
  have gk : (w2.alloc (Obj.cells #[Value.int IntKind.i64 x, Value.int IntKind.i64 kb] 74)).drew.cell? ⟨w.heap.size + 1, 2, none⟩ = some (.int .i64 kb) := cell_of (blk_below B1.out (below_drew (below_alloc (Below.refl _ _) _))) rfl
  have gz : (w2.alloc (Obj.cells #[Value.int IntKind.i64 x, Value.int IntKind.i64 kb] 74)).drew.frozen? ⟨w.heap.size + 3, 6, none⟩ = false := blk_frozen (blk_below B3.out (below_drew (below_alloc (Below.refl _ _) _))) 6
  have hcl1 : Calls Tryd.prog 41 #[.slice Ak F.kids.length ck] w2.drew (Own4 w w2 av x kb Ak ck F w2.drew) := own4_of B0.out B1.out B3.out rfl rfl HB.out hv0 (below_drew (Below.refl _ _)) (HCL.out w2.drew (below_drew HB.out))
  have hcl2 : Calls Tryd.prog 41 #[.slice Ak F.kids.length ck] (w2.alloc (Obj.cells #[Value.int IntKind.i64 x, Value.int IntKind.i64 kb] 74)).drew (Own4 w w2 av x kb Ak ck F (w2.alloc (Obj.cells #[Value.int IntKind.i64 x, Value.int IntKind.i64 kb] 74)).drew) := own4_of B0.out B1.out B3.out rfl rfl HB.out hv0 (below_drew (below_alloc (Below.refl _ _) _)) (HCL.out _ (below_drew (below_alloc HB.out _)))
  have nav : av.block ≠ w.heap.size + 3 := by have := cell_block_lt hv0; omega
  have HV0 := Aside0.mk hv0
  have BN : Aside0 ((w2.alloc (Obj.cells #[Value.int IntKind.i64 x, Value.int IntKind.i64 kb] 74)).drew.heap[w2.heap.size]? = some (Obj.cells #[Value.int IntKind.i64 x, Value.int IntKind.i64 kb] 74 (0, 0))) := ⟨blk_new _ _⟩
  clear hv0
  go_region_held3 (fun W => W.cell? ⟨w.heap.size, 6, none⟩ = some (.slice Ak F.kids.length ck) ∧ W.cell? av = some (.int .i64 x) ∧ W.cell? ⟨w.heap.size + 1, 2, none⟩ = some (.int .i64 kb) ∧ W.frozen? ⟨w.heap.size + 3, 6, none⟩ = false) (first | exact ⟨f5, hv3, fk, fz⟩ | exact ⟨g5, gv, gk, gz⟩ | exact ⟨h5, h6, hk6, h7⟩ | exact keep4 (by omega) (by omega) nav h5 h6 hk6 h7 _ | exact ⟨cell_new h5 _, cell_new h6 _, cell_new hk6 _, (frozen?_alloc_cells _ _ _ _).trans h7⟩ | (refine ⟨?_, ?_, ?_, ?_⟩ <;> go_keep))
    (first
      | ((with_reducible refine hcl1.mono ?_); rintro e wa ⟨A1, c1, rfl, hoX, hbX, h5, h6, hk6, h7, hba⟩)
      | ((with_reducible refine hcl2.mono ?_); rintro e wa ⟨A1, c1, rfl, hoX, hbX, h5, h6, hk6, h7, hba⟩)
      | (refine Kd.R_append_rows_step k74 (w0 := w2) w2.heap.size (by rfl) (.tmp 66) (.tmp 73) 31 74 (.agg #[.int .i64 0, .int .i64 0]) 16 (by rfl) Tryd.underlying31 HI.out (by rfl) (by decide) (by decide) (.slice A1 F.kids.length c1) F.kids [⟨x, kb⟩] _ 1 1 (fun _ => True) (fun _ => False) (by rfl) (by rfl) (by first | exact hoX | exact Kd.R_alloc hoX _) (by first | exact one_kid (blk_new _ _) | exact one_kid (blk_below BN.out hba)) (by exact kid_KM _ _ _) (fun _ hk => hk.elim) (fun _ _ => trivial) (by first | exact hbX | exact below_alloc hbX _) (by first | exact hbX.size | exact (below_alloc hbX _).size) (by have := HN.out; omega) ?_; intro v1 w4 ho hb4 hg hat; obtain ⟨A5, c5, rfl, hc5, hC5⟩ := Kd.R_reads ho; have h5 := (cell_of (blk_below B0.out hb4) rfl : w4.cell? ⟨w.heap.size, 6, none⟩ = some (.slice Ak F.kids.length ck)); have h6 := pw_cell_below (below_step HB.out hb4) HV0.out; have hk6 := (cell_of (blk_below B1.out hb4) rfl : w4.cell? ⟨w.heap.size + 1, 2, none⟩ = some (.int .i64 kb)); have h7 := blk_frozen (blk_below B3.out hb4) 6; have h8 := (cell_of (blk_below B3.out hb4) rfl : w4.cell? ⟨w.heap.size + 3, 6, none⟩ = some (.slice Ak F.kids.length ck)))
      | fail "no")
  all_goals
    refine nameEnd ?_
    intro w5 hw5
    have hbF : Below w.heap.size w w5 := by rw [hw5]; exact ((below_step HB.out hb4).setCell (by show w.heap.size ≤ w.heap.size + 3; omega) _)
    have b3' : w5.heap[w.heap.size + 3]? = some (.cells #[.int .i64 F.task, .slice Ap F.path.length cp, .int .i64 F.fn, .int .i64 F.pc, .slice Al F.loc.length cl, .slice As F.stk.length cs, .slice A5 (F.kids.length + 1) c5, .int .i64 F.many, .int .i64 F.spent, .bool F.fail] 33 (0, 0)) := by
      rw [hw5]; exact blk_put (blk_below B3.out hb4) 6 _ (by simp)
    have b2' : w5.heap[k2]? = some (.cells zFr 33 (0, 0)) := by
      rw [hw5]; exact (((OnlyB.refl (w.heap.size + 3) w4).set 6 _).far _ HK2.out.2).trans (blk_below B2.out hb4)
    have ho5 : k74.R 74 w5 w2.heap.size (fun _ => True) (.slice A5 (F.kids ++ [(⟨x, kb⟩ : S74)]).length c5) (F.kids ++ [(⟨x, kb⟩ : S74)]) := by
      rw [hw5]; exact Kd.R_set ho (blk_below B3.out hb4) no_frameK 6 _
    have HO5 := Aside0.mk ho5
    have HBF := Aside0.mk hbF
    have B2' := Aside0.mk b2'
    have B3' := Aside0.mk b3'
    clear hw5 ho5 hbF b2' b3' ho hb4 hg hat hcl1 hcl2 f5 hv3 fz gv g5 gz fk gk hk6 hoX hbX hba h8 h7 h6 h5 HCL HI HN HV0
    have q3' := blk_cells B3'.out
    have z3 : ∀ i, w5.frozen? ⟨w.heap.size + 3, i, none⟩ = false := blk_frozen B3'.out
    go_upto_region 18 with (fail)
    refine nameW ?_
    intro w6 hw6
    have b3'' : w6.heap[w.heap.size + 3]? = some (.cells #[.int .i64 F.task, .slice Ap F.path.length cp, .int .i64 F.fn, .int .i64 F.pc, .slice Al F.loc.length cl, .slice As F.stk.length cs, .slice A5 (F.kids.length + 1) c5, .int .i64 (F.many + 1), .int .i64 F.spent, .bool F.fail] 33 (0, 0)) := by
      rw [hw6]; exact blk_put B3'.out 7 _ (by simp)
    have b2'' : w6.heap[k2]? = some (.cells zFr 33 (0, 0)) := by
      rw [hw6]; exact (((OnlyB.refl (w.heap.size + 3) w5).set 7 _).far _ HK2.out.2).trans B2'.out
    have ho6 : k74.R 74 w6 w2.heap.size (fun _ => True) (.slice A5 (F.kids ++ [(⟨x, kb⟩ : S74)]).length c5) (F.kids ++ [(⟨x, kb⟩ : S74)]) := by
      rw [hw6]; exact Kd.R_set HO5.out B3'.out no_frameK 7 _
    have hb6 : Below w.heap.size w w6 := by rw [hw6]; exact HBF.out.setCell (by show w.heap.size ≤ w.heap.size + 3; omega) _
    clear hw6 q3' z3
    have HO6 := Aside0.mk ho6
    have HB6 := Aside0.mk hb6
    have B2'' := Aside0.mk b2''
    have q3' := blk_cells b3''
    have q2' := blk_cells b2''
    unfold zFr at q2'
    have z2 : ∀ i, w6.frozen? ⟨k2, i, none⟩ = false := blk_frozen b2''
    clear ho6 hb6 b2'' b3'' HO5 HBF B2' B3'
    go_wp2
    refine bodyPost_ret (told_results _ _ k2 _ _ rfl rfl (sets10 B2''.out _ _ _ _ _ _ _ _ _ _) rfl) rfl ?_
    have ho := only10 w6 k2 (.int .i64 F.task) (.slice Ap F.path.length cp) (.int .i64 F.fn) (.int .i64 F.pc) (.slice Al F.loc.length cl) (.slice As F.stk.length cs) (.slice A5 (F.kids.length + 1) c5) (.int .i64 (F.many + 1)) (.int .i64 F.spent) (.bool F.fail)
    have hfin := ho.below HB6.out HK2.out.1
    obtain ⟨r1, r2, r3⟩ := only_rowK ho B2''.out HO6.out
    exact ⟨_, rfl, frame_kids (HF.out.below hfin) (by simp) r2 r3, hfin, fun k hk hf => farF_of (rowFar_int _ _) (hf 1 _ rfl) (rowFar_int _ _) (rowFar_int _ _) (hf 4 _ rfl) (hf 5 _ rfl) (rowFar_K HO6.out (by have := HB.out.size; omega) (by simp)) (rowFar_int _ _) (rowFar_int _ _) (rowFar_bool _ _)⟩

end Go.Proofs.YtfcgjadfhojogaaDoor.Vm
