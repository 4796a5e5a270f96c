/- The frame at work (vm.run): what its block holds; contracts of its small methods. -/
import Derived.Test.YtfcgjadfhojogaaDoorVmC
import Derived.StillTailTactics
namespace Go.Proofs.YtfcgjadfhojogaaDoor.Vm
open Go.RowKit Go.Proofs.YtfcgjadfhojogaaDoorW.PrintWords Go.Proofs.YtfcgjadfhojogaaDoorW.PrintLast Go.Proofs.YtfcgjadfhojogaaDoorW.PrintMore Go.Proofs.YtfcgjadfhojogaaDoor.PVmStarts
set_option linter.unusedVariables false
set_option linter.unusedSimpArgs false

theorem nameEnd {Q : Exit → Act → World → Prop} {x : Exit} {a : Act} {W : World} (h : ∀ w1, w1 = W → Q x a w1) : Q x a W := h W rfl
/-- A region that draws its order, whose last operations come last in any order: the steps ahead of them, one by one, behind a name. -/
theorem still_tail {P : Program} {id : Nat} {Q : Exit → Act → World → Prop} {a : Act} {w : World} {l : List Oper} (n : Nat) (hm : P.follows .mixedOrders = true) (hB : Region.lexTailB .any l.toArray n = true)
    (h : ∀ (S : List Oper → Act → Prop), (∀ (o : Oper) (rest : List Oper) (a : Act), (∀ K : Act → Prop, (∀ a, S rest a → K a) → if Region.wanted o (yielded l.toArray a.tmps) then o.still P a w.drew K else K (a.put o.dst undef)) → S (o :: rest) a) →
      (∀ a, wpList P l.toArray Q (l.drop n) a w.drew → S [] a) → S (l.take n) a) : (Code.region id l.toArray true).wp P Q a w :=
  wp_region_still_tail n hm hB (h (wpStill P l.toArray w.drew fun a' => wpList P l.toArray Q (l.drop n) a' w.drew) (fun _ _ _ hh => wpStill_step hh) (fun _ hh => hh))

/-- What is asked. -/
structure Ak where
  kind : Int
  a : Int
  b : Int
  okind : Int
  oobj : Int
  oa : Int
  ob : Int
  args : List Int
def noAk : Ak := ⟨0, 0, 0, 0, 0, 0, 0, []⟩
/-- Where what is only read lies. -/
structure Pt where
  Af : Option Addr
  cf : Nat
  Ac : Option Addr
  cc : Nat
  Ai : Option Addr
  ci : Nat
  Ap : Option Addr
  cp : Nat
  Ak : Option Addr
  ck : Nat
def cellsOf (C : Cd) (B : S65) (F : Fr) (K : Ak) (asks : Bool) (p : Pt) (vl vs va : Value) : Array Value :=
  #[.slice p.Af C.funs.length p.cf, .slice p.Ac C.cells.length p.cc, .int .i64 C.maps, .int .i64 C.stacks, .int .i64 C.chans, .int .i64 C.main,
    .int .i64 B.f0, .int .i64 B.f1, .slice p.Ai B.f2.length p.ci,
    .int .i64 F.task, .slice p.Ap F.path.length p.cp, .int .i64 F.fn, .int .i64 F.pc, vl, vs, .slice p.Ak F.kids.length p.ck, .int .i64 F.many, .int .i64 F.spent, .bool F.fail,
    .int .i64 K.kind, .int .i64 K.a, .int .i64 K.b, .int .i64 K.okind, .int .i64 K.oobj, .int .i64 K.oa, .int .i64 K.ob, va, .bool asks]

/-- A frame at work. -/
structure RunAt (w0 w : World) (b : Nat) (C : Cd) (B : S65) (F : Fr) (p : Pt) (vl vs : Value) : Prop where
  blk : w.heap[b]? = some (.cells (cellsOf C B F noAk false p vl vs (.slice none 0 0)) 77 (0, 0))
  base : w0.heap.size ≤ b
  below : Below w0.heap.size w0 w
  loc : (Kd.int .i64).R 3 w w0.heap.size (fun _ => True) vl F.loc
  stk : (Kd.int .i64).R 3 w w0.heap.size (fun _ => True) vs F.stk
  ne : NeRow vl vs

theorem no_run (q : Nat) (h : q ∈ 3 :: (Kd.int .i64).E) : q ≠ 77 := by
  have : q = 3 := by simpa [Kd.int, Kd.scalar] using h
  omega
theorem RunAt.setF {w0 w : World} {b : Nat} {C : Cd} {B : S65} {F : Fr} {p : Pt} {vl vs : Value} (h : RunAt w0 w b C B F p vl vs) (i : Nat) (u : Value) (F' : Fr)
    (e : (cellsOf C B F noAk false p vl vs (.slice none 0 0)).setIfInBounds i u = cellsOf C B F' noAk false p vl vs (.slice none 0 0)) (hl : F'.loc = F.loc) (hs : F'.stk = F.stk) :
    RunAt w0 (w.setCell ⟨b, i, none⟩ u) b C B F' p vl vs :=
  ⟨blk_put h.blk i u e, h.base, h.below.setCell h.base _, by rw [hl]; exact Kd.R_set h.loc h.blk no_run i u, by rw [hs]; exact Kd.R_set h.stk h.blk no_run i u, h.ne⟩
theorem RunAt.mono {w0 w w1 : World} {b : Nat} {C : Cd} {B : S65} {F : Fr} {p : Pt} {vl vs : Value} (h : RunAt w0 w b C B F p vl vs) (hb : Below w.heap.size w w1) : RunAt w0 w1 b C B F p vl vs :=
  ⟨blk_below h.blk hb, h.base, below_then h.below h.below.size hb, Kd.R_below h.loc hb, Kd.R_below h.stk hb, h.ne⟩

theorem RunAt.setS {w0 w : World} {b : Nat} {C : Cd} {B : S65} {F : Fr} {p : Pt} {vl vs : Value} (h : RunAt w0 w b C B F p vl vs) (vs' : Value) (s : List Int)
    (hR : (Kd.int .i64).R 3 w w0.heap.size (fun _ => True) vs' s) (hn : NeRow vl vs') : RunAt w0 (w.setCell ⟨b, 14, none⟩ vs') b C B { F with stk := s } p vl vs' :=
  ⟨blk_put h.blk 14 vs' rfl, h.base, h.below.setCell h.base _, Kd.R_set h.loc h.blk no_run 14 vs', Kd.R_set hR h.blk no_run 14 vs', hn⟩

/-- What is no frame at work, and no row of numbers, stays. -/
structure Keeps (w w' : World) : Prop where
  size : w.heap.size ≤ w'.heap.size
  blk : ∀ (k : Nat) (cs : Array Value) (t : TypeId), w.heap[k]? = some (Obj.cells cs t (0, 0)) → t ≠ 77 → t ≠ 3 → w'.heap[k]? = some (Obj.cells cs t (0, 0))
theorem Keeps.refl (w : World) : Keeps w w := ⟨Nat.le_refl _, fun _ _ _ h _ _ => h⟩
theorem Keeps.trans {w w1 w2 : World} (h : Keeps w w1) (k : Keeps w1 w2) : Keeps w w2 := ⟨Nat.le_trans h.size k.size, fun j cs t hj h1 h2 => k.blk j cs t (h.blk j cs t hj h1 h2) h1 h2⟩
theorem Keeps.of_below {w w1 : World} (h : Below w.heap.size w w1) : Keeps w w1 := ⟨h.size, fun _ _ _ hk _ _ => blk_below hk h⟩
theorem Keeps.set_ {w w1 : World} (h : Keeps w w1) {g : Nat} {t : TypeId} {cs : Array Value} (hb : w1.heap[g]? = some (.cells cs t (0, 0))) (ht : t = 77 ∨ t = 3) (i : Nat) (u : Value) : Keeps w (w1.setCell ⟨g, i, none⟩ u) :=
  ⟨Nat.le_trans h.size (by simp [World.setCell]), fun k c q hk h1 h2 => blk_far (h.blk k c q hk h1 h2) (by
    rintro rfl
    rw [h.blk k c q hk h1 h2] at hb
    injection hb with hb
    injection hb with _ hq
    exact ht.elim (fun e => h1 (hq.trans e)) (fun e => h2 (hq.trans e))) u⟩
theorem Keeps.grown {w w1 : World} {base n : Nat} {v : Value} {xs : List Value} (ho : w.ownsRow base 3 1 v n xs) (hg : w.grownBy w1 v.ownBlock) : Keeps w w1 :=
  ⟨hg.size, fun k c q hk h1 h2 => blk_grown hk hg (own_ne ho hk (fun e => h2 e.symm))⟩

/-- Another row has been written to, or grown. -/
theorem RunAt.far {w0 w w1 : World} {b : Nat} {C : Cd} {B : S65} {F : Fr} {p : Pt} {vl vs : Value} {row : Option Nat} (h : RunAt w0 w b C B F p vl vs) (hg : w.grownBy w1 row) (hbw : Below w0.heap.size w0 w1)
    (hb : some b ≠ row) (hl : ∀ k, vl.ownBlock = some k → some k ≠ row) (hs : ∀ k, vs.ownBlock = some k → some k ≠ row) : RunAt w0 w1 b C B F p vl vs := by
  have h1 : (Kd.int .i64).R 3 w w0.heap.size (fun k => some k ≠ row) vl F.loc := ⟨hl, h.loc.2⟩
  have h2 : (Kd.int .i64).R 3 w w0.heap.size (fun k => some k ≠ row) vs F.stk := ⟨hs, h.stk.2⟩
  exact ⟨blk_grown h.blk hg hb, h.base, hbw, Kd.R_mono (Kd.R_grown h1 hg (fun _ hk => hk)) (fun _ _ => trivial), Kd.R_mono (Kd.R_grown h2 hg (fun _ hk => hk)) (fun _ _ => trivial), h.ne⟩

/-- One returned a value, the frame's at work as F. -/
def Gave (v : Value) (w0 w : World) (b : Nat) (C : Cd) (B : S65) (F : Fr) (p : Pt) (vl : Value) (e : Ending) (w' : World) : Prop := e = .returned v ∧ Keeps w w' ∧ ∃ vs, RunAt w0 w' b C B F p vl vs
def Fell (x : Int) (w0 w : World) (e : Ending) (w' : World) : Prop := e = .panicked [{ v := .iface 34 (.int .i64 x), recovered := false }] ∧ Keeps w w' ∧ Below w0.heap.size w0 w'

theorem must_true (e : Int) (w : World) : Calls Tryd.prog 45 #[.bool true, .int .i64 e] w fun r w' => r = .returned (.tuple #[]) ∧ w' = w := by
  go_enter Tryd.func45, Tryd.ntmps45
  go_wp2
  first | go_end0 | refine bodyPost_ret (results_none rfl _ _ _) rfl ?_
  exact ⟨rfl, rfl⟩
theorem must_false (e : Int) (w : World) : Calls Tryd.prog 45 #[.bool false, .int .i64 e] w fun r w' => r = .panicked [{ v := .iface 34 (.int .i64 e), recovered := false }] ∧ w' = w := by
  go_enter Tryd.func45, Tryd.ntmps45
  go_wp2
  exact ⟨rfl, rfl, rfl⟩

set_option maxHeartbeats 2000000 in
theorem pop_none {w0 w : World} {b : Nat} {C : Cd} {B : S65} {F : Fr} {p : Pt} {vl vs : Value} (h : RunAt w0 w b C B F p vl vs) (hs : F.stk = []) :
    Calls Tryd.prog 72 #[.pointer (some ⟨b, 0, none⟩)] w (Fell 1 w0 w) := by
  obtain ⟨A, c, rfl, hc, hr⟩ := Kd.R_reads h.stk
  have H := Aside0.mk h
  have q := blk_cells h.blk
  rw [hs] at q
  unfold cellsOf at q
  have hmf := must_false 1 w
  clear h hs hc hr
  go_enter Tryd.func72, Tryd.ntmps72
  go_wp2_with ((with_reducible refine hmf.mono ?_); rintro e w' ⟨rfl, rfl⟩)
  exact ⟨rfl, rfl, Keeps.refl _, H.out.below⟩
set_option maxHeartbeats 2000000 in
theorem pop_some {w0 w : World} {b : Nat} {C : Cd} {B : S65} {F : Fr} {p : Pt} {vl vs : Value} (h : RunAt w0 w b C B F p vl vs) (s : List Int) (x : Int) (hs : F.stk = s ++ [x]) :
    Calls Tryd.prog 72 #[.pointer (some ⟨b, 0, none⟩)] w (Gave (.int .i64 x) w0 w b C B { F with stk := s } p vl) := by
  obtain ⟨A, c, rfl, hc, hr⟩ := Kd.R_reads h.stk
  have H := Aside0.mk h
  have q := blk_cells h.blk
  have qf := blk_frozen h.blk
  have hlen : F.stk.length = s.length + 1 := by rw [hs]; simp
  have hn := hr.2.1
  obtain ⟨ad, rfl, hc0⟩ := Kd.at_int hr (s.length : Int) (by omega) (by omega)
  rw [Int.toNat_natCast] at hc0
  have hx : rd F.stk s.length = x := by rw [hs]; simp [rd]
  rw [hx] at hc0
  unfold cellsOf at q
  rw [hlen] at q hn hc
  have HS := Aside0.mk hs
  have HL := Aside0.mk hlen
  have hmf := must_true 1 w
  clear h hs hr hlen hx
  go_enter Tryd.func72, Tryd.ntmps72
  go_wp2_with ((with_reducible refine hmf.mono ?_); rintro e w' ⟨rfl, rfl⟩)
  go_ret
  have hst := H.out.stk
  rw [HS.out] at hst
  have hta := Kd.R_take (m := s.length) (n := s.length + 1) (by simpa [HL.out] using hst) (by simp)
  exact ⟨rfl, (Keeps.refl _).set_ H.out.blk (.inl rfl) _ _, _, H.out.setS _ _ (by simpa using hta) (fun k hk => by have := H.out.ne k hk; simpa [Value.ownBlock] using this)⟩

theorem RunAt.neS {w0 w : World} {b : Nat} {C : Cd} {B : S65} {F : Fr} {p : Pt} {vl vs : Value} (h : RunAt w0 w b C B F p vl vs) : some b ≠ vs.ownBlock := Kd.R_ne h.stk h.blk (by decide)
theorem RunAt.neL {w0 w : World} {b : Nat} {C : Cd} {B : S65} {F : Fr} {p : Pt} {vl vs : Value} (h : RunAt w0 w b C B F p vl vs) : some b ≠ vl.ownBlock := Kd.R_ne h.loc h.blk (by decide)
/-- The stack's row has been written to, or grown. -/
theorem RunAt.grown {w0 w w1 : World} {b : Nat} {C : Cd} {B : S65} {F : Fr} {p : Pt} {vl vs v1 : Value} {s : List Int} (h : RunAt w0 w b C B F p vl vs) (hg : w.grownBy w1 vs.ownBlock)
    (hb : Below w0.heap.size w0 w1) (hR : (Kd.int .i64).R 3 w1 w0.heap.size (fun _ => True) v1 s) (hat : v1.ownBlock = vs.ownBlock ∨ ∃ b, v1.ownBlock = some b ∧ w.heap.size ≤ b) :
    RunAt w0 (w1.setCell ⟨b, 14, none⟩ v1) b C B { F with stk := s } p vl v1 := by
  have hblk := blk_grown h.blk hg h.neS
  have hloc : (Kd.int .i64).R 3 w1 w0.heap.size (fun _ => True) vl F.loc := by
    have h1 : (Kd.int .i64).R 3 w w0.heap.size (fun k => some k ≠ vs.ownBlock) vl F.loc :=
      ⟨fun k hk he => h.ne k hk he.symm, h.loc.2⟩
    exact Kd.R_mono (Kd.R_grown h1 hg (fun _ hk => hk)) (fun _ _ => trivial)
  have hne : NeRow vl v1 := by
    obtain ⟨inner, hi⟩ := Kd.R_own h.loc
    exact ne_append' (W := w) h.ne hat hi
  exact ⟨blk_put hblk 14 v1 rfl, h.base, hb.setCell h.base _, Kd.R_set hloc hblk no_run 14 v1, Kd.R_set hR hblk no_run 14 v1, hne⟩

set_option maxHeartbeats 2000000 in
theorem push_full {w0 w : World} {b : Nat} {C : Cd} {B : S65} {F : Fr} {p : Pt} {vl vs : Value} (x : Int) (h : RunAt w0 w b C B F p vl vs) (hs : ¬ F.stk.length < 100) :
    Calls Tryd.prog 67 #[.pointer (some ⟨b, 0, none⟩), .int .i64 x] w (Fell 1 w0 w) := by
  obtain ⟨A, c, rfl, hc, hr⟩ := Kd.R_reads h.stk
  have H := Aside0.mk h
  have q := blk_cells h.blk
  unfold cellsOf at q
  have hmf := must_false 1 w
  have hd : decide ((F.stk.length : Int) < 100) = false := decide_eq_false (by omega)
  clear h hs hc hr
  go_enter Tryd.func67, Tryd.ntmps67
  go_wp2_with ((with_reducible refine hmf.mono ?_); rintro e w' ⟨rfl, rfl⟩)
  exact ⟨rfl, rfl, Keeps.refl _, H.out.below⟩
set_option maxHeartbeats 2000000 in
theorem push_some {w0 w : World} {b : Nat} {C : Cd} {B : S65} {F : Fr} {p : Pt} {vl vs : Value} (x : Int) (h : RunAt w0 w b C B F p vl vs) (hs : F.stk.length < 100) :
    Calls Tryd.prog 67 #[.pointer (some ⟨b, 0, none⟩), .int .i64 x] w (Gave (.tuple #[]) w0 w b C B { F with stk := F.stk ++ [x] } p vl) := by
  obtain ⟨A, c, rfl, hc, hr⟩ := Kd.R_reads h.stk
  have H := Aside0.mk h
  have q := blk_cells h.blk
  have qf := blk_frozen h.blk
  unfold cellsOf at q
  have hmf := must_true 1 w
  have hd : decide ((F.stk.length : Int) < 100) = true := decide_eq_true (by omega)
  have HI := Aside0.mk info_int
  have HS := Aside0.mk hs
  clear h hs hc hr
  go_enter Tryd.func67, Tryd.ntmps67
  go_wp2_with (first | ((with_reducible refine hmf.mono ?_); rintro e w' ⟨rfl, rfl⟩) | (at_builtin; refine Kd.R_append (Kd.int .i64) (w0 := w0) w0.heap.size rfl (.tmp 17) (.tmp 19) 23 3 (.int .i64 0) 8 rfl Tryd.underlying23 HI.out rfl (by decide) (by decide) (.slice A F.stk.length c) F.stk x [.int .i64 x] (fun _ => True) (fun _ => False) rfl rfl ?hp (fun _ hk => hk.elim) (fun _ _ => trivial) H.out.stk H.out.below H.out.below.size ?hL ?_))
  case hp => rfl
  case hL => have := HS.out; omega
  intro v1 w1 ho hb hg hat
  obtain ⟨A1, c1, rfl, hc1, _⟩ := Kd.R_reads ho
  have hr := H.out.grown hg hb ho hat
  have q1 : ∀ i, w1.frozen? ⟨b, i, none⟩ = false := blk_frozen (blk_grown H.out.blk hg H.out.neS)
  have q2 := blk_cells (blk_grown H.out.blk hg H.out.neS)
  unfold cellsOf at q2
  rw [show (F.stk ++ [x]).length = F.stk.length + 1 by simp] at hr
  have HR := Aside0.mk hr
  obtain ⟨inner, hin⟩ := Kd.R_own H.out.stk
  have HK := Aside0.mk ((Keeps.grown hin hg).set_ (blk_grown H.out.blk hg H.out.neS) (.inl rfl) 14 (.slice A1 (F.stk.length + 1) c1))
  clear hr hat hg hb ho q qf hmf hc1 hin inner
  go_wp2
  go_end0
  exact ⟨rfl, HK.out, _, HR.out⟩

set_option maxHeartbeats 2000000 in
theorem pass_call {w0 w : World} {b : Nat} {C : Cd} {B : S65} {F : Fr} {p : Pt} {vl vs : Value} (h : RunAt w0 w b C B F p vl vs) (h1 : 0 ≤ F.pc) (h2 : F.pc < 9223372036854775807) (h3 : 0 ≤ F.spent) (h4 : F.spent < 9223372036854775807) :
    Calls Tryd.prog 64 #[.pointer (some ⟨b, 0, none⟩)] w (Gave (.tuple #[]) w0 w b C B { F with pc := F.pc + 1, spent := F.spent + 1 } p vl) := by
  have q := blk_cells h.blk
  have qf := blk_frozen h.blk
  unfold cellsOf at q
  have e1 := h.setF 12 (.int .i64 (F.pc + 1)) { F with pc := F.pc + 1 } rfl rfl rfl
  have e2 := e1.setF 17 (.int .i64 (F.spent + 1)) { F with pc := F.pc + 1, spent := F.spent + 1 } rfl rfl rfl
  have HR := Aside0.mk e2
  have HK := Aside0.mk (((Keeps.refl _).set_ h.blk (.inl rfl) 12 (.int .i64 (F.pc + 1))).set_ e1.blk (.inl rfl) 17 (.int .i64 (F.spent + 1)))
  clear h e1 e2
  go_enter Tryd.func64, Tryd.ntmps64
  go_wp2
  go_end0
  exact ⟨rfl, HK.out, _, HR.out⟩

set_option maxHeartbeats 2000000 in
theorem jump_none {w0 w : World} {b : Nat} {C : Cd} {B : S65} {F : Fr} {p : Pt} {vl vs : Value} (h : RunAt w0 w b C B F p vl vs) (x : Int) (hx : ¬ (0 ≤ x ∧ x < (B.f2.length : Int))) :
    Calls Tryd.prog 92 #[.pointer (some ⟨b, 0, none⟩), .int .i64 x] w (Fell 1 w0 w) := by
  have q := blk_cells h.blk
  unfold cellsOf at q
  have HB := Aside0.mk h.below
  have hmf := must_false 1 w
  clear h
  by_cases h0 : 0 ≤ x
  · have c0 : decide (0 ≤ x) = true := decide_eq_true h0
    have c1 : decide (x < (B.f2.length : Int)) = false := decide_eq_false (fun h => hx ⟨h0, h⟩)
    clear hx h0
    go_enter Tryd.func92, Tryd.ntmps92
    go_wp2_with ((with_reducible refine hmf.mono ?_); rintro e w' ⟨rfl, rfl⟩)
    exact ⟨rfl, rfl, Keeps.refl _, HB.out⟩
  · have c0 : decide (0 ≤ x) = false := decide_eq_false h0
    clear hx h0
    go_enter Tryd.func92, Tryd.ntmps92
    go_wp2_with ((with_reducible refine hmf.mono ?_); rintro e w' ⟨rfl, rfl⟩)
    exact ⟨rfl, rfl, Keeps.refl _, HB.out⟩
set_option maxHeartbeats 2000000 in
theorem jump_some {w0 w : World} {b : Nat} {C : Cd} {B : S65} {F : Fr} {p : Pt} {vl vs : Value} (h : RunAt w0 w b C B F p vl vs) (x : Int) (hx : 0 ≤ x ∧ x < (B.f2.length : Int)) (h3 : 0 ≤ F.spent) (h4 : F.spent < 9223372036854775807) :
    Calls Tryd.prog 92 #[.pointer (some ⟨b, 0, none⟩), .int .i64 x] w (Gave (.tuple #[]) w0 w b C B { F with pc := x, spent := F.spent + 1 } p vl) := by
  have q := blk_cells h.blk
  have qf := blk_frozen h.blk
  unfold cellsOf at q
  have e1 := h.setF 17 (.int .i64 (F.spent + 1)) { F with spent := F.spent + 1 } rfl rfl rfl
  have e2 := e1.setF 12 (.int .i64 x) { F with pc := x, spent := F.spent + 1 } rfl rfl rfl
  have HR := Aside0.mk e2
  have HK := Aside0.mk (((Keeps.refl _).set_ h.blk (.inl rfl) 17 (.int .i64 (F.spent + 1))).set_ e1.blk (.inl rfl) 12 (.int .i64 x))
  have hmf := must_true 1 w
  clear h e1 e2
  have c0 : decide (0 ≤ x) = true := decide_eq_true hx.1
  have c1 : decide (x < (B.f2.length : Int)) = true := decide_eq_true hx.2
  clear hx
  go_enter Tryd.func92, Tryd.ntmps92
  go_wp2_with ((with_reducible refine hmf.mono ?_); rintro e w' ⟨rfl, rfl⟩)
  go_end0
  exact ⟨rfl, HK.out, _, HR.out⟩


theorem cut_tail (A : Option Addr) (c s m : Nat) :
    ∃ A1 : Option Addr, (∀ W : World, (Instr.slice 23 (.slice A (s + m) c) (some (.int .i64 (s : Int))) none none).run Tryd.prog W = .ok (.slice A1 m (c - s)) W) ∧
      ∀ (w : World) (l r : List Int), l.length = s → r.length = m → s + m ≤ c → (Kd.int .i64).C w A (l ++ r).length (l ++ r) → (Kd.int .i64).C w A1 r.length r := by
  obtain ⟨i0, hi, hz⟩ := Option.map_eq_some_iff.1 info_int
  simp only [Prod.mk.injEq] at hz
  refine ⟨if c = s then A else A.map (·.add (s * 1)), fun W => ?_, fun w l r hl hr hc h => ?_⟩
  · rw [cut_from (P := Tryd.prog) 23 3 .i64 Tryd.underlying23 hi 1 hz.2.1 A (s + m) c (s : Int) (by omega) (by omega)]
    simp
  · have hd := Kd.C_drop (m := s) (c := c) h (by simp; omega) (by simp; omega)
    have he : (l ++ r).drop s = r := by rw [← hl]; simp
    rw [he] at hd
    exact hd

def Popped (l : List Int) (w w0 : World) (b : Nat) (C : Cd) (B : S65) (F : Fr) (p : Pt) (vl : Value) (e : Ending) (w' : World) : Prop :=
  ∃ v, e = .returned v ∧ (Kd.int .i64).R 3 w' w.heap.size (fun _ => True) v l ∧ Keeps w w' ∧ ∃ vs, RunAt w0 w' b C B F p vl vs ∧ NeRow v vs

set_option maxHeartbeats 2000000 in
theorem pops_none {w0 w : World} {b : Nat} {C : Cd} {B : S65} {F : Fr} {p : Pt} {vl vs : Value} (h : RunAt w0 w b C B F p vl vs) (n : Int) (hn : ¬ (0 ≤ n ∧ n ≤ (F.stk.length : Int))) :
    Calls Tryd.prog 99 #[.pointer (some ⟨b, 0, none⟩), .int .i64 n] w (Fell 1 w0 w) := by
  obtain ⟨A, c, rfl, hc, hr⟩ := Kd.R_reads h.stk
  have q := blk_cells h.blk
  unfold cellsOf at q
  have HB := Aside0.mk h.below
  have hmf := must_false 1 w
  clear h hc hr
  by_cases h0 : 0 ≤ n
  · have c0 : decide (0 ≤ n) = true := decide_eq_true h0
    have c1 : decide (n ≤ (F.stk.length : Int)) = false := decide_eq_false (fun h => hn ⟨h0, h⟩)
    clear hn h0
    go_enter Tryd.func99, Tryd.ntmps99
    go_wp2_with ((with_reducible refine hmf.mono ?_); rintro e w' ⟨rfl, rfl⟩)
    exact ⟨rfl, rfl, Keeps.refl _, HB.out⟩
  · have c0 : decide (0 ≤ n) = false := decide_eq_false h0
    clear hn h0
    go_enter Tryd.func99, Tryd.ntmps99
    go_wp2_with ((with_reducible refine hmf.mono ?_); rintro e w' ⟨rfl, rfl⟩)
    exact ⟨rfl, rfl, Keeps.refl _, HB.out⟩
set_option maxHeartbeats 4000000 in
theorem pops_some {w0 w : World} {b : Nat} {C : Cd} {B : S65} {F : Fr} {p : Pt} {vl vs : Value} (h : RunAt w0 w b C B F p vl vs) (s l : List Int) (hs : F.stk = s ++ l) (hl : l.length * 8 ≤ 140737488355328) :
    Calls Tryd.prog 99 #[.pointer (some ⟨b, 0, none⟩), .int .i64 l.length] w (Popped l w w0 b C B { F with stk := s } p vl) := by
  obtain ⟨A, c, rfl, hc, hr⟩ := Kd.R_reads h.stk
  have H := Aside0.mk h
  have q := blk_cells h.blk
  have hlen : F.stk.length = s.length + l.length := by rw [hs]; simp
  obtain ⟨A1, hcut, hread⟩ := cut_tail A c s.length l.length
  have hr1 := hread w s l rfl rfl (by omega) (by rw [← hs]; exact hr)
  have hcall := clone_int A1 (c - s.length) l w hr1 hl
  have hn := hr.2.1
  unfold cellsOf at q
  rw [hlen] at q hn hc
  have HS := Aside0.mk hs
  have HL := Aside0.mk hlen
  have hmf := must_true 1 w
  have c1 : decide ((l.length : Int) ≤ (s.length : Int) + (l.length : Int)) = true := decide_eq_true (by omega)
  have hll : l.length ≤ 140737488355328 := by omega
  clear h hs hr hlen hr1 hread hl
  go_enter Tryd.func99, Tryd.ntmps99
  go_wp2_with ((with_reducible refine hmf.mono ?_); rintro e w' ⟨rfl, rfl⟩)
  go_wp2_with fail
  refine hcall.mono ?_
  rintro e w1 ⟨v, rfl, ho, hb⟩
  have h1 := H.out.mono hb
  have q1 := blk_cells h1.blk
  have qf : ∀ i, w1.frozen? ⟨b, i, none⟩ = false := blk_frozen h1.blk
  unfold cellsOf at q1
  rw [HL.out] at q1
  have hst := h1.stk
  rw [HS.out] at hst
  have hta := Kd.R_take (m := s.length) (n := s.length + l.length) (by simpa [HL.out] using hst) (by simp)
  have hfin := h1.setS (.slice A s.length c) s (by simpa using hta) (fun k hk hk' => h1.ne k hk (by cases A with | none => cases hk' | some a => exact hk'))
  have HF := Aside0.mk hfin
  obtain ⟨inn, hinn⟩ := Kd.R_own ho
  obtain ⟨ins, hins⟩ := Kd.R_own H.out.stk
  have HNE : Aside0 (NeRow v (.slice A s.length c)) := ⟨fun k hk hk' => by
    have e1 := own_base hinn k hk
    have e2 := own_lt hins k (by cases A with | none => cases hk' | some a => exact hk')
    omega⟩
  have HR : Aside0 ((Kd.int .i64).R 3 (w1.setCell ⟨b, 14, none⟩ (.slice A s.length c)) _ (fun _ => True) v l) := ⟨Kd.R_set ho h1.blk no_run 14 (.slice A s.length c)⟩
  have HK := Aside0.mk ((Keeps.of_below hb).set_ h1.blk (.inl rfl) 14 (.slice A s.length c))
  clear q hcall h1 hst hta hfin ho hb hmf hinn hins
  go_wp2
  go_ret
  exact ⟨v, rfl, HR.out, HK.out, _, HF.out, HNE.out⟩
end Go.Proofs.YtfcgjadfhojogaaDoor.Vm
