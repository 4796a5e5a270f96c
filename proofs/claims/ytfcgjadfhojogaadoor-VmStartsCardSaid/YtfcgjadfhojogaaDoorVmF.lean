/- Asking: (*run).end, sync, waits, objects. Two values made one: the closures, (*run).two; (*run).objects. -/
import Derived.Test.YtfcgjadfhojogaaDoorVmD
import Derived.IntWalk
namespace Go.Proofs.YtfcgjadfhojogaaDoor.Vm
open Go.RowKit Go.Proofs.YtfcgjadfhojogaaDoorW.PrintWords Go.Proofs.YtfcgjadfhojogaaDoorW.PrintLast Go.Proofs.YtfcgjadfhojogaaDoorW.PrintMore Go.Proofs.YtfcgjadfhojogaaDoor.PVmStarts
set_option linter.unusedVariables false
set_option linter.unusedSimpArgs false

/-- One block alone has been written. -/
structure OnlyB (b : Nat) (w w' : World) : Prop where
  far : ∀ k, k ≠ b → w'.heap[k]? = w.heap[k]?
  size : w.heap.size ≤ w'.heap.size
  os : w'.os = w.os
  tape : w'.tape = w.tape
  output : w'.output = w.output
theorem OnlyB.refl (b : Nat) (w : World) : OnlyB b w w := ⟨fun _ _ => rfl, Nat.le_refl _, rfl, rfl, rfl⟩
theorem OnlyB.set {b : Nat} {w w' : World} (h : OnlyB b w w') (i : Nat) (u : Value) : OnlyB b w (w'.setCell ⟨b, i, none⟩ u) :=
  ⟨fun k hk => (Below.heap_setCell w' ⟨b, i, none⟩ u k hk).trans (h.far k hk), Nat.le_trans h.size (by simp [World.setCell]), h.os, h.tape, h.output⟩

/-- A frame that has asked. -/
structure DoneAt (w0 w : World) (b : Nat) (C : Cd) (B : S65) (F : Fr) (K : Ak) (p : Pt) (vl vs : Value) (Aa : Option Addr) (ca : Nat) : Prop where
  blk : w.heap[b]? = some (.cells (cellsOf C B F K true p vl vs (.slice Aa K.args.length ca)) 77 (0, 0))
  base : w0.heap.size ≤ b
  below : Below w0.heap.size w0 w
  loc : (Kd.int .i64).R 3 w w0.heap.size (fun _ => True) vl F.loc
  stk : (Kd.int .i64).R 3 w w0.heap.size (fun _ => True) vs F.stk
  args : ∃ b0, (Kd.int .i64).R 3 w b0 (fun _ => True) (.slice Aa K.args.length ca) K.args
def Asked (w0 w : World) (b : Nat) (C : Cd) (B : S65) (F : Fr) (K : Ak) (p : Pt) (vl : Value) (e : Ending) (w' : World) : Prop := e = .returned (.tuple #[]) ∧ Keeps w w' ∧ ∃ vs Aa ca, DoneAt w0 w' b C B F K p vl vs Aa ca

theorem RunAt.done {w0 w w1 : World} {b : Nat} {C : Cd} {B : S65} {F : Fr} {p : Pt} {vl vs : Value} (h : RunAt w0 w b C B F p vl vs) (K : Ak) (Aa : Option Addr) (ca base : Nat)
    (hR : (Kd.int .i64).R 3 w base (fun _ => True) (.slice Aa K.args.length ca) K.args)
    (hk : OnlyB b w w1)
    (hb : w1.heap[b]? = some (.cells (cellsOf C B F K true p vl vs (.slice Aa K.args.length ca)) 77 (0, 0))) : DoneAt w0 w1 b C B F K p vl vs Aa ca := by
  have hmv : ∀ {v : Value} {l : List Int} {b0 : Nat}, (Kd.int .i64).R 3 w b0 (fun _ => True) v l → (Kd.int .i64).R 3 w1 b0 (fun _ => True) v l := by
    intro v l b0 hr
    have hr' : (Kd.int .i64).R 3 w b0 (fun k => k ≠ b) v l := ⟨fun k hk he => Kd.R_ne hr h.blk (by decide) (by rw [hk, he]), hr.2⟩
    exact Kd.R_mono (Kd.R_step hr' (fun k hok _ => hk.far k hok)) (fun _ _ => trivial)
  exact ⟨hb, h.base, ⟨hk.os.trans h.below.os, hk.tape.trans h.below.tape, hk.output.trans h.below.output, Nat.le_trans h.below.size hk.size, fun k hk' => (hk.far k (by have := h.base; omega)).trans (h.below.block k hk')⟩, hmv h.loc, hmv h.stk, ⟨base, hmv hR⟩⟩

set_option maxHeartbeats 4000000 in
theorem end_call {w0 w : World} {b : Nat} {C : Cd} {B : S65} {F : Fr} {p : Pt} {vl vs : Value} (h : RunAt w0 w b C B F p vl vs) (K : Ak) (Aa : Option Addr) (ca base : Nat)
    (hR : (Kd.int .i64).R 3 w base (fun _ => True) (.slice Aa K.args.length ca) K.args) :
    Calls Tryd.prog 74 #[.pointer (some ⟨b, 0, none⟩), .agg #[.int .i64 K.kind, .int .i64 K.a, .int .i64 K.b, .int .i64 K.okind, .int .i64 K.oobj, .int .i64 K.oa, .int .i64 K.ob, .slice Aa K.args.length ca]] w (Asked w0 w b C B F K p vl) := by
  go_enter Tryd.func74, Tryd.ntmps74
  go_upto_region 1 with (fail)
  refine nameW ?_
  intro w1 hw1
  obtain ⟨b0, hb, hsz⟩ := one_box hw1
  clear hw1
  have h1 := h.mono hb
  have hR1 := Kd.R_below hR hb
  have q := blk_cells h1.blk
  have qf : ∀ i, w1.frozen? ⟨b, i, none⟩ = false := blk_frozen h1.blk
  have q0 := blk_cells b0
  unfold cellsOf at q
  have H1 := Aside0.mk h1
  have HR := Aside0.mk hR1
  have HK0 := Aside0.mk (Keeps.of_below hb)
  clear h hR h1 hR1 b0 hb hsz
  go_wp2
  go_end0
  have k0 := H1.out.blk
  have k1 := blk_put k0 19 (.int .i64 K.kind) (cs' := cellsOf C B F { noAk with kind := K.kind } false p vl vs (.slice none 0 0)) rfl
  have k2 := blk_put k1 20 (.int .i64 K.a) (cs' := cellsOf C B F { noAk with kind := K.kind, a := K.a } false p vl vs (.slice none 0 0)) rfl
  have k3 := blk_put k2 21 (.int .i64 K.b) (cs' := cellsOf C B F { noAk with kind := K.kind, a := K.a, b := K.b } false p vl vs (.slice none 0 0)) rfl
  have k4 := blk_put k3 22 (.int .i64 K.okind) (cs' := cellsOf C B F ⟨K.kind, K.a, K.b, K.okind, 0, 0, 0, []⟩ false p vl vs (.slice none 0 0)) rfl
  have k5 := blk_put k4 23 (.int .i64 K.oobj) (cs' := cellsOf C B F ⟨K.kind, K.a, K.b, K.okind, K.oobj, 0, 0, []⟩ false p vl vs (.slice none 0 0)) rfl
  have k6 := blk_put k5 24 (.int .i64 K.oa) (cs' := cellsOf C B F ⟨K.kind, K.a, K.b, K.okind, K.oobj, K.oa, 0, []⟩ false p vl vs (.slice none 0 0)) rfl
  have k7 := blk_put k6 25 (.int .i64 K.ob) (cs' := cellsOf C B F K false p vl vs (.slice none 0 0)) rfl
  have k8 := blk_put k7 26 (.slice Aa K.args.length ca) (cs' := cellsOf C B F K false p vl vs (.slice Aa K.args.length ca)) rfl
  have k9 := blk_put k8 27 (.bool true) (cs' := cellsOf C B F K true p vl vs (.slice Aa K.args.length ca)) rfl
  have HK := (((((((((HK0.out.set_ k0 (.inl rfl) _ _).set_ k1 (.inl rfl) _ _).set_ k2 (.inl rfl) _ _).set_ k3 (.inl rfl) _ _).set_ k4 (.inl rfl) _ _).set_ k5 (.inl rfl) _ _).set_ k6 (.inl rfl) _ _).set_ k7 (.inl rfl) _ _).set_ k8 (.inl rfl) 27 (.bool true))
  refine ⟨rfl, HK, vs, Aa, ca, ?_⟩
  exact H1.out.done K Aa ca base HR.out (((((((((OnlyB.refl _ _).set _ _).set _ _).set _ _).set _ _).set _ _).set _ _).set _ _).set _ _ |>.set _ _) k9

set_option maxHeartbeats 2000000 in
theorem sync_call {w0 w : World} {b : Nat} {C : Cd} {B : S65} {F : Fr} {p : Pt} {vl vs : Value} (h : RunAt w0 w b C B F p vl vs) :
    Calls Tryd.prog 70 #[.pointer (some ⟨b, 0, none⟩)] w (Asked w0 w b C B F { noAk with kind := 5 } p vl) := by
  have hcall := end_call h { noAk with kind := 5 } none 0 w0.heap.size (Kd.R_nil _ _ _ _ _)
  clear h
  go_enter Tryd.func70, Tryd.ntmps70
  go_wp2_with fail
  refine hcall.mono ?_
  rintro e w1 ⟨rfl, hd⟩
  have HD := Aside0.mk hd
  clear hd hcall
  go_wp2
  go_end0
  exact ⟨rfl, HD.out⟩

def isDst (x : Int) (k : S74) : Bool := k.f1 == x
theorem waits1_call (k : S74) (g : Nat) (n : Int) (w : World) (hc : w.cell? ⟨g, 0, none⟩ = some (.int .i64 n)) :
    Calls Tryd.prog 98 #[.agg #[.int .i64 k.f0, .int .i64 k.f1], .pointer (some ⟨g, 0, none⟩)] w fun e w' => e = .returned (.bool (isDst n k)) ∧ Below w.heap.size w w' := by
  obtain ⟨a, b⟩ := k
  simp only [isDst]
  have hg : g < w.heap.size := World.block_lt_of_cell? w _ hc
  go_enter Tryd.func98, Tryd.ntmps98
  go_wp2
  go_ret
  exact ⟨rfl, below_alloc (Below.refl _ _) _⟩

theorem RunAt.drew {w0 w : World} {b : Nat} {C : Cd} {B : S65} {F : Fr} {p : Pt} {vl vs : Value} (h : RunAt w0 w b C B F p vl vs) : RunAt w0 w.drew b C B F p vl vs := h.mono (below_drew (Below.refl _ _))

set_option maxHeartbeats 4000000 in
set_option maxRecDepth 100000 in
theorem waits_none {w0 w : World} {b : Nat} {C : Cd} {B : S65} {F : Fr} {p : Pt} {vl vs : Value} (h : RunAt w0 w b C B F p vl vs) (x : Int) (hx : ¬ (0 ≤ x ∧ x < (F.loc.length : Int))) :
    Calls Tryd.prog 69 #[.pointer (some ⟨b, 0, none⟩), .int .i64 x] w (Fell 1 w0 w) := by
  obtain ⟨A, c, rfl, hc, hr⟩ := Kd.R_reads h.loc
  clear hc hr
  by_cases h0 : 0 ≤ x
  · have c0 : decide (0 ≤ x) = true := decide_eq_true h0
    have c1 : decide (x < (F.loc.length : Int)) = false := decide_eq_false (fun h => hx ⟨h0, h⟩)
    clear hx h0
    go_enter Tryd.func69, Tryd.ntmps69
    go_upto_region 1 with (fail)
    refine nameW ?_
    intro w1 hw1
    obtain ⟨b0, hb, hsz⟩ := one_box hw1
    clear hw1
    have h1 := h.mono hb
    have q := blk_cells h1.blk
    have q0 := blk_cells b0
    unfold cellsOf at q
    have H1 := Aside0.mk (And.intro ((Keeps.of_below hb).trans (Keeps.of_below (below_drew (Below.refl _ _)))) h1.drew.below)
    have hmf := must_false 1 w1.drew
    clear h h1 b0 hb hsz
    refine still_tail 12 (by kernel_rfl) (by kernel_rfl) ?_
    intro S hS hS0
    simp only [List.take_succ_cons, List.take_zero, List.drop_succ_cons, List.drop_zero] at hS0 ⊢
    repeat (refine hS _ _ _ (fun K hK => ?_); go_simp; refine hK _ ?_; clear hK K)
    refine hS0 _ ?_
    clear hS hS0 S
    go_wp2_with ((with_reducible refine hmf.mono ?_); rintro e w' ⟨rfl, rfl⟩)
    exact ⟨rfl, rfl, H1.out⟩
  · have c0 : decide (0 ≤ x) = false := decide_eq_false h0
    clear hx h0
    go_enter Tryd.func69, Tryd.ntmps69
    go_upto_region 1 with (fail)
    refine nameW ?_
    intro w1 hw1
    obtain ⟨b0, hb, hsz⟩ := one_box hw1
    clear hw1
    have h1 := h.mono hb
    have q0 := blk_cells b0
    have H1 := Aside0.mk (And.intro ((Keeps.of_below hb).trans (Keeps.of_below (below_drew (Below.refl _ _)))) h1.drew.below)
    have hmf := must_false 1 w1.drew
    clear h h1 b0 hb hsz
    refine still_tail 12 (by kernel_rfl) (by kernel_rfl) ?_
    intro S hS hS0
    simp only [List.take_succ_cons, List.take_zero, List.drop_succ_cons, List.drop_zero] at hS0 ⊢
    repeat (refine hS _ _ _ (fun K hK => ?_); go_simp; refine hK _ ?_; clear hK K)
    refine hS0 _ ?_
    clear hS hS0 S
    go_wp2_with ((with_reducible refine hmf.mono ?_); rintro e w' ⟨rfl, rfl⟩)
    exact ⟨rfl, rfl, H1.out⟩

def GaveB (r : Bool) (w0 w : World) (b : Nat) (C : Cd) (B : S65) (F : Fr) (p : Pt) (vl : Value) (e : Ending) (w' : World) : Prop := e = .returned (.bool r) ∧ Keeps w w' ∧ ∃ vs, RunAt w0 w' b C B F p vl vs

set_option maxHeartbeats 4000000 in
set_option maxRecDepth 100000 in
theorem waits_some {w0 w : World} {b : Nat} {C : Cd} {B : S65} {F : Fr} {p : Pt} {vl vs : Value} (h : RunAt w0 w b C B F p vl vs) (hk : k74.C w0 p.Ak F.kids.length F.kids) (x : Int) (hx : 0 ≤ x ∧ x < (F.loc.length : Int)) :
    Calls Tryd.prog 69 #[.pointer (some ⟨b, 0, none⟩), .int .i64 x] w (GaveB (F.kids.any (isDst x)) w0 w b C B F p vl) := by
  obtain ⟨A, c, rfl, hc, hr⟩ := Kd.R_reads h.loc
  clear hc hr
  have c0 : decide (0 ≤ x) = true := decide_eq_true hx.1
  have c1 : decide (x < (F.loc.length : Int)) = true := decide_eq_true hx.2
  clear hx
  go_enter Tryd.func69, Tryd.ntmps69
  go_upto_region 1 with (fail)
  refine nameW ?_
  intro w1 hw1
  obtain ⟨b0, hb, hsz⟩ := one_box hw1
  clear hw1
  have h1 := h.mono hb
  have q := blk_cells h1.blk
  have q0 := blk_cells b0
  unfold cellsOf at q
  have H1 := Aside0.mk h1.drew
  have hmf := must_true 1 w1.drew
  have hc0 : w1.drew.cell? ⟨w.heap.size, 0, none⟩ = some (.int .i64 x) := blk_cells b0 0
  have hC0 := Aside0.mk hc0
  have HK := Aside0.mk ((Keeps.of_below hb).trans (Keeps.of_below (below_drew (Below.refl _ _))))
  clear h h1 b0 hb hsz hc0
  refine still_tail 12 (by kernel_rfl) (by kernel_rfl) ?_
  intro S hS hS0
  simp only [List.take_succ_cons, List.take_zero, List.drop_succ_cons, List.drop_zero] at hS0 ⊢
  repeat (refine hS _ _ _ (fun K hK => ?_); go_simp; refine hK _ ?_; clear hK K)
  refine hS0 _ ?_
  clear hS hS0 S
  generalize w1.drew = w2 at *
  clear q q0
  have q := blk_cells H1.out.blk
  unfold cellsOf at q
  have hmk : ∀ (fn : Fn) (first cap : Array Value) (w : World), (Instr.makeFunc fn first cap).run Tryd.prog w = .ok (.func fn first cap) w := fun _ _ _ _ => rfl
  have eg : ∀ args w, (callFunc 98 args).run Tryd.prog w = .ok (.enter 98 args) w := fun args w => by kernel_rfl
  have hpred : Pred encKid 98 #[.pointer (some ⟨w.heap.size, 0, none⟩)] (isDst x) w2 := fun k w4 h4 => waits1_call k _ _ w4 (pw_cell_below h4 hC0.out)
  have hcall := containsFunc_kid (isDst x) 98 #[.pointer (some ⟨w.heap.size, 0, none⟩)] eg p.Ak p.ck F.kids w2 (Kd.C_below hk H1.out.below) hpred
  clear hpred eg hk
  generalize F.kids.any (isDst x) = kb at *
  go_wp2_with (first | ((with_reducible refine hmf.mono ?_); rintro e w' ⟨rfl, rfl⟩) | ((with_reducible refine hcall.mono ?_); rintro e w' ⟨rfl, hb8⟩))
  go_ret
  exact ⟨rfl, HK.out.trans (Keeps.of_below hb8), _, H1.out.mono hb8⟩


/-- A number modulo 2^32. -/
def rnd (n : Int) : Int := n % 4294967296
theorem rnd_eq (n : Int) (h1 : -9223372036854775808 ≤ n) (h2 : n ≤ 9223372036854775807) : Int.tmod (wrap64 (Int.tmod n 4294967296 + 4294967296)) 4294967296 = rnd n := by
  have h3 := Int.mul_tdiv_add_tmod n 4294967296
  have h4 := Int.tmod_lt_of_pos n (show (0 : Int) < 4294967296 by omega)
  have h5 := Int.lt_tmod_of_pos n (show (0 : Int) < 4294967296 by omega)
  generalize Int.tmod n 4294967296 = t at *
  generalize Int.tdiv n 4294967296 = q at *
  have h6 : wrap64 (t + 4294967296) = t + 4294967296 := by unfold wrap64; omega
  rw [h6, Int.tmod_eq_emod_of_nonneg (by omega)]
  unfold rnd
  omega

theorem round_call (n : Int) (w : World) (h1 : -9223372036854775808 ≤ n) (h2 : n ≤ 9223372036854775807) :
    Calls Tryd.prog 33 #[.int .i64 n] w fun e w' => e = .returned (.int .i64 (rnd n)) ∧ w' = w := by
  have he := rnd_eq n h1 h2
  have HE := Aside0.mk he
  clear he h1 h2
  go_enter Tryd.func33, Tryd.ntmps33
  go_wp2
  go_ret
  exact ⟨by rw [← HE.out]; rfl, rfl⟩
def bitI (is : Bool) : Int := if is then 1 else 0
theorem bit_call (is : Bool) (w : World) : Calls Tryd.prog 32 #[.bool is] w fun e w' => e = .returned (.int .i64 (bitI is)) ∧ w' = w := by
  cases is <;> (go_enter Tryd.func32, Tryd.ntmps32; go_wp2; go_ret; exact ⟨rfl, rfl⟩)

/-- What a closure over two values answers. -/
def Op2 (g : FuncId) (a b r : Int) : Prop := ∀ w, Calls Tryd.prog g #[.int .i64 a, .int .i64 b] w fun e w' => e = .returned (.int .i64 r) ∧ w' = w
theorem isV_iff (a : Int) : isV a = true ↔ 0 ≤ a ∧ a < 4294967296 := by simp [isV]

theorem add_op (a b : Int) (ha : isV a = true) (hb : isV b = true) : Op2 78 a b (rnd (a + b)) := by
  intro w
  rw [isV_iff] at ha hb
  have hcall := round_call (a + b) w (by omega) (by omega)
  obtain ⟨a1, a2⟩ := ha
  obtain ⟨b1, b2⟩ := hb
  go_enter Tryd.func78, Tryd.ntmps78
  go_wp2_with ((with_reducible refine hcall.mono ?_); rintro e w' ⟨rfl, rfl⟩)
  go_ret
  exact ⟨rfl, rfl⟩
theorem sub_op (a b : Int) (ha : isV a = true) (hb : isV b = true) : Op2 80 a b (rnd (a - b)) := by
  intro w
  rw [isV_iff] at ha hb
  have hcall := round_call (a - b) w (by omega) (by omega)
  obtain ⟨a1, a2⟩ := ha
  obtain ⟨b1, b2⟩ := hb
  go_enter Tryd.func80, Tryd.ntmps80
  go_wp2_with ((with_reducible refine hcall.mono ?_); rintro e w' ⟨rfl, rfl⟩)
  go_ret
  exact ⟨rfl, rfl⟩
theorem less_op (a b : Int) : Op2 84 a b (bitI (decide (a < b))) := by
  intro w
  have hcall := bit_call (decide (a < b)) w
  have HC := Aside0.mk hcall
  clear hcall
  go_enter Tryd.func84, Tryd.ntmps84
  go_wp2_with fail
  refine HC.out.mono ?_
  rintro e w' ⟨rfl, rfl⟩
  go_wp2
  go_ret
  exact ⟨rfl, rfl⟩
theorem eq_op (a b : Int) : Op2 86 a b (bitI (a == b)) := by
  intro w
  have hcall := bit_call (a == b) w
  have HC := Aside0.mk hcall
  clear hcall
  go_enter Tryd.func86, Tryd.ntmps86
  go_wp2_with fail
  refine HC.out.mono ?_
  rintro e w' ⟨rfl, rfl⟩
  go_wp2
  go_ret
  exact ⟨rfl, rfl⟩
theorem half_op (a b : Int) (ha : isV a = true) (hb : isV b = true) : Op2 97 a b ((a + b) / 2) := by
  intro w
  rw [isV_iff] at ha hb
  obtain ⟨a1, a2⟩ := ha
  obtain ⟨b1, b2⟩ := hb
  go_enter Tryd.func97, Tryd.ntmps97
  go_wp2
  go_ret
  exact ⟨rfl, rfl⟩
theorem mul_eq (a b : Int) (a1 : 0 ≤ a) (a2 : a < 4294967296) (b1 : 0 ≤ b) (b2 : b < 4294967296) : wrap64 (Int.tmod (IntKind.u64.wrap (a * b)) 4294967296) = rnd (a * b) := by
  have h0 : 0 ≤ a * b := Int.mul_nonneg a1 b1
  have h1 : a * b ≤ 4294967295 * 4294967295 := Int.mul_le_mul (by omega) (by omega) b1 (by omega)
  rw [IntWalk.u64_in _ (by omega)]
  generalize a * b = m at *
  rw [Int.tmod_eq_emod_of_nonneg h0]
  unfold rnd wrap64
  omega
theorem mul_op (a b : Int) (ha : isV a = true) (hb : isV b = true) : Op2 82 a b (rnd (a * b)) := by
  intro w
  rw [isV_iff] at ha hb
  obtain ⟨a1, a2⟩ := ha
  obtain ⟨b1, b2⟩ := hb
  have HE := Aside0.mk (mul_eq a b a1 a2 b1 b2)
  go_enter Tryd.func82, Tryd.ntmps82
  go_wp2
  go_ret
  exact ⟨by rw [← HE.out]; rfl, rfl⟩

set_option maxHeartbeats 2000000 in
theorem two_none {w0 w : World} {b : Nat} {C : Cd} {B : S65} {F : Fr} {p : Pt} {vl vs : Value} (h : RunAt w0 w b C B F p vl vs) (hs : F.stk.length < 2) (g : FuncId) :
    Calls Tryd.prog 77 #[.pointer (some ⟨b, 0, none⟩), .func (.func g) #[] #[]] w (Fell 1 w0 w) := by
  have hcall := pops_none h 2 (by omega)
  clear h hs
  go_enter Tryd.func77, Tryd.ntmps77
  go_wp2_with fail
  refine hcall.mono ?_
  rintro e w1 ⟨rfl, hb⟩
  exact ⟨rfl, rfl, hb⟩

theorem pair_cells {w : World} {base : Nat} {v : Value} {a b : Int} (h : (Kd.int .i64).R 3 w base (fun _ => True) v [a, b]) :
    ∃ g cap, v = .slice (some ⟨g, 0, none⟩) 2 cap ∧ w.cell? ⟨g, 0, none⟩ = some (.int .i64 a) ∧ w.cell? ⟨g, 1, none⟩ = some (.int .i64 b) := by
  obtain ⟨A, c, rfl, hc, hr⟩ := Kd.R_reads h
  obtain ⟨inner, ho⟩ := Kd.R_own h
  obtain ⟨g, cap, he, _, _⟩ := ho.form (by simp)
  injection he with hA _ hcc
  subst hA
  obtain ⟨ad, e0, h0⟩ := Kd.at_int hr 0 (by omega) (by simp)
  obtain ⟨ad1, e1, h1⟩ := Kd.at_int hr 1 (by omega) (by simp)
  cases e0
  cases e1
  exact ⟨g, c, rfl, by simpa [rd, Addr.add] using h0, by simpa [rd, Addr.add] using h1⟩

set_option maxHeartbeats 4000000 in
theorem two_some {w0 w : World} {b : Nat} {C : Cd} {B : S65} {F : Fr} {p : Pt} {vl vs : Value} (h : RunAt w0 w b C B F p vl vs) (s : List Int) (x y r : Int) (hs : F.stk = s ++ [x, y]) (hl : s.length < 100) (g : FuncId)
    (eg : ∀ args w, (callFunc g args).run Tryd.prog w = .ok (.enter g args) w) (hop : Op2 g x y r) (h1 : 0 ≤ F.pc) (h2 : F.pc < 9223372036854775807) (h3 : 0 ≤ F.spent) (h4 : F.spent < 9223372036854775807) :
    Calls Tryd.prog 77 #[.pointer (some ⟨b, 0, none⟩), .func (.func g) #[] #[]] w (Gave (.tuple #[]) w0 w b C B { F with stk := s ++ [r], pc := F.pc + 1, spent := F.spent + 1 } p vl) := by
  have hcall := pops_some h s [x, y] hs (by simp)
  simp only [List.length_cons, List.length_nil] at hcall
  clear h hs
  have HL := Aside0.mk hl
  have HP := Aside0.mk (And.intro h1 (And.intro h2 (And.intro h3 h4)))
  clear hl h1 h2 h3 h4
  go_enter Tryd.func77, Tryd.ntmps77
  go_wp2_with fail
  refine hcall.mono ?_
  rintro e w1 ⟨v, rfl, ho, hk1, vs1, hr1, _⟩
  clear hcall
  obtain ⟨g1, cap, rfl, c0, c1⟩ := pair_cells ho
  have H1 := Aside0.mk hr1.drew
  have HK1 := Aside0.mk (hk1.trans (Keeps.of_below (below_drew (Below.refl _ _))))
  clear hk1
  clear ho hr1
  go_upto_region 1 with (fail)
  have hop1 := hop w1.drew
  have HOP := Aside0.mk hop1
  clear hop hop1
  refine still_tail 9 (by kernel_rfl) (by kernel_rfl) ?_
  intro S hS hS0
  simp only [List.take_succ_cons, List.take_zero, List.drop_succ_cons, List.drop_zero] at hS0 ⊢
  iterate 8 (refine hS _ _ _ (fun K hK => ?_); go_simp; refine hK _ ?_; clear hK K)
  refine hS _ _ _ (fun K hK => ?_)
  go_simp
  refine ⟨_, HOP.out, hK _ ?_⟩
  clear hK K
  refine hS0 _ ?_
  clear hS hS0 S eg
  have hpush := push_some r H1.out HL.out
  go_wp2_with fail
  refine hpush.mono ?_
  rintro e w2 ⟨rfl, hk2, vs2, hr2⟩
  have hpass := pass_call hr2 HP.out.1 HP.out.2.1 HP.out.2.2.1 HP.out.2.2.2
  clear hpush hr2 c0 c1
  go_wp2_with fail
  refine hpass.mono ?_
  rintro e w3 ⟨rfl, hk3, vs3, hr3⟩
  have H3 := Aside0.mk hr3
  have HK3 := Aside0.mk (HK1.out.trans (hk2.trans hk3))
  clear hk2 hk3
  clear hpass hr3
  go_wp2
  go_end0
  exact ⟨rfl, HK3.out, _, H3.out⟩
end Go.Proofs.YtfcgjadfhojogaaDoor.Vm
