/- What a step leaves of a frame: plain facts, no memory in sight. vm.Next. -/
import Derived.Test.YtfcgjadfhojogaaDoorVmN
import Derived.Test.YtfcgjadfhojogaaDoorVmO
import Derived.RegionTactic
import Derived.Deep.RegionHeld3
namespace Go.Proofs.YtfcgjadfhojogaaDoor.Vm
open Go.RowKit Go.Proofs.YtfcgjadfhojogaaDoorW.PrintWords Go.Proofs.YtfcgjadfhojogaaDoorW.PrintLast Go.Proofs.YtfcgjadfhojogaaDoorW.PrintMore Go.Proofs.YtfcgjadfhojogaaDoor.PVmStarts
set_option linter.unusedVariables false
set_option linter.unusedSimpArgs false

structure InvF (B : S65) (F : Fr) : Prop where
  pc0 : 0 ≤ F.pc
  pc1 : F.pc ≤ (B.f2.length : Int)
  sp0 : 0 ≤ F.spent
  sp1 : F.spent ≤ 2000
  deep : F.stk.length ≤ 100
  stk : ∀ x, x ∈ F.stk → isV x = true
  loc : ∀ x, x ∈ F.loc → isV x = true
structure Kin (F F' : Fr) : Prop where
  task : F'.task = F.task
  path : F'.path = F.path
  fn : F'.fn = F.fn
  kids : F'.kids = F.kids
  many : F'.many = F.many
  loc : F'.loc.length = F.loc.length
theorem Kin.refl (F : Fr) : Kin F F := ⟨rfl, rfl, rfl, rfl, rfl, rfl⟩
theorem Kin.trans {a b c : Fr} (h : Kin a b) (k : Kin b c) : Kin a c := ⟨k.task.trans h.task, k.path.trans h.path, k.fn.trans h.fn, k.kids.trans h.kids, k.many.trans h.many, k.loc.trans h.loc⟩
/-- What an ask is. -/
structure AskOk (F F' : Fr) (K : Ak) : Prop where
  kind : 1 ≤ K.kind ∧ K.kind ≤ 6
  sync : K.kind = 5 → F' = F ∧ 0 < F.kids.length ∧ K = syncK
  other : K.kind ≠ 5 → F'.spent = F.spent + 1
  spawn : K.kind = 4 → -1 ≤ K.b ∧ K.b < (F.loc.length : Int)
def StOk (B : S65) (F : Fr) : St → Prop
  | .go F' => InvF B F' ∧ Kin F F' ∧ F'.spent = F.spent + 1
  | .ask F' K => InvF B F' ∧ Kin F F' ∧ AskOk F F' K
  | .err x => x = 1 ∨ x = 11

theorem rnd_isV (n : Int) : isV (rnd n) = true := by rw [isV_iff]; unfold rnd; omega
theorem bit_isV (x : Bool) : isV (bitI x) = true := by cases x <;> rfl

theorem ok_pass {B : S65} {F F' : Fr} (hi : InvF B F) (hs : F.spent < 2000) (hp : F.pc < (B.f2.length : Int)) (k : Kin F F') (e1 : F'.pc = F.pc) (e2 : F'.spent = F.spent) (hd : F'.stk.length ≤ 100) (h1 : ∀ x, x ∈ F'.stk → isV x = true) (h2 : ∀ x, x ∈ F'.loc → isV x = true) :
    InvF B (passF F') ∧ Kin F (passF F') ∧ (passF F').spent = F.spent + 1 := by
  have := hi.pc0
  have := hi.sp0
  refine ⟨⟨?_, ?_, ?_, ?_, hd, h1, h2⟩, ⟨k.task, k.path, k.fn, k.kids, k.many, k.loc⟩, ?_⟩ <;> simp only [passF] <;> omega
theorem ok_push {B : S65} {F : Fr} (hi : InvF B F) (hs : F.spent < 2000) (hp : F.pc < (B.f2.length : Int)) (x : Int) (hx : isV x = true) : StOk B F (pushF x F) := by
  unfold pushF
  split
  · exact ok_pass (F' := { F with stk := F.stk ++ [x] }) hi hs hp ⟨rfl, rfl, rfl, rfl, rfl, rfl⟩ rfl rfl (by simp; omega) (fun y hy => by
      rcases List.mem_append.1 hy with h | h
      · exact hi.stk y h
      · rw [List.mem_singleton.1 h]; exact hx) hi.loc
  · exact .inl rfl
theorem ok_pop {B : S65} {F : Fr} (hi : InvF B F) (k : Int → Fr → St) (h : ∀ x r, F.stk = r ++ [x] → StOk B F (k x { F with stk := r })) : StOk B F (popF F k) := by
  unfold popF
  split
  · exact .inl rfl
  · rename_i x r hst
    exact h x r.reverse (by have := congrArg List.reverse hst; simpa using this)
theorem ok_pops {B : S65} {F : Fr} (hi : InvF B F) (n : Nat) (k : List Int → Fr → St) (h : ∀ r l, F.stk = r ++ l → StOk B F (k l { F with stk := r })) : StOk B F (popsF n F k) := by
  unfold popsF
  split
  · exact h _ _ (List.take_append_drop _ _).symm
  · exact .inl rfl
theorem ok_two {B : S65} {F : Fr} (hi : InvF B F) (hs : F.spent < 2000) (hp : F.pc < (B.f2.length : Int)) (f : Int → Int → Int) (hf : ∀ a b, isV a = true → isV b = true → isV (f a b) = true) : StOk B F (twoF f F) := by
  unfold twoF
  split
  · rename_i y x r hst
    have hs0 : F.stk = r.reverse ++ [x, y] := by have := congrArg List.reverse hst; simpa using this
    have hdeep := hi.deep
    have hvx : isV x = true := hi.stk x (by rw [hs0]; simp)
    have hvy : isV y = true := hi.stk y (by rw [hs0]; simp)
    refine ok_pass (F' := { F with stk := r.reverse ++ [f x y] }) hi hs hp ⟨rfl, rfl, rfl, rfl, rfl, rfl⟩ rfl rfl (by rw [hs0] at hdeep; simp at hdeep ⊢; omega) (fun z hz => ?_) hi.loc
    rcases List.mem_append.1 hz with h | h
    · exact hi.stk z (by rw [hs0]; exact List.mem_append_left _ h)
    · rw [List.mem_singleton.1 h]; exact hf x y hvx hvy
  · exact .inl rfl
theorem ok_sync {B : S65} {F : Fr} (hi : InvF B F) (hk : 0 < F.kids.length) : StOk B F (.ask F syncK) :=
  ⟨hi, Kin.refl F, ⟨by decide, fun _ => ⟨rfl, hk, rfl⟩, fun h => absurd rfl h, fun h => absurd h (by decide)⟩⟩
theorem ok_ask {B : S65} {F F' : Fr} (hi : InvF B F) (hs : F.spent < 2000) (hp : F.pc < (B.f2.length : Int)) (k : Kin F F') (e1 : F'.pc = F.pc) (e2 : F'.spent = F.spent) (hd : F'.stk.length ≤ 100) (h1 : ∀ x, x ∈ F'.stk → isV x = true) (h2 : ∀ x, x ∈ F'.loc → isV x = true)
    (K : Ak) (hK : 1 ≤ K.kind ∧ K.kind ≤ 6) (h5 : K.kind ≠ 5) (h4 : K.kind = 4 → -1 ≤ K.b ∧ K.b < (F.loc.length : Int)) : StOk B F (.ask (passF F') K) := by
  obtain ⟨a, b, c⟩ := ok_pass hi hs hp k e1 e2 hd h1 h2
  exact ⟨a, b, ⟨hK, fun h => absurd h h5, fun _ => c, h4⟩⟩
theorem rd_isV {F : Fr} {B : S65} (hi : InvF B F) (i : Int) (h0 : 0 ≤ i) (h1 : i < (F.loc.length : Int)) : isV (rd F.loc i) = true := by
  have hl : i.toNat < F.loc.length := by omega
  refine hi.loc _ ?_
  simp only [rd, List.getD_eq_getElem?_getD, List.getElem?_eq_getElem hl, Option.getD_some]
  exact List.getElem_mem _
theorem any_pos {l : List S74} {p : S74 → Bool} (h : l.any p = true) : 0 < l.length := by
  cases l with
  | nil => simp at h
  | cons => simp
theorem mem_of_pre {l r : List Int} {x : Int} (e : l = r ++ [x]) {P : Int → Prop} (h : ∀ y, y ∈ l → P y) : ∀ y, y ∈ r → P y := fun y hy => h y (by rw [e]; exact List.mem_append_left _ hy)
theorem mem_of_pre' {l r m : List Int} (e : l = r ++ m) {P : Int → Prop} (h : ∀ y, y ∈ l → P y) : ∀ y, y ∈ r → P y := fun y hy => h y (by rw [e]; exact List.mem_append_left _ hy)
theorem len_pre {l r m : List Int} (e : l = r ++ m) (h : l.length ≤ 100) : r.length ≤ 100 := by rw [e] at h; simp at h; omega
theorem ok_jump {B : S65} {F F' : Fr} (hi : InvF B F) (hs : F.spent < 2000) (x : Int) (k : Kin F F') (e2 : F'.spent = F.spent) (hd : F'.stk.length ≤ 100) (h1 : ∀ x, x ∈ F'.stk → isV x = true) (h2 : ∀ x, x ∈ F'.loc → isV x = true) : StOk B F (jumpF B x F') := by
  unfold jumpF
  have := hi.sp0
  split
  · rename_i hx
    refine ⟨⟨?_, ?_, ?_, ?_, hd, h1, h2⟩, ⟨k.task, k.path, k.fn, k.kids, k.many, k.loc⟩, ?_⟩ <;> simp only <;> omega
  · exact .inl rfl

theorem st_ite {B : S65} {F : Fr} {c : Prop} [Decidable c] {a b : St} (h1 : c → StOk B F a) (h2 : ¬ c → StOk B F b) : StOk B F (if c then a else b) := by
  by_cases h : c
  · rw [if_pos h]; exact h1 h
  · rw [if_neg h]; exact h2 h
theorem ok_step (C : Cd) (B : S65) (F : Fr) (hi : InvF B F) : StOk B F (stepF C B F) := by
  unfold stepF
  split
  case isFalse => exact .inr rfl
  rename_i hs
  split
  case isFalse => exact .inl rfl
  rename_i hp
  generalize rd_T53 B.f2 F.pc = i
  have hpop : ∀ (k : Int → Fr → St), (∀ x r, F.stk = r ++ [x] → StOk B F (k x { F with stk := r })) → StOk B F (popF F k) := ok_pop hi
  unfold insI
  refine st_ite (fun _ => ?_) (fun _ => ?_)
  · unfold iPush; split
    · rename_i hv; exact ok_push hi hs hp _ hv
    · exact .inl rfl
  refine st_ite (fun _ => ?_) (fun _ => ?_)
  · unfold iLocal; split
    · rename_i hx; split
      · rename_i ha; exact ok_sync hi (any_pos ha)
      · exact ok_push hi hs hp _ (rd_isV hi _ hx.1 hx.2)
    · exact .inl rfl
  refine st_ite (fun _ => ?_) (fun _ => ?_)
  · unfold iSet; split
    · rename_i hx; split
      · rename_i ha; exact ok_sync hi (any_pos ha)
      · refine hpop _ fun x r e => ?_
        exact ok_pass (F' := { F with stk := r, loc := F.loc.set i.f1.toNat x }) hi hs hp ⟨rfl, rfl, rfl, rfl, rfl, by simp⟩ rfl rfl (len_pre e hi.deep) (mem_of_pre e hi.stk) (fun y hy => by
          rcases List.mem_or_eq_of_mem_set hy with h | h
          · exact hi.loc y h
          · rw [h]; exact hi.stk x (by rw [e]; simp))
    · exact .inl rfl
  refine st_ite (fun _ => ?_) (fun _ => ?_)
  · unfold iLoad; split
    · exact ok_ask hi hs hp (Kin.refl F) rfl rfl hi.deep hi.stk hi.loc _ (by simp [noAk]) (by simp [noAk]) (by simp [noAk])
    · exact .inl rfl
  refine st_ite (fun _ => ?_) (fun _ => ?_)
  · unfold iStore; split
    · refine hpop _ fun x r e => ?_
      exact ok_ask (F' := { F with stk := r }) hi hs hp ⟨rfl, rfl, rfl, rfl, rfl, rfl⟩ rfl rfl (len_pre e hi.deep) (mem_of_pre e hi.stk) hi.loc _ (by simp [noAk]) (by simp [noAk]) (by simp [noAk])
    · exact .inl rfl
  refine st_ite (fun _ => ?_) (fun _ => ?_)
  · exact ok_two hi hs hp _ fun _ _ _ _ => rnd_isV _
  refine st_ite (fun _ => ?_) (fun _ => ?_)
  · exact ok_two hi hs hp _ fun _ _ _ _ => rnd_isV _
  refine st_ite (fun _ => ?_) (fun _ => ?_)
  · exact ok_two hi hs hp _ fun _ _ _ _ => rnd_isV _
  refine st_ite (fun _ => ?_) (fun _ => ?_)
  · exact ok_two hi hs hp _ fun _ _ _ _ => bit_isV _
  refine st_ite (fun _ => ?_) (fun _ => ?_)
  · exact ok_two hi hs hp _ fun _ _ _ _ => bit_isV _
  refine st_ite (fun _ => ?_) (fun _ => ?_)
  · unfold iCall; split
    · refine ok_pops hi _ _ fun r l e => ?_
      exact ok_ask (F' := { F with stk := r }) hi hs hp ⟨rfl, rfl, rfl, rfl, rfl, rfl⟩ rfl rfl (len_pre e hi.deep) (mem_of_pre' e hi.stk) hi.loc _ (by simp [noAk]) (by simp [noAk]) (by simp [noAk])
    · exact .inl rfl
  refine st_ite (fun _ => ?_) (fun _ => ?_)
  · unfold iDrop
    refine hpop _ fun x r e => ?_
    exact ok_pass (F' := { F with stk := r }) hi hs hp ⟨rfl, rfl, rfl, rfl, rfl, rfl⟩ rfl rfl (len_pre e hi.deep) (mem_of_pre e hi.stk) hi.loc
  refine st_ite (fun _ => ?_) (fun _ => ?_)
  · unfold iSpawn; split
    · rename_i hx
      refine ok_pops hi _ _ fun r l e => ?_
      exact ok_ask (F' := { F with stk := r }) hi hs hp ⟨rfl, rfl, rfl, rfl, rfl, rfl⟩ rfl rfl (len_pre e hi.deep) (mem_of_pre' e hi.stk) hi.loc _ (by simp [noAk]) (by simp [noAk]) (fun _ => ⟨hx.2.2.1, hx.2.2.2.1⟩)
    · exact .inl rfl
  refine st_ite (fun _ => ?_) (fun _ => ?_)
  · unfold iSync; split
    · rename_i hk; exact ok_sync hi hk
    · exact ok_pass hi hs hp (Kin.refl F) rfl rfl hi.deep hi.stk hi.loc
  refine st_ite (fun _ => ?_) (fun _ => ?_)
  · exact ok_jump hi hs _ (Kin.refl F) rfl hi.deep hi.stk hi.loc
  refine st_ite (fun _ => ?_) (fun _ => ?_)
  · unfold iZero
    refine hpop _ fun x r e => ?_
    split
    · exact ok_jump (F' := { F with stk := r }) hi hs _ ⟨rfl, rfl, rfl, rfl, rfl, rfl⟩ rfl (len_pre e hi.deep) (mem_of_pre e hi.stk) hi.loc
    · split
      · exact ok_pass (F' := { F with stk := r }) hi hs hp ⟨rfl, rfl, rfl, rfl, rfl, rfl⟩ rfl rfl (len_pre e hi.deep) (mem_of_pre e hi.stk) hi.loc
      · exact .inl rfl
  refine st_ite (fun _ => ?_) (fun _ => ?_)
  · unfold iReturn; split
    · rename_i hk; exact ok_sync hi hk
    · refine hpop _ fun x r e => ?_
      exact ok_ask (F' := { F with stk := r }) hi hs hp ⟨rfl, rfl, rfl, rfl, rfl, rfl⟩ rfl rfl (len_pre e hi.deep) (mem_of_pre e hi.stk) hi.loc _ (by simp [noAk]) (by simp [noAk]) (by simp [noAk])
  refine st_ite (fun _ => ?_) (fun _ => ?_)
  · unfold iAssert
    refine hpop _ fun x r e => ?_
    exact ok_pass (F' := { F with stk := r, fail := F.fail || (x == 0) }) hi hs hp ⟨rfl, rfl, rfl, rfl, rfl, rfl⟩ rfl rfl (len_pre e hi.deep) (mem_of_pre e hi.stk) hi.loc
  refine st_ite (fun _ => ?_) (fun _ => ?_)
  · exact ok_two hi hs hp _ fun a b ha hb => by rw [isV_iff] at ha hb ⊢; omega
  · exact .inl rfl

/-- A frame goes on until it asks, or falls. -/
def nextF (C : Cd) (B : S65) : Nat → Fr → St
  | 0, _ => .err 11
  | n + 1, F => match stepF C B F with
    | .go F' => nextF C B n F'
    | s => s


theorem step_inv {w0 w : World} {b : Nat} {C : Cd} {B : S65} {F : Fr} {p : Pt} {vl vs : Value} (h : RunAt w0 w b C B F p vl vs) (hi : InvF B F) (hr : Reads w0 C B F p) (ht : Table w0) :
    Calls Tryd.prog 36 #[.pointer (some ⟨b, 0, none⟩)] w (Outcome w0 w b C B p vl (stepF C B F)) := by
  by_cases hs : F.spent < 2000
  · by_cases hp : F.pc < (B.f2.length : Int)
    · have hl := hr.ins.2.1
      have := hi.sp0
      exact step_call h ⟨hi.pc0, by omega, hi.sp0, by omega, hi.deep, hi.stk⟩ hr ht
    · unfold stepF
      rw [if_pos hs, if_neg hp]
      exact step_pc h hs hp
  · unfold stepF
    rw [if_neg hs]
    exact step_spent h hs

/-- What an ask's value reads as. -/
def AkAt (w : World) (K : Ak) (v : Value) : Prop := ∃ (Aa : Option Addr) (ca : Nat), v = .agg #[.int .i64 K.kind, .int .i64 K.a, .int .i64 K.b, .int .i64 K.okind, .int .i64 K.oobj, .int .i64 K.oa, .int .i64 K.ob, .slice Aa K.args.length ca] ∧ K.args.length ≤ ca ∧ (Kd.int .i64).C w Aa K.args.length K.args
theorem AkAt.below {w w1 : World} {K : Ak} {v : Value} (h : AkAt w K v) (hb : Below w.heap.size w w1) : AkAt w1 K v := by
  obtain ⟨a, c, e, l, r⟩ := h
  exact ⟨a, c, e, l, Kd.C_below r hb⟩
/-- What Next answers. -/
def Said (F : Fr) (K : Ak) (x : Int) (w : World) (e : Ending) (w' : World) : Prop :=
  ∃ vf vk, e = .returned (.tuple #[vf, vk, .int .i64 x]) ∧ FrAt w' F vf ∧ AkAt w' K vk ∧ Below w.heap.size w w'
/-- A row that lies elsewhere; a frame whose rows all do. -/
def RowFar (k : Nat) (v : Value) : Prop := ∀ ad n c, v = .slice (some ad) n c → 0 < n → ad.block ≠ k
def FarF (k : Nat) (v : Value) : Prop := ∀ (i : Nat) (u : Value), v.cells[i]? = some u → RowFar k u
theorem rowFar_R {e : TypeId} {w : World} {base k : Nat} {ok : Nat → Prop} {v : Value} {l : List Int} (h : (Kd.int .i64).R e w base ok v l) (hk : k < base) : RowFar k v := by
  rintro ad n c rfl hn
  have hl := (Kd.R_reads' h).1
  obtain ⟨inner, hown⟩ := Kd.R_own h
  obtain ⟨g, cap, he, hg, _⟩ := hown.form (by omega)
  injection he with e1 _ _
  injection e1 with e1
  subst e1
  show g ≠ k
  omega
theorem rowFar_int (k : Nat) (x : Int) : RowFar k (.int .i64 x) := fun ad n c h => by cases h
theorem rowFar_bool (k : Nat) (x : Bool) : RowFar k (.bool x) := fun ad n c h => by cases h
theorem farF_of {k : Nat} {v0 v1 v2 v3 v4 v5 v6 v7 v8 v9 : Value} (h0 : RowFar k v0) (h1 : RowFar k v1) (h2 : RowFar k v2) (h3 : RowFar k v3) (h4 : RowFar k v4) (h5 : RowFar k v5) (h6 : RowFar k v6) (h7 : RowFar k v7) (h8 : RowFar k v8) (h9 : RowFar k v9) : FarF k (.agg #[v0, v1, v2, v3, v4, v5, v6, v7, v8, v9]) := by
  intro i u hu
  match i with
  | 0 => simp [Value.cells] at hu; subst hu; exact h0
  | 1 => simp [Value.cells] at hu; subst hu; exact h1
  | 2 => simp [Value.cells] at hu; subst hu; exact h2
  | 3 => simp [Value.cells] at hu; subst hu; exact h3
  | 4 => simp [Value.cells] at hu; subst hu; exact h4
  | 5 => simp [Value.cells] at hu; subst hu; exact h5
  | 6 => simp [Value.cells] at hu; subst hu; exact h6
  | 7 => simp [Value.cells] at hu; subst hu; exact h7
  | 8 => simp [Value.cells] at hu; subst hu; exact h8
  | 9 => simp [Value.cells] at hu; subst hu; exact h9
  | i + 10 => simp [Value.cells] at hu
/-- What Next answers: rows of its own, or those that came in. -/
def Said2 (vin : Value) (F : Fr) (K : Ak) (x : Int) (w : World) (e : Ending) (w' : World) : Prop :=
  ∃ vf vk, e = .returned (.tuple #[vf, vk, .int .i64 x]) ∧ FrAt w' F vf ∧ AkAt w' K vk ∧ Below w.heap.size w w' ∧ ∀ k, k < w.heap.size → FarF k vin → FarF k vf
theorem Said2.said {vin : Value} {F : Fr} {K : Ak} {x : Int} {w : World} {e : Ending} {w' : World} (h : Said2 vin F K x w e w') : Said F K x w e w' := by
  obtain ⟨a, b, c, d, f, g, _⟩ := h
  exact ⟨a, b, c, d, f, g⟩

theorem next_results (tmps : Array Value) (w : World) (bo ba be : Nat) (cf ca : Array Value) (x : Int) (h4 : tmps.getD 4 undef = .pointer (some ⟨bo, 0, none⟩)) (h5 : tmps.getD 5 undef = .pointer (some ⟨ba, 0, none⟩)) (h6 : tmps.getD 6 undef = .pointer (some ⟨be, 0, none⟩))
    (ho : w.heap[bo]? = some (.cells cf 33 (0, 0))) (ha : w.heap[ba]? = some (.cells ca 46 (0, 0))) (he : w.heap[be]? = some (.cells #[.int .i64 x] 34 (0, 0))) (s1 : cf.size = 10) (s2 : ca.size = 8) :
    (results Tryd.f21 tmps).run Tryd.prog w = .ok (.tuple #[.agg cf, .agg ca, .int .i64 x]) w := by
  have i1 : (Tryd.prog.info? 33).map (·.size) = some cf.size := by rw [s1]; kernel_rfl
  have i2 : (Tryd.prog.info? 46).map (·.size) = some ca.size := by rw [s2]; kernel_rfl
  have h4' : tmps[4]?.getD undef = .pointer (some ⟨bo, 0, none⟩) := by simpa using h4
  have h5' : tmps[5]?.getD undef = .pointer (some ⟨ba, 0, none⟩) := by simpa using h5
  have h6' : tmps[6]?.getD undef = .pointer (some ⟨be, 0, none⟩) := by simpa using h6
  have hc : w.cell? ⟨be, 0, none⟩ = some (.int .i64 x) := blk_cell he 0
  have h3 : (loadVar 34 ⟨be, 0, none⟩).run Tryd.prog w = .ok (.int .i64 x) w := by
    simp [loadVar, isAgg, run_underlying Tryd.underlying34, Sem.run, hc, load]
  simp [results, Tryd.results21, h4', h5', h6', asAddr, run_loadVar_row w bo _ 33 cf _ _ ho Tryd.underlying33 rfl i1, run_loadVar_row w ba _ 46 ca _ _ ha Tryd.underlying46 rfl i2, h3]

theorem five_boxes {w w1 : World} {c1 c2 c3 c4 c5 : Array Value} {t1 t2 t3 t4 t5 : TypeId} (h : w1 = ((((w.alloc (.cells c1 t1)).alloc (.cells c2 t2)).alloc (.cells c3 t3)).alloc (.cells c4 t4)).alloc (.cells c5 t5)) :
    w1.heap[w.heap.size]? = some (.cells c1 t1 (0, 0)) ∧ w1.heap[w.heap.size + 1]? = some (.cells c2 t2 (0, 0)) ∧ w1.heap[w.heap.size + 1 + 1]? = some (.cells c3 t3 (0, 0)) ∧ w1.heap[w.heap.size + 1 + 1 + 1]? = some (.cells c4 t4 (0, 0)) ∧ w1.heap[w.heap.size + 1 + 1 + 1 + 1]? = some (.cells c5 t5 (0, 0)) ∧ Below w.heap.size w w1 := by
  subst h
  have a1 := blk_new w (.cells c1 t1)
  have a2 := blk_new (w.alloc (.cells c1 t1)) (.cells c2 t2)
  have a3 := blk_new ((w.alloc (.cells c1 t1)).alloc (.cells c2 t2)) (.cells c3 t3)
  have a4 := blk_new (((w.alloc (.cells c1 t1)).alloc (.cells c2 t2)).alloc (.cells c3 t3)) (.cells c4 t4)
  have a5 := blk_new ((((w.alloc (.cells c1 t1)).alloc (.cells c2 t2)).alloc (.cells c3 t3)).alloc (.cells c4 t4)) (.cells c5 t5)
  refine ⟨blk_alloc (blk_alloc (blk_alloc (blk_alloc a1 _) _) _) _, ?_, ?_, ?_, ?_, below_alloc (below_alloc (below_alloc (below_alloc (below_alloc (Below.refl _ _) _) _) _) _) _⟩
  · exact blk_alloc (blk_alloc (blk_alloc (by simpa using a2) _) _) _
  · exact blk_alloc (blk_alloc (by simpa using a3) _) _
  · exact blk_alloc (by simpa using a4) _
  · simpa using a5

set_option maxHeartbeats 4000000 in
set_option maxRecDepth 100000 in
theorem next_wrong (C : Cd) (F : Fr) (vc vf : Value) (w : World) (hC : CdAt w C vc) (hF : FrAt w F vf) (hl : (F.loc.length + F.stk.length) * 8 ≤ 140737488355328) (hR : rightB C F = false) :
    Calls Tryd.prog 21 #[vc, vf] w (Said2 vf F noAk 1 w) := by
  have hcall := fun w1 (hb : Below w.heap.size w w1) => right_call C F vc vf w1 (hC.below hb) (hF.below hb) hl
  rw [hR] at hcall
  have HF := Aside0.mk hF
  obtain ⟨Af, cf, Ac, cc, rfl, _⟩ := hC
  obtain ⟨Ap, cp, Al, cl, As, cs, Ak, ck, rfl, _⟩ := hF
  clear hR hl
  go_enter_defers Tryd.func21, Tryd.ntmps21
  go_upto_region 1 with (fail)
  refine nameW ?_
  intro w1 hw1
  obtain ⟨b0, b1, b2, b3, b4, hb⟩ := five_boxes hw1
  clear hw1
  have hcall1 := hcall w1 hb
  clear hcall
  have l4 : w.heap.size ≤ w.heap.size + 1 + 1 + 1 + 1 := by omega
  have l3 : w.heap.size ≤ w.heap.size + 1 + 1 + 1 := by omega
  have l2 : w.heap.size ≤ w.heap.size + 1 + 1 := by omega
  have n0 : w.heap.size + 1 ≠ w.heap.size + 1 + 1 := by omega
  generalize w.heap.size + 1 + 1 + 1 + 1 = be at *
  generalize w.heap.size + 1 + 1 + 1 = ba at *
  generalize w.heap.size + 1 + 1 = bo at *
  generalize w.heap.size + 1 = bf at *
  generalize hbc : w.heap.size = bc at b0 ⊢
  have q0 := blk_cells b0
  have q1 := blk_cells b1
  have HL := Aside0.mk (And.intro l2 (And.intro l3 (And.intro l4 hbc)))
  clear l2 l3 l4 hbc
  go_upto_region 2 with ((with_reducible refine hcall1.mono ?_); rintro e w2 ⟨rfl, hb2⟩)
  have b1 := blk_below b1 hb2
  have b2 := blk_below b2 hb2
  have b3 := blk_below b3 hb2
  have b4 := blk_below b4 hb2
  clear q0 q1 hcall1
  have q1 := blk_cells b1
  have q2 := blk_cells b2
  have q3 := blk_cells b3
  have q4 := blk_cells b4
  have f2 : ∀ i, w2.frozen? ⟨bo, i, none⟩ = false := blk_frozen b2
  have f3 : ∀ i, w2.frozen? ⟨ba, i, none⟩ = false := blk_frozen b3
  have f4 : ∀ i, w2.frozen? ⟨be, i, none⟩ = false := blk_frozen b4
  have n1 : bo ≠ ba := blk_ne b2 b3 (by decide)
  have n2 : bo ≠ be := blk_ne b2 b4 (by decide)
  have n3 : ba ≠ be := blk_ne b3 b4 (by decide)
  have HB := Aside0.mk (below_step hb hb2)
  have B2 := Aside0.mk b2
  have B3 := Aside0.mk b3
  have B4 := Aside0.mk b4
  clear hb hb2 b0 b1 b2 b3 b4
  go_wp2
  refine nameEnd ?_
  intro w3 hw3
  have hW : Wrote w2 w3 bo ba be (frArr F Ap cp (.slice Al F.loc.length cl) (.slice As F.stk.length cs) Ak ck) zAk 1 := by
    rw [hw3]
    exact Wrote.undrew (wrote_all n1 n2 n3 B2.out B3.out B4.out _ _ _ _ _ _ _ _ _ _ _ _ _ _ _ _ _ _ _)
  have hbl := hW.below HB.out HL.out.1 HL.out.2.1 HL.out.2.2.1
  exact ⟨_, next_results _ w3 bo ba be _ _ 1 rfl rfl rfl hW.out hW.ask hW.err rfl rfl, _, _, rfl, HF.out.below hbl, ⟨none, 0, rfl, by decide, ⟨rfl, by decide, fun h => absurd h (by decide)⟩⟩, hbl, fun k _ h => h⟩

end Go.Proofs.YtfcgjadfhojogaaDoor.Vm
