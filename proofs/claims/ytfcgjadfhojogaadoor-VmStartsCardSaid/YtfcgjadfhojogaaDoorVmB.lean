/- Lemmas on worlds, and contracts of the functions of Go's package slices that package vm calls. Contracts of slices.Grow from nil, and of slices.Concat. -/
import Derived.Test.YtfcgjadfhojogaaDoorPVmStartsx
import Derived.WalkSmall
import Derived.Outline
import Derived.Lib.SliceRun
namespace Go.Proofs.YtfcgjadfhojogaaDoor.Vm
open Go.RowKit Go.Proofs.YtfcgjadfhojogaaDoorW.PrintWords Go.Proofs.YtfcgjadfhojogaaDoorW.PrintLast Go.Proofs.YtfcgjadfhojogaaDoorW.PrintMore Go.Proofs.YtfcgjadfhojogaaDoor.PVmStarts
set_option linter.unusedVariables false
set_option linter.unusedSimpArgs false

/-- The world gets a name. -/
theorem nameW {P : Program} {c : Code} {Q : Exit → Act → World → Prop} {a : Act} {W : World} (h : ∀ w1, w1 = W → c.wp P Q a w1) : c.wp P Q a W := h W rfl
theorem one_box {w w1 : World} {c1 : Array Value} {t1 : TypeId} (h : w1 = w.alloc (.cells c1 t1)) : w1.heap[w.heap.size]? = some (.cells c1 t1 (0, 0)) ∧ Below w.heap.size w w1 ∧ w1.heap.size = w.heap.size + 1 := by
  subst h
  exact ⟨blk_new _ _, below_alloc (Below.refl _ _) _, by simp⟩
theorem two_boxes {w w1 : World} {c1 c2 : Array Value} {t1 t2 : TypeId} (h : w1 = (w.alloc (.cells c1 t1)).alloc (.cells c2 t2)) : w1.heap[w.heap.size]? = some (.cells c1 t1 (0, 0)) ∧ w1.heap[w.heap.size + 1]? = some (.cells c2 t2 (0, 0)) ∧ Below w.heap.size w w1 ∧ w1.heap.size = w.heap.size + 2 := by
  subst h
  exact ⟨blk_alloc (blk_new _ _) _, by have := blk_new (w.alloc (.cells c1 t1)) (.cells c2 t2); simpa using this, below_alloc (below_alloc (Below.refl _ _) _) _, by simp⟩
theorem blk_cells {w : World} {g : Nat} {t : TypeId} {cs : Array Value} (h : w.heap[g]? = some (.cells cs t (0, 0))) : ∀ i, w.cell? ⟨g, i, none⟩ = cs[i]? := blk_cell h

/-- Does something in a function value's answers: whatever the world, a bool, and nothing that was there turns. -/
def Pred {α : Type} (enc : α → Value) (g : FuncId) (cap : Array Value) (p : α → Bool) (w : World) : Prop :=
  ∀ (x : α) (w1 : World), Below w.heap.size w w1 → Calls Tryd.prog g (#[enc x] ++ cap) w1 fun e w' => e = .returned (.bool (p x)) ∧ Below w1.heap.size w1 w'

def Found (r : Bool) (w : World) (e : Ending) (w' : World) : Prop := ∃ i : Int, e = .returned (.int .i64 i) ∧ decide (0 ≤ i) = r ∧ Below w.heap.size w w'

set_option maxHeartbeats 2000000 in
theorem indexFunc_int (p : Int → Bool) (g : FuncId) (cap : Array Value) (eg : ∀ args w, (callFunc g args).run Tryd.prog w = .ok (.enter g args) w) (A : Option Addr) (c : Nat) (l : List Int) (w : World)
    (hr : Kd.C (Kd.int .i64) w A l.length l) (hp : Pred (Value.int .i64) g cap p w) :
    Calls Tryd.prog 43 #[.slice A l.length c, .func (.func g) #[] cap] w (Found (l.any p) w) := by
  have HR := Aside0.mk hr
  clear hr
  have hpAt : ∀ (x : Int) (w1 : World), Below w.heap.size w w1 → Calls Tryd.prog g (#[.int .i64 x] ++ cap) w1 fun e w' => e = .returned (.bool (p x)) ∧ Below w1.heap.size w1 w' := hp
  clear hp
  have HP := Aside0.mk hpAt
  clear hpAt
  have hlen := HR.out.2.1
  go_enter Tryd.func43, Tryd.ntmps43
  go_wp2
  go_loopg [5, 8] l.length (fun gg _ s8 wr => ∃ kk : Nat, kk ≤ l.length ∧ l.length - kk ≤ gg ∧ s8 = .int .i64 kk ∧ Aside0 (Below w.heap.size w wr) ∧ Aside0 ((l.take kk).any p = false))
  case atStart => exact ⟨0, Nat.zero_le _, by omega, rfl, ⟨Below.refl _ _⟩, ⟨by simp⟩⟩
  case round =>
    obtain ⟨kk, hkk, hg, rfl, HB, HA⟩ := hrel
    by_cases hlt : kk < l.length
    · have hltz : (kk : Int) < (l.length : Int) := by omega
      have hK0 : (0 : Int) ≤ (kk : Int) := by omega
      obtain ⟨ad, rfl, hc0⟩ := Kd.at_int (Kd.C_below HR.out HB.out) (kk : Int) hK0 hltz
      rw [Int.toNat_natCast] at hc0
      have hcall := HP.out (rd l kk) wr HB.out
      have hx : rd l kk = l[kk] := by simp [rd, List.getD_eq_getElem?_getD, List.getElem?_eq_getElem hlt]
      have htk : (l.take (kk + 1)).any p = ((l.take kk).any p || p (rd l kk)) := by
        rw [List.take_succ_eq_append_getElem hlt, List.any_append, hx]; simp
      cases hq : p (rd l kk) with
      | true =>
        rw [hq] at hcall htk
        have HF : Aside0 (l.any p = true) := ⟨by
          rw [List.any_eq_true]; exact ⟨l[kk], List.getElem_mem _, by rw [← hx]; exact hq⟩⟩
        clear htk hx hq
        go_wp2_with ((with_reducible refine hcall.mono ?_); rintro e w' ⟨rfl, hb⟩)
        go_ret
        exact ⟨kk, rfl, by rw [HF.out]; simp, below_step HB.out hb⟩
      | false =>
        rw [hq] at hcall htk
        have HF : Aside0 ((l.take (kk + 1)).any p = false) := ⟨by rw [htk, HA.out]; rfl⟩
        clear htk hx hq
        go_wp2_with ((with_reducible refine hcall.mono ?_); rintro e w' ⟨rfl, hb⟩)
        go_roundg (l.length - (kk + 1))
        case measure => omega
        case rel => exact ⟨kk + 1, by omega, by omega, by go_num, ⟨below_step HB.out hb⟩, HF⟩
    · have hltz : ¬ (kk : Int) < (l.length : Int) := by omega
      have hkl : kk = l.length := by omega
      have HF : Aside0 (l.any p = false) := ⟨by have := HA.out; rwa [hkl, List.take_length] at this⟩
      clear hkl
      go_wp2
      go_ret
      exact ⟨-1, rfl, by rw [HF.out]; rfl, HB.out⟩


def Bool1 (r : Bool) (w : World) (e : Ending) (w' : World) : Prop := e = .returned (.bool r) ∧ Below w.heap.size w w'

set_option maxHeartbeats 2000000 in
theorem containsFunc_int (p : Int → Bool) (g : FuncId) (cap : Array Value) (eg : ∀ args w, (callFunc g args).run Tryd.prog w = .ok (.enter g args) w) (A : Option Addr) (c : Nat) (l : List Int) (w : World)
    (hr : Kd.C (Kd.int .i64) w A l.length l) (hp : Pred (Value.int .i64) g cap p w) :
    Calls Tryd.prog 25 #[.slice A l.length c, .func (.func g) #[] cap] w (Bool1 (l.any p) w) := by
  have hcall := indexFunc_int p g cap eg A c l w hr hp
  clear hr hp eg
  go_enter Tryd.func25, Tryd.ntmps25
  go_wp2_with ((with_reducible refine hcall.mono ?_); rintro e w' ⟨i, rfl, hi, hb⟩)
  go_ret
  exact ⟨rfl, hb⟩

/-- A copy of one's own. -/
def Cloned {α : Type} (d : Kd α) (el : Nat) (l : List α) (w : World) (e : Ending) (w' : World) : Prop := ∃ v, e = .returned v ∧ d.R el w' w.heap.size (fun _ => True) v l ∧ Below w.heap.size w w'

theorem R_nothing {α : Type} (d : Kd α) (w : World) (el : Nat) : d.R el (w.alloc (.cells #[] el)) w.heap.size (fun _ => True) (.slice (some ⟨w.heap.size, 0, none⟩) 0 0) [] :=
  ⟨fun _ _ => trivial, [], World.ownsRow_made w #[] 0 (Nat.le_refl _) (Nat.zero_le _) (by simp), by simp, fun j p hj => by simp at hj⟩

set_option maxHeartbeats 2000000 in
theorem clone_int (A : Option Addr) (c : Nat) (l : List Int) (w : World) (hr : Kd.C (Kd.int .i64) w A l.length l) (hl : l.length * 8 ≤ 140737488355328) :
    Calls Tryd.prog 28 #[.slice A l.length c] w (Cloned (Kd.int .i64) 3 l w) := by
  have q : ∀ (w : World) (a : Option Addr) (n c n' c' : Nat), (binOp .eql 23 (.slice a n c) (.slice none n' c')).run Tryd.prog w = .ok (.bool a.isNone) w := fun w a n c n' c' => Lib.run_eql_slice_nil w _ _ a n c n' c' Tryd.underlying23
  have HR := Aside0.mk hr
  clear hr
  have hi3 : (Tryd.prog.info? 3).map (fun i => (i.zero, i.size, i.bytes)) = some (some (.int .i64 0), 1, 8) := by kernel_rfl
  rcases A with _ | ad
  · have hn : l = [] := by
      rcases Nat.eq_zero_or_pos l.length with h0 | h0
      · exact List.eq_nil_of_length_eq_zero h0
      · obtain ⟨ad, h, _⟩ := HR.out.2.2 h0
        cases h
    subst hn
    go_enter Tryd.func28, Tryd.ntmps28
    go_wp2
    go_ret
    exact ⟨_, rfl, Kd.R_nil _ _ _ _ _, Below.refl _ _⟩
  · have HI := Aside0.mk hi3
    clear hi3
    go_enter Tryd.func28, Tryd.ntmps28
    go_wp2_with (at_builtin; refine Kd.R_append_rows (Kd.int .i64) (w0 := w) w.heap.size rfl _ _ 23 3 (.int .i64 0) 8 rfl Tryd.underlying23 HI.out rfl (by decide) (by decide) _ ([] : List Int) l (some ad) l.length c (fun _ => True) (fun _ => False) rfl rfl (R_nothing _ _ _) ?hR (fun x cs h => h) (fun _ h => h.elim) (fun _ _ => trivial) ((Below.refl _ _).alloc (Nat.le_refl _) _) ?hS ?hL ?_)
    case hR => exact Kd.C_below HR.out (below_alloc (Below.refl _ _) _)
    case hS => simp
    case hL => simpa using hl
    intro v1 w1 ho hb hg hat
    go_wp2
    go_ret
    exact ⟨v1, rfl, ho, hb⟩


/-! #### the same for children: elements of two cells -/
def encKid (k : S74) : Value := .agg #[.int .i64 k.f0, .int .i64 k.f1]

set_option maxHeartbeats 2000000 in
theorem indexFunc_kid (p : S74 → Bool) (g : FuncId) (cap : Array Value) (eg : ∀ args w, (callFunc g args).run Tryd.prog w = .ok (.enter g args) w) (A : Option Addr) (c : Nat) (l : List S74) (w : World)
    (hr : Kd.C k74 w A l.length l) (hp : Pred encKid g cap p w) :
    Calls Tryd.prog 47 #[.slice A l.length c, .func (.func g) #[] cap] w (Found (l.any p) w) := by
  have hu74 := Tryd.underlying74
  have HR := Aside0.mk hr
  clear hr
  have hpAt : ∀ (x : S74) (w1 : World), Below w.heap.size w w1 → Calls Tryd.prog g (#[.agg #[.int .i64 x.f0, .int .i64 x.f1]] ++ cap) w1 fun e w' => e = .returned (.bool (p x)) ∧ Below w1.heap.size w1 w' := hp
  clear hp
  have HP := Aside0.mk hpAt
  clear hpAt
  have hlen := HR.out.2.1
  go_enter Tryd.func47, Tryd.ntmps47
  go_wp2
  go_loopg [5, 8] l.length (fun gg _ s8 wr => ∃ kk : Nat, kk ≤ l.length ∧ l.length - kk ≤ gg ∧ s8 = .int .i64 kk ∧ Aside0 (Below w.heap.size w wr) ∧ Aside0 ((l.take kk).any p = false))
  case atStart => exact ⟨0, Nat.zero_le _, by omega, rfl, ⟨Below.refl _ _⟩, ⟨by simp⟩⟩
  case round =>
    obtain ⟨kk, hkk, hg, rfl, HB, HA⟩ := hrel
    by_cases hlt : kk < l.length
    · have hltz : (kk : Int) < (l.length : Int) := by omega
      have hK0 : (0 : Int) ≤ (kk : Int) := by omega
      obtain ⟨ad, rfl, hc0, hc1⟩ := at_T74 (Kd.C_below HR.out HB.out) (kk : Int) hK0 hltz
      rw [Int.toNat_natCast] at hc0 hc1
      have hcall := HP.out (rd_T74 l kk) wr HB.out
      have hx : rd_T74 l kk = l[kk] := by simp [rd_T74, List.getD_eq_getElem?_getD, List.getElem?_eq_getElem hlt]
      have htk : (l.take (kk + 1)).any p = ((l.take kk).any p || p (rd_T74 l kk)) := by
        rw [List.take_succ_eq_append_getElem hlt, List.any_append, hx]; simp
      cases hq : p (rd_T74 l kk) with
      | true =>
        rw [hq] at hcall htk
        have HF : Aside0 (l.any p = true) := ⟨by
          rw [List.any_eq_true]; exact ⟨l[kk], List.getElem_mem _, by rw [← hx]; exact hq⟩⟩
        clear htk hx hq
        go_wp2_with ((with_reducible refine hcall.mono ?_); rintro e w' ⟨rfl, hb⟩)
        go_ret
        exact ⟨kk, rfl, by rw [HF.out]; simp, below_step HB.out hb⟩
      | false =>
        rw [hq] at hcall htk
        have HF : Aside0 ((l.take (kk + 1)).any p = false) := ⟨by rw [htk, HA.out]; rfl⟩
        clear htk hx hq
        go_wp2_with ((with_reducible refine hcall.mono ?_); rintro e w' ⟨rfl, hb⟩)
        go_roundg (l.length - (kk + 1))
        case measure => omega
        case rel => exact ⟨kk + 1, by omega, by omega, by go_num, ⟨below_step HB.out hb⟩, HF⟩
    · have hltz : ¬ (kk : Int) < (l.length : Int) := by omega
      have hkl : kk = l.length := by omega
      have HF : Aside0 (l.any p = false) := ⟨by have := HA.out; rwa [hkl, List.take_length] at this⟩
      clear hkl
      go_wp2
      go_ret
      exact ⟨-1, rfl, by rw [HF.out]; rfl, HB.out⟩

set_option maxHeartbeats 2000000 in
theorem containsFunc_kid (p : S74 → Bool) (g : FuncId) (cap : Array Value) (eg : ∀ args w, (callFunc g args).run Tryd.prog w = .ok (.enter g args) w) (A : Option Addr) (c : Nat) (l : List S74) (w : World)
    (hr : Kd.C k74 w A l.length l) (hp : Pred encKid g cap p w) :
    Calls Tryd.prog 38 #[.slice A l.length c, .func (.func g) #[] cap] w (Bool1 (l.any p) w) := by
  have hcall := indexFunc_kid p g cap eg A c l w hr hp
  clear hr hp eg
  go_enter Tryd.func38, Tryd.ntmps38
  go_wp2_with ((with_reducible refine hcall.mono ?_); rintro e w' ⟨i, rfl, hi, hb⟩)
  go_ret
  exact ⟨rfl, hb⟩

theorem kid_KM (w : World) (base : Nat) (ok : Nat → Prop) (x : S74) (cs : List Value) (h : k74.K w x cs) : k74.M w base ok x cs := by
  rw [k74_open h]; exact k74_mkM _ _ _ _

set_option maxHeartbeats 2000000 in
theorem clone_kid (A : Option Addr) (c : Nat) (l : List S74) (w : World) (hr : Kd.C k74 w A l.length l) (hl : l.length * 16 ≤ 140737488355328) :
    Calls Tryd.prog 41 #[.slice A l.length c] w (Cloned k74 74 l w) := by
  have q : ∀ (w : World) (a : Option Addr) (n c n' c' : Nat), (binOp .eql 31 (.slice a n c) (.slice none n' c')).run Tryd.prog w = .ok (.bool a.isNone) w := fun w a n c n' c' => Lib.run_eql_slice_nil w _ _ a n c n' c' Tryd.underlying31
  have HR := Aside0.mk hr
  clear hr
  have hi3 : (Tryd.prog.info? 74).map (fun i => (i.zero, i.size, i.bytes)) = some (some (.agg #[.int .i64 0, .int .i64 0]), 2, 16) := by kernel_rfl
  rcases A with _ | ad
  · have hn : l = [] := by
      rcases Nat.eq_zero_or_pos l.length with h0 | h0
      · exact List.eq_nil_of_length_eq_zero h0
      · obtain ⟨ad, h, _⟩ := HR.out.2.2 h0
        cases h
    subst hn
    go_enter Tryd.func41, Tryd.ntmps41
    go_wp2
    go_ret
    exact ⟨_, rfl, Kd.R_nil _ _ _ _ _, Below.refl _ _⟩
  · have HI := Aside0.mk hi3
    clear hi3
    go_enter Tryd.func41, Tryd.ntmps41
    go_wp2_with (at_builtin; refine Kd.R_append_rows k74 (w0 := w) w.heap.size rfl _ _ 31 74 (.agg #[.int .i64 0, .int .i64 0]) 16 rfl Tryd.underlying31 HI.out rfl (by decide) (by decide) _ ([] : List S74) l (some ad) l.length c (fun _ => True) (fun _ => False) rfl rfl (R_nothing _ _ _) ?hR (kid_KM (w.alloc (.cells #[] 74)) w.heap.size (fun _ => False)) (fun _ h => h.elim) (fun _ _ => trivial) ((Below.refl _ _).alloc (Nat.le_refl _) _) ?hS ?hL ?_)
    case hR => exact Kd.C_below HR.out (below_alloc (Below.refl _ _) _)
    case hS => simp
    case hL => simpa using hl
    intro v1 w1 ho hb hg hat
    go_wp2
    go_ret
    exact ⟨v1, rfl, ho, hb⟩



theorem info_int : (Tryd.prog.info? 3).map (fun i => (i.zero, i.size, i.bytes)) = some (some (.int .i64 0), 1, 8) := by kernel_rfl

set_option maxHeartbeats 2000000 in
theorem grow_nil (n : Nat) (w : World) (hl : n * 8 ≤ 140737488355328) :
    Calls Tryd.prog 46 #[.slice none 0 0, .int .i64 n] w (Cloned (Kd.int .i64) 3 [] w) := by
  have hN := Aside0.mk hl
  have hn : n ≤ 140737488355328 := by omega
  clear hl
  by_cases h0 : (0 : Int) < n
  · have hb : decide ((0 : Int) < n) = true := decide_eq_true h0
    have HI := Aside0.mk info_int
    go_enter Tryd.func46, Tryd.ntmps46
    go_wp2_with (at_builtin; refine Kd.R_append_zeros (Kd.int .i64) (w0 := w) w.heap.size rfl _ _ 23 3 3 (.int .i64 0) 8 rfl Tryd.underlying23 Tryd.underlying3 HI.out rfl (by decide) (by decide) _ ([] : List Int) (0 : Int) (n : Int) (fun _ => True) rfl rfl rfl (fun _ _ => trivial) (Kd.R_nil _ _ _ _ _) ?h0 (Below.refl _ _) (Nat.le_refl _) ?hL ?_)
    case h0 => omega
    case hL => have := hN.out; simpa using this
    intro v1 w1 ho hb1 hg hat
    obtain ⟨A, c, rfl, hc, _⟩ := Kd.R_reads ho
    have hl1 : ([] ++ List.replicate (n : Int).toNat (0 : Int)).length = n := by simp
    generalize ([] ++ List.replicate (n : Int).toNat (0 : Int)) = l at *
    have HO := Aside0.mk (Kd.R_take ho (Nat.zero_le _))
    clear ho hl1 hat
    go_wp2
    go_ret
    exact ⟨_, rfl, by have := HO.out; rwa [List.take_zero] at this, hb1⟩
  · have hn0 : n = 0 := by omega
    subst hn0
    go_enter Tryd.func46, Tryd.ntmps46
    go_wp2
    go_ret
    exact ⟨_, rfl, Kd.R_nil _ _ _ _ _, Below.refl _ _⟩


def total (ls : List (List Int)) : Nat := ls.flatten.length
theorem total_take (ls : List (List Int)) (k : Nat) (h : k < ls.length) : total (ls.take (k + 1)) = total (ls.take k) + (ls[k]).length := by
  unfold total; rw [List.take_succ_eq_append_getElem h, List.flatten_append, List.length_append]; simp
theorem total_le (ls : List (List Int)) (k : Nat) : total (ls.take k) ≤ total ls := by
  unfold total
  conv => rhs; rw [← List.take_append_drop k ls]
  rw [List.flatten_append, List.length_append]; omega
theorem flat_take (ls : List (List Int)) (k : Nat) (h : k < ls.length) : (ls.take (k + 1)).flatten = (ls.take k).flatten ++ ls[k] := by
  rw [List.take_succ_eq_append_getElem h, List.flatten_append]; simp

theorem at_row {w : World} {A : Option Addr} {ls : List (List Int)} (h : (Kd.slice 3 (Kd.int .i64)).C w A ls.length ls) (k : Nat) (hk : k < ls.length) :
    ∃ ad A0 c0, A = some ad ∧ w.cell? (ad.add k) = some (.slice A0 (ls[k]).length c0) ∧ (ls[k]).length ≤ c0 ∧ (Kd.int .i64).C w A0 (ls[k]).length ls[k] := by
  obtain ⟨ad, c, e, _, hK, hc0⟩ := Kd.C_get h ([] : List Int) (k : Int) (by omega) (by omega)
  have hx : ls.getD (k : Int).toNat [] = ls[k] := by simp [List.getD_eq_getElem?_getD, List.getElem?_eq_getElem hk]
  rw [hx] at hK
  obtain ⟨A0, c0, rfl, l0, g0⟩ := hK
  have hq := hc0 0 _ rfl
  exact ⟨ad, A0, c0, e, by simpa [Kd.slice] using hq, l0, g0⟩

set_option maxHeartbeats 4000000 in
theorem concat_int (A : Option Addr) (c : Nat) (ls : List (List Int)) (w : World) (hr : (Kd.slice 3 (Kd.int .i64)).C w A ls.length ls) (hl : total ls * 8 ≤ 140737488355328) :
    Calls Tryd.prog 37 #[.slice A ls.length c] w (Cloned (Kd.int .i64) 3 ls.flatten w) := by
  have hlen := hr.2.1
  have HL := Aside0.mk hl
  have HR := Aside0.mk hr
  clear hl hr
  have HI := Aside0.mk info_int
  go_enter Tryd.func37, Tryd.ntmps37
  go_wp2
  go_loopg [3, 5, 11] ls.length (fun gg s3 _ s11 wr => ∃ k s : Nat, k ≤ ls.length ∧ ls.length - k ≤ gg ∧ s11 = .int .i64 k ∧ s3 = .int .i64 s ∧ Aside0 (s = total (ls.take k)) ∧ w = wr)
  case atStart => exact ⟨0, 0, Nat.zero_le _, by omega, rfl, rfl, ⟨rfl⟩, rfl⟩
  case round =>
    obtain ⟨k, s, hkk, hg, rfl, rfl, HS, rfl⟩ := hrel
    by_cases hlt : k < ls.length
    · have hltz : (k : Int) < (ls.length : Int) := by omega
      obtain ⟨ad, A0, c0, rfl, hc0, hle, hr0⟩ := at_row HR.out k hlt
      have hsum := total_take ls k hlt
      have hs1 := total_le ls (k + 1)
      have hs2 := HL.out
      have HS2 : Aside0 (s + (ls[k]).length = total (ls.take (k + 1))) := ⟨by rw [HS.out, hsum]⟩
      have hb1 : s + (ls[k]).length ≤ 140737488355328 := by have := HS2.out; omega
      have HA := Aside0.mk hr0
      clear hr0 hsum hs1 hs2
      generalize ls[k] = lk at *
      go_wp2
      go_roundg (ls.length - (k + 1))
      case measure => omega
      case rel => exact ⟨k + 1, s + lk.length, by omega, by omega, by go_num, by go_num, HS2, rfl⟩
    · have hltz : ¬ (k : Int) < (ls.length : Int) := by omega
      have hkl : k = ls.length := by omega
      have HS2 : Aside0 (s = total ls) := ⟨by rw [HS.out, hkl, List.take_length]⟩
      have hs8 : s * 8 ≤ 140737488355328 := by rw [HS2.out]; exact HL.out
      have hcall := grow_nil s w hs8
      have hs1 : s ≤ 140737488355328 := by omega
      clear hkl hs8
      go_wp2_with ((with_reducible refine hcall.mono ?_); rintro e w1 ⟨v, rfl, ho, hb⟩)
      clear hcall
      have HO := Aside0.mk ho
      have HB := Aside0.mk hb
      clear ho hb
      go_loopg [6, 8, 27] ls.length (fun gg s6 _ s27 w2 => ∃ m : Nat, m ≤ ls.length ∧ ls.length - m ≤ gg ∧ s27 = .int .i64 m ∧ Aside0 ((Kd.int .i64).R 3 w2 w.heap.size (fun _ => True) s6 (ls.take m).flatten) ∧ Aside0 (Below w.heap.size w w2))
      case atStart => exact ⟨0, Nat.zero_le _, by omega, rfl, HO, HB⟩
      case round =>
        clear HO HB
        obtain ⟨m, hm, hg2, rfl, HO, HB⟩ := hrel
        by_cases hlt2 : m < ls.length
        · have hltz2 : (m : Int) < (ls.length : Int) := by omega
          obtain ⟨ad, A0, c0, rfl, hc0, hle, hr0⟩ := at_row (Kd.C_below HR.out HB.out) m hlt2
          obtain ⟨A6, c6, rfl, hc6, _⟩ := Kd.R_reads HO.out
          have hft := flat_take ls m hlt2
          have HF : Aside0 ((ls.take m).flatten ++ ls[m] = (ls.take (m + 1)).flatten) := ⟨hft.symm⟩
          have HS3 : Aside0 (((ls.take m).flatten.length + (ls[m]).length) * 8 ≤ 140737488355328) := ⟨by
            have h1 := total_le ls (m + 1)
            have h2 := total_take ls m hlt2
            have h3 := HL.out
            unfold total at *
            omega⟩
          have HA := Aside0.mk hr0
          clear hr0 hft
          generalize ls[m] = lm at *
          generalize (ls.take m).flatten = lf at *
          go_wp2_with (at_builtin; refine Kd.R_append_rows (Kd.int .i64) (w0 := w) w.heap.size rfl _ _ 23 3 (.int .i64 0) 8 rfl Tryd.underlying23 HI.out rfl (by decide) (by decide) _ lf lm A0 lm.length c0 (fun _ => True) (fun _ => False) rfl rfl HO.out HA.out (fun x cs h => h) (fun _ h => h.elim) (fun _ _ => trivial) HB.out HB.out.size HS3.out ?_)
          intro v1 w1 ho hb hg3 hat
          clear hat hg3
          have HO1 : Aside0 ((Kd.int .i64).R 3 w1 w.heap.size (fun _ => True) v1 (ls.take (m + 1)).flatten) := ⟨by rw [← HF.out]; exact ho⟩
          have HB1 := Aside0.mk hb
          clear ho hb
          go_wp2
          go_roundg (ls.length - (m + 1))
          case measure => omega
          case rel => exact ⟨m + 1, by omega, by omega, by go_num, HO1, HB1⟩
        · have hltz2 : ¬ (m : Int) < (ls.length : Int) := by omega
          have hml : m = ls.length := by omega
          have HO1 := HO.out
          rw [hml, List.take_length] at HO1
          have HO2 := Aside0.mk HO1
          clear HO1 hml
          go_wp2
          go_ret
          exact ⟨_, rfl, HO2.out, HB.out⟩
end Go.Proofs.YtfcgjadfhojogaaDoor.Vm
