/- VmFails: what the assertions come to. -/
import Derived.Test.YtfcgjadfhojogaaDoorVmW
namespace Go.Proofs.YtfcgjadfhojogaaDoor.Vm
open Go.RowKit Go.Proofs.YtfcgjadfhojogaaDoorW.PrintWords Go.Proofs.YtfcgjadfhojogaaDoorW.PrintLast Go.Proofs.YtfcgjadfhojogaaDoorW.PrintMore Go.Proofs.YtfcgjadfhojogaaDoor.PVmStarts
set_option linter.unusedVariables false
set_option linter.unusedSimpArgs false

def pairsL : List Int → List S53
  | [] => []
  | x :: l => ⟨1, x, 0, 0⟩ :: ⟨18, 0, 0, 0⟩ :: pairsL l
def failL (l : List Int) : List S53 := pairsL l ++ [⟨1, 1, 0, 0⟩, ⟨17, 0, 0, 0⟩]
theorem pairs_append (l m : List Int) : pairsL (l ++ m) = pairsL l ++ pairsL m := by
  induction l with
  | nil => rfl
  | cons x l ih => simp only [List.cons_append, pairsL, ih]
theorem pairs_len (l : List Int) : (pairsL l).length = 2 * l.length := by
  induction l with
  | nil => rfl
  | cons x l ih => simp only [pairsL, List.length_cons, ih]; omega
theorem fail_len (l : List Int) : (failL l).length = 2 * l.length + 2 := by simp [failL, pairs_len]
def failB (l : List Int) : S65 := ⟨0, 0, failL l⟩
def aF (stk : List Int) (p : Int) (f : Bool) : Fr := ⟨1, [], 0, p, [], stk, [], 0, p, f⟩
theorem rd_mid (pre : List S53) (i : S53) (r : List S53) : rd_T53 (pre ++ i :: r) (pre.length : Int) = i := by
  simp [rd_T53]
theorem fail_step {C : Cd} {B : S65} {pre : List S53} {i : S53} {r : List S53} {stk : List Int} {f : Bool} {p : Int} (h : B.f2 = pre ++ i :: r) (hp : p = (pre.length : Int)) (hl : p < 2000) :
    stepF C B (aF stk p f) = insI C B i (aF stk p f) := by
  subst hp
  unfold stepF
  have h1 : (aF stk (pre.length : Int) f).spent < 2000 := hl
  have h2 : (aF stk (pre.length : Int) f).pc < (B.f2.length : Int) := by rw [h]; show (pre.length : Int) < _; simp; omega
  rw [if_pos h1, if_pos h2]
  congr 1
  rw [h]
  exact rd_mid pre i r
theorem fail_run (C : Cd) (B : S65) : ∀ (l : List Int) (pre : List S53) (f : Bool) (n : Nat), B.f2 = pre ++ failL l → (∀ x, x ∈ l → isV x = true) → pre.length + 2 * l.length + 2 ≤ 2000 → 2 * l.length + 2 ≤ n →
    nextF C B n (aF [] pre.length f) = .ask (aF [] ((pre.length : Int) + 2 * l.length + 2) (f || l.any fun x => x == 0)) { noAk with kind := 6, a := 1 } := by
  intro l
  induction l with
  | nil =>
    intro pre f n h hv hs hn
    have h0 : B.f2 = pre ++ ⟨1, 1, 0, 0⟩ :: [⟨17, 0, 0, 0⟩] := h
    have h1 : B.f2 = (pre ++ [⟨1, 1, 0, 0⟩]) ++ ⟨17, 0, 0, 0⟩ :: [] := by rw [h0]; simp
    have hs' : pre.length + 2 ≤ 2000 := by simpa using hs
    have s0 := fail_step (C := C) (stk := []) (f := f) h0 rfl (by omega)
    have s1 := fail_step (C := C) (stk := [1]) (f := f) (p := (pre.length : Int) + 1) h1 (by simp) (by omega)
    have e0 : insI C B ⟨1, 1, 0, 0⟩ (aF [] pre.length f) = .go (aF [1] ((pre.length : Int) + 1) f) := by simp [insI, iPush, isV, pushF, passF, aF]
    have e1 : insI C B ⟨17, 0, 0, 0⟩ (aF [1] ((pre.length : Int) + 1) f) = .ask (aF [] ((pre.length : Int) + 1 + 1) f) { noAk with kind := 6, a := 1 } := by simp [insI, iReturn, popF, passF, aF]
    obtain ⟨m, rfl⟩ : ∃ m, n = m + 1 + 1 := ⟨n - 2, by simp at hn; omega⟩
    rw [next_go (s0.trans e0), next_ask (s1.trans e1)]
    rw [List.any_nil, Bool.or_false]
    congr 2
  | cons x l ih =>
    intro pre f n h hv hs hn
    have h0 : B.f2 = pre ++ ⟨1, x, 0, 0⟩ :: (⟨18, 0, 0, 0⟩ :: failL l) := h
    have h1 : B.f2 = (pre ++ [⟨1, x, 0, 0⟩]) ++ ⟨18, 0, 0, 0⟩ :: failL l := by rw [h0]; simp
    have h2 : B.f2 = (pre ++ [⟨1, x, 0, 0⟩, ⟨18, 0, 0, 0⟩]) ++ failL l := by rw [h0]; simp
    have hlen : (x :: l).length = l.length + 1 := rfl
    rw [hlen] at hs hn
    have s0 := fail_step (C := C) (stk := []) (f := f) h0 rfl (by omega)
    have s1 := fail_step (C := C) (stk := [x]) (f := f) (p := (pre.length : Int) + 1) h1 (by simp) (by omega)
    have hx : isV x = true := hv x (List.mem_cons_self)
    have e0 : insI C B ⟨1, x, 0, 0⟩ (aF [] pre.length f) = .go (aF [x] ((pre.length : Int) + 1) f) := by simp [insI, iPush, hx, pushF, passF, aF]
    have e1 : insI C B ⟨18, 0, 0, 0⟩ (aF [x] ((pre.length : Int) + 1) f) = .go (aF [] ((pre.length : Int) + 1 + 1) (f || x == 0)) := by simp [insI, iAssert, popF, passF, aF]
    obtain ⟨m, rfl⟩ : ∃ m, n = m + 1 + 1 := ⟨n - 2, by omega⟩
    rw [next_go (s0.trans e0), next_go (s1.trans e1)]
    have hp : ((pre ++ [(⟨1, x, 0, 0⟩ : S53), ⟨18, 0, 0, 0⟩]).length : Int) = (pre.length : Int) + 1 + 1 := by rw [List.length_append]; show ((pre.length + 2 : Nat) : Int) = _; omega
    have := ih (pre ++ [⟨1, x, 0, 0⟩, ⟨18, 0, 0, 0⟩]) (f || x == 0) m h2 (fun y hy => hv y (List.mem_cons_of_mem _ hy)) (by rw [List.length_append]; show pre.length + 2 + _ + _ ≤ _; omega) (by omega)
    rw [hp] at this
    rw [this, hlen, List.any_cons, Bool.or_assoc, show (pre.length : Int) + 1 + 1 + 2 * (l.length : Int) + 2 = (pre.length : Int) + 2 * ((l.length + 1 : Nat) : Int) + 2 from by omega]
theorem fail_next (l : List Int) (hv : ∀ x, x ∈ l → isV x = true) (hl : l.length ≤ 20) : nextF (plainC (failL l) 0) (rd_T65 (plainC (failL l) 0).funs (aF [] 0 false).fn) 2001 (aF [] 0 false) = .ask (aF [] (2 * l.length + 2) (l.any fun x => x == 0)) { noAk with kind := 6, a := 1 } := by
  have h : rd_T65 (plainC (failL l) 0).funs (aF [] 0 false).fn = failB l := rfl
  rw [h]
  have := fail_run (plainC (failL l) 0) (failB l) l [] false 2001 rfl hv (by simp; omega) (by omega)
  simpa using this
theorem fail_start (l : List Int) : startF (plainC (failL l) 0) 0 [] 1 [] = (aF [] 0 false, 0) := by rfl
theorem fail_right (l : List Int) : rightB (plainC (failL l) 0) (aF [] 0 false) = true := by
  have h : ¬ ((2 : Int) * l.length + 2 < 0) := by omega
  simp [rightB, early, late, plainC, aF, rd_T65, fail_len]
  try omega
theorem ins_KM (w W : World) (base : Nat) (ok : Nat → Prop) (x : S53) (cs : List Value) (h : k53.K w x cs) : k53.M W base ok x cs := by
  rw [k53_open h]; exact k53_mkM _ _ _ _

end Go.Proofs.YtfcgjadfhojogaaDoor.Vm
