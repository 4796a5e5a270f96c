/- What Next comes to, step by step; frames that are the same; VmReckons. -/
import Derived.Test.YtfcgjadfhojogaaDoorVmV
namespace Go.Proofs.YtfcgjadfhojogaaDoor.Vm
open Go.RowKit Go.Proofs.YtfcgjadfhojogaaDoorW.PrintWords Go.Proofs.YtfcgjadfhojogaaDoorW.PrintLast Go.Proofs.YtfcgjadfhojogaaDoorW.PrintMore Go.Proofs.YtfcgjadfhojogaaDoor.PVmStarts
set_option linter.unusedVariables false
set_option linter.unusedSimpArgs false

theorem next_go {C : Cd} {B : S65} {F F' : Fr} {n : Nat} (h : stepF C B F = .go F') : nextF C B (n + 1) F = nextF C B n F' := by
  rw [show nextF C B (n + 1) F = (match stepF C B F with | .go F' => nextF C B n F' | s => s) from rfl, h]
theorem next_ask {C : Cd} {B : S65} {F F' : Fr} {K : Ak} {n : Nat} (h : stepF C B F = .ask F' K) : nextF C B (n + 1) F = .ask F' K := by
  rw [show nextF C B (n + 1) F = (match stepF C B F with | .go F' => nextF C B n F' | s => s) from rfl, h]
theorem next_err {C : Cd} {B : S65} {F : Fr} {x : Int} {n : Nat} (h : stepF C B F = .err x) : nextF C B (n + 1) F = .err x := by
  rw [show nextF C B (n + 1) F = (match stepF C B F with | .go F' => nextF C B n F' | s => s) from rfl, h]
def reckL (o a b : Int) : List S53 := [⟨1, a, 0, 0⟩, ⟨1, b, 0, 0⟩, ⟨o, 0, 0, 0⟩, ⟨5, 1, 0, 0⟩, ⟨17, 0, 0, 0⟩]
def reckB (o a b : Int) : S65 := ⟨0, 0, reckL o a b⟩
def reckF (t pc sp : Int) (stk : List Int) : Fr := ⟨t, [], 0, pc, [], stk, [], 0, sp, false⟩
theorem reck_step {C : Cd} {o a b r : Int} (hC : C.cells = [0, 0]) (ha : isV a = true) (hb : isV b = true)
    (h3 : stepF C (reckB o a b) (reckF 3 2 2 [a, b]) = .go (reckF 3 3 3 [r])) :
    nextF C (reckB o a b) 2001 (reckF 3 0 0 []) = .ask (reckF 3 4 4 []) { noAk with kind := 2, a := 1, b := r } := by
  have s1 : stepF C (reckB o a b) (reckF 3 0 0 []) = .go (reckF 3 1 1 [a]) := by
    simp [stepF, reckB, reckL, reckF, insI, rd_T53, iPush, ha, pushF, passF]
  have s2 : stepF C (reckB o a b) (reckF 3 1 1 [a]) = .go (reckF 3 2 2 [a, b]) := by
    simp [stepF, reckB, reckL, reckF, insI, rd_T53, iPush, hb, pushF, passF]
  have s4 : stepF C (reckB o a b) (reckF 3 3 3 [r]) = .ask (reckF 3 4 4 []) { noAk with kind := 2, a := 1, b := r } := by
    simp [stepF, reckB, reckL, reckF, insI, rd_T53, iStore, popF, hC, passF]
  rw [next_go s1, next_go s2, next_go h3, next_ask s4]
def reckR (o a b : Int) : Int := if o = 6 then rnd (a + b) else if o = 7 then rnd (a - b) else if o = 8 then rnd (a * b) else if o = 9 then bitI (decide (a < b)) else if o = 10 then bitI (a == b) else (a + b) / 2
theorem reck_mid {C : Cd} {o a b : Int} (ho : o = 6 ∨ o = 7 ∨ o = 8 ∨ o = 9 ∨ o = 10 ∨ o = 19) :
    stepF C (reckB o a b) (reckF 3 2 2 [a, b]) = .go (reckF 3 3 3 [reckR o a b]) := by
  rcases ho with rfl | rfl | rfl | rfl | rfl | rfl <;> simp [stepF, reckB, reckL, reckF, insI, rd_T53, twoF, passF, reckR]

theorem reck_start (o a b : Int) : startF (plainC (reckL o a b) 0) 0 [] 3 [] = (reckF 3 0 0 [], 0) := by rfl
theorem reck_right (o a b : Int) : rightB (plainC (reckL o a b) 0) (reckF 3 0 0 []) = true := by rfl
theorem reck_next (o a b r : Int) (ha : isV a = true) (hb : isV b = true) (ho : o = 6 ∨ o = 7 ∨ o = 8 ∨ o = 9 ∨ o = 10 ∨ o = 19) (hr : reckR o a b = r) :
    nextF (plainC (reckL o a b) 0) (rd_T65 (plainC (reckL o a b) 0).funs (reckF 3 0 0 []).fn) 2001 (reckF 3 0 0 []) = .ask (reckF 3 4 4 []) { noAk with kind := 2, a := 1, b := r } := by
  have h : rd_T65 (plainC (reckL o a b) 0).funs (reckF 3 0 0 []).fn = reckB o a b := rfl
  rw [h, ← hr]
  exact reck_step rfl ha hb (reck_mid ho)

/-! #### the same frames -/
theorem ints_refl (l : List Int) (hl : l.length < 1000000) : ∀ (d : Nat) (k : Nat) (i : Nat), i + d = l.length → d < k → underwoodref08_ints.l0 k l l (i : Int) = some true := by
  intro d
  induction d with
  | zero =>
    intro k i h hk
    obtain ⟨k, rfl⟩ : ∃ m, k = m + 1 := ⟨k - 1, by omega⟩
    simp only [underwoodref08_ints.l0]
    rw [if_neg (by omega)]
  | succ d ih =>
    intro k i h hk
    obtain ⟨k, rfl⟩ : ∃ m, k = m + 1 := ⟨k - 1, by omega⟩
    simp only [underwoodref08_ints.l0]
    rw [if_pos (by omega), if_pos (by omega), if_pos (by omega), if_pos trivial, show wrap64 ((i : Int) + 1) = ((i + 1 : Nat) : Int) from by unfold wrap64; omega]
    exact ih k (i + 1) (by omega) (by omega)
theorem ints_same (l : List Int) (k : Nat) (hl : l.length < 1000000) (hk : l.length < k) : underwoodref08_ints.f k l l = some true := by
  unfold underwoodref08_ints.f
  rw [if_pos rfl]
  exact ints_refl l hl l.length k 0 (by omega) hk
theorem kids_refl (l : List S74) (hl : l.length < 1000000) : ∀ (d : Nat) (k : Nat) (i : Nat), i + d = l.length → d < k → underwoodref08_kids.l0 k l l (i : Int) = some true := by
  intro d
  induction d with
  | zero =>
    intro k i h hk
    obtain ⟨k, rfl⟩ : ∃ m, k = m + 1 := ⟨k - 1, by omega⟩
    simp only [underwoodref08_kids.l0]
    rw [if_neg (by omega)]
  | succ d ih =>
    intro k i h hk
    obtain ⟨k, rfl⟩ : ∃ m, k = m + 1 := ⟨k - 1, by omega⟩
    simp only [underwoodref08_kids.l0]
    rw [if_pos (by omega), if_pos (by omega), if_pos (by omega), if_neg (by simp), show wrap64 ((i : Int) + 1) = ((i + 1 : Nat) : Int) from by unfold wrap64; omega]
    exact ih k (i + 1) (by omega) (by omega)
theorem kids_same (l : List S74) (k : Nat) (hl : l.length < 1000000) (hk : l.length < k) : underwoodref08_kids.f k l l = some true := by
  unfold underwoodref08_kids.f
  rw [if_pos rfl]
  exact kids_refl l hl l.length k 0 (by omega) hk
theorem same_call {F : Fr} {vf vg : Value} {w : World} (hF : FrAt w F vf) (hG : FrAt w F vg) (h1 : F.path.length < 1000000) (h2 : F.loc.length < 1000000) (h3 : F.stk.length < 1000000) (h4 : F.kids.length < 1000000) :
    Calls Tryd.prog 15 #[vf, vg] w (Bool1 true w) := by
  obtain ⟨a, b, c, d, e, f, g, i, rfl, ⟨k1, k2⟩, ⟨l1, l2⟩, ⟨m1, m2⟩, ⟨n1, n2⟩⟩ := hF
  obtain ⟨a', b', c', d', e', f', g', i', rfl, ⟨k1', k2'⟩, ⟨l1', l2'⟩, ⟨m1', m2'⟩, ⟨n1', n2'⟩⟩ := hG
  refine underwoodref08_Same.calls 1000001 _ _ _ _ _ _ _ _ _ _ _ _ _ _ _ _ _ _ _ _ _ _ _ _ _ _ _ _ _ _ _ _ _ _ _ _ true w k2 k1 l2 l1 m2 m1 n2 n1 k2' k1' l2' l1' m2' m1' n2' n1' ?_
  unfold underwoodref08_Same.f
  rw [if_pos rfl, if_pos rfl, if_pos rfl, if_pos rfl, if_pos rfl]
  have hb : (F.fail != F.fail) = false := by cases F.fail <;> rfl
  rw [hb, show (1000001 : Nat) = 1000000 + 1 from rfl]
  rw [underwoodref08_Same.j0, if_neg (by simp), ints_same _ _ h1 h1, ints_same _ _ h2 h2, ints_same _ _ h3 h3, kids_same _ _ h4 h4]
  rfl

end Go.Proofs.YtfcgjadfhojogaaDoor.Vm
