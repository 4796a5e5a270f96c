/- VmLoops: what the loop comes to. -/
import Derived.Test.YtfcgjadfhojogaaDoorVmW
namespace Go.Proofs.YtfcgjadfhojogaaDoor.Vm
open Go.RowKit Go.Proofs.YtfcgjadfhojogaaDoorW.PrintWords Go.Proofs.YtfcgjadfhojogaaDoorW.PrintLast Go.Proofs.YtfcgjadfhojogaaDoorW.PrintMore Go.Proofs.YtfcgjadfhojogaaDoor.PVmStarts
set_option linter.unusedVariables false
set_option linter.unusedSimpArgs false

/-! #### the loop's program, and what it comes to -/
def loopL (k : Int) : List S53 := [⟨1, k, 0, 0⟩, ⟨3, 0, 0, 0⟩, ⟨2, 0, 0, 0⟩, ⟨16, 9, 0, 0⟩, ⟨2, 0, 0, 0⟩, ⟨1, 1, 0, 0⟩, ⟨7, 0, 0, 0⟩, ⟨3, 0, 0, 0⟩, ⟨15, 2, 0, 0⟩, ⟨1, 5, 0, 0⟩, ⟨17, 0, 0, 0⟩]
def loopB (k : Int) : S65 := ⟨0, 1, loopL k⟩
def lF (l : Int) (stk : List Int) (pc sp : Int) : Fr := ⟨1, [], 0, pc, [l], stk, [], 0, sp, false⟩
theorem loop_s0 (C : Cd) (k m s : Int) (hk : isV k = true) : stepF C (loopB k) (lF m [] 0 s) = if s < 2000 then .go (lF m [k] 1 (s + 1)) else .err 11 := by
  unfold stepF
  by_cases h : (lF m [] 0 s).spent < 2000
  · have h' : s < 2000 := h
    rw [if_pos h, if_pos h', if_pos (by show (0 : Int) < 11; decide)]
    simp [loopB, loopL, lF, insI, rd_T53, iPush, iLocal, iSet, iZero, iJump, jumpF, twoF, popF, pushF, passF, rd, hk]
  · have h' : ¬ s < 2000 := h
    rw [if_neg h, if_neg h']
theorem loop_s1 (C : Cd) (k m s : Int) : stepF C (loopB k) (lF m [k] 1 s) = if s < 2000 then .go (lF k [] 2 (s + 1)) else .err 11 := by
  unfold stepF
  by_cases h : (lF m [k] 1 s).spent < 2000
  · have h' : s < 2000 := h
    rw [if_pos h, if_pos h', if_pos (by show (1 : Int) < 11; decide)]
    simp [loopB, loopL, lF, insI, rd_T53, iPush, iLocal, iSet, iZero, iJump, jumpF, twoF, popF, pushF, passF, rd]
  · have h' : ¬ s < 2000 := h
    rw [if_neg h, if_neg h']
theorem loop_s2 (C : Cd) (k m s : Int) : stepF C (loopB k) (lF m [] 2 s) = if s < 2000 then .go (lF m [m] 3 (s + 1)) else .err 11 := by
  unfold stepF
  by_cases h : (lF m [] 2 s).spent < 2000
  · have h' : s < 2000 := h
    rw [if_pos h, if_pos h', if_pos (by show (2 : Int) < 11; decide)]
    simp [loopB, loopL, lF, insI, rd_T53, iPush, iLocal, iSet, iZero, iJump, jumpF, twoF, popF, pushF, passF, rd]
  · have h' : ¬ s < 2000 := h
    rw [if_neg h, if_neg h']
theorem loop_s3z (C : Cd) (k m s : Int) : stepF C (loopB k) (lF m [0] 3 s) = if s < 2000 then .go (lF m [] 9 (s + 1)) else .err 11 := by
  unfold stepF
  by_cases h : (lF m [0] 3 s).spent < 2000
  · have h' : s < 2000 := h
    rw [if_pos h, if_pos h', if_pos (by show (3 : Int) < 11; decide)]
    simp [loopB, loopL, lF, insI, rd_T53, iPush, iLocal, iSet, iZero, iJump, jumpF, twoF, popF, pushF, passF, rd]
  · have h' : ¬ s < 2000 := h
    rw [if_neg h, if_neg h']
theorem loop_s3 (C : Cd) (k m s : Int) (hm : m ≠ 0) : stepF C (loopB k) (lF m [m] 3 s) = if s < 2000 then .go (lF m [] 4 (s + 1)) else .err 11 := by
  unfold stepF
  by_cases h : (lF m [m] 3 s).spent < 2000
  · have h' : s < 2000 := h
    rw [if_pos h, if_pos h', if_pos (by show (3 : Int) < 11; decide)]
    simp [loopB, loopL, lF, insI, rd_T53, iPush, iLocal, iSet, iZero, iJump, jumpF, twoF, popF, pushF, passF, rd, hm]
  · have h' : ¬ s < 2000 := h
    rw [if_neg h, if_neg h']
theorem loop_s4 (C : Cd) (k m s : Int) : stepF C (loopB k) (lF m [] 4 s) = if s < 2000 then .go (lF m [m] 5 (s + 1)) else .err 11 := by
  unfold stepF
  by_cases h : (lF m [] 4 s).spent < 2000
  · have h' : s < 2000 := h
    rw [if_pos h, if_pos h', if_pos (by show (4 : Int) < 11; decide)]
    simp [loopB, loopL, lF, insI, rd_T53, iPush, iLocal, iSet, iZero, iJump, jumpF, twoF, popF, pushF, passF, rd]
  · have h' : ¬ s < 2000 := h
    rw [if_neg h, if_neg h']
theorem loop_s5 (C : Cd) (k m s : Int) : stepF C (loopB k) (lF m [m] 5 s) = if s < 2000 then .go (lF m [m, 1] 6 (s + 1)) else .err 11 := by
  unfold stepF
  by_cases h : (lF m [m] 5 s).spent < 2000
  · have h' : s < 2000 := h
    rw [if_pos h, if_pos h', if_pos (by show (5 : Int) < 11; decide)]
    simp [loopB, loopL, lF, insI, rd_T53, iPush, iLocal, iSet, iZero, iJump, jumpF, twoF, popF, pushF, passF, rd, isV]
  · have h' : ¬ s < 2000 := h
    rw [if_neg h, if_neg h']
theorem loop_s6 (C : Cd) (k m s : Int) : stepF C (loopB k) (lF m [m, 1] 6 s) = if s < 2000 then .go (lF m [rnd (m - 1)] 7 (s + 1)) else .err 11 := by
  unfold stepF
  by_cases h : (lF m [m, 1] 6 s).spent < 2000
  · have h' : s < 2000 := h
    rw [if_pos h, if_pos h', if_pos (by show (6 : Int) < 11; decide)]
    simp [loopB, loopL, lF, insI, rd_T53, iPush, iLocal, iSet, iZero, iJump, jumpF, twoF, popF, pushF, passF, rd]
  · have h' : ¬ s < 2000 := h
    rw [if_neg h, if_neg h']
theorem loop_s7 (C : Cd) (k m s : Int) : stepF C (loopB k) (lF m [k] 7 s) = if s < 2000 then .go (lF k [] 8 (s + 1)) else .err 11 := by
  unfold stepF
  by_cases h : (lF m [k] 7 s).spent < 2000
  · have h' : s < 2000 := h
    rw [if_pos h, if_pos h', if_pos (by show (7 : Int) < 11; decide)]
    simp [loopB, loopL, lF, insI, rd_T53, iPush, iLocal, iSet, iZero, iJump, jumpF, twoF, popF, pushF, passF, rd]
  · have h' : ¬ s < 2000 := h
    rw [if_neg h, if_neg h']
theorem loop_s8 (C : Cd) (k m s : Int) : stepF C (loopB k) (lF m [] 8 s) = if s < 2000 then .go (lF m [] 2 (s + 1)) else .err 11 := by
  unfold stepF
  by_cases h : (lF m [] 8 s).spent < 2000
  · have h' : s < 2000 := h
    rw [if_pos h, if_pos h', if_pos (by show (8 : Int) < 11; decide)]
    simp [loopB, loopL, lF, insI, rd_T53, iPush, iLocal, iSet, iZero, iJump, jumpF, twoF, popF, pushF, passF, rd]
  · have h' : ¬ s < 2000 := h
    rw [if_neg h, if_neg h']
theorem loop_s9 (C : Cd) (k m s : Int) : stepF C (loopB k) (lF m [] 9 s) = if s < 2000 then .go (lF m [5] 10 (s + 1)) else .err 11 := by
  unfold stepF
  by_cases h : (lF m [] 9 s).spent < 2000
  · have h' : s < 2000 := h
    rw [if_pos h, if_pos h', if_pos (by show (9 : Int) < 11; decide)]
    simp [loopB, loopL, lF, insI, rd_T53, iPush, iLocal, iSet, iZero, iJump, jumpF, twoF, popF, pushF, passF, rd, isV]
  · have h' : ¬ s < 2000 := h
    rw [if_neg h, if_neg h']
theorem loop_s10 (C : Cd) (k m s : Int) : stepF C (loopB k) (lF m [5] 10 s) = if s < 2000 then .ask (lF m [] 11 (s + 1)) { noAk with kind := 6, a := 5 } else .err 11 := by
  unfold stepF
  by_cases h : (lF m [5] 10 s).spent < 2000
  · have h' : s < 2000 := h
    rw [if_pos h, if_pos h', if_pos (by show (10 : Int) < 11; decide)]
    simp [loopB, loopL, lF, insI, rd_T53, iReturn, popF, passF]
  · have h' : ¬ s < 2000 := h
    rw [if_neg h, if_neg h']

theorem next_step {C : Cd} {B : S65} {F F' : Fr} {n : Nat} {s : Int} {R : St} (h : stepF C B F = if s < 2000 then .go F' else .err 11) (h1 : s < 2000 → nextF C B n F' = R) (h2 : ¬ s < 2000 → R = .err 11) : nextF C B (n + 1) F = R := by
  by_cases c : s < 2000
  · rw [if_pos c] at h; rw [next_go h, h1 c]
  · rw [if_neg c] at h; rw [next_err h, h2 c]

def loopR (m : Nat) (s : Int) : St := if s + 7 * m + 4 ≤ 2000 then .ask (lF 0 [] 11 (s + 7 * m + 4)) { noAk with kind := 6, a := 5 } else .err 11
theorem loopR_err {m : Nat} {s t : Int} (h1 : ¬ t < 2000) (h2 : t ≤ s + 7 * m + 3) : loopR m s = .err 11 := if_neg (by omega)

theorem loop_run (C : Cd) (k : Int) : ∀ (m : Nat), m < 1000 → ∀ (s : Int) (n : Nat), (2001 : Int) ≤ n + s → s ≤ 2000 → nextF C (loopB k) n (lF m [] 2 s) = loopR m s := by
  intro m
  induction m with
  | zero =>
    intro _ s n hn hs
    obtain ⟨n, rfl⟩ : ∃ x, n = x + 1 := ⟨n - 1, by omega⟩
    refine next_step (loop_s2 C k 0 s) (fun h => ?_) (fun h => loopR_err h (by omega))
    obtain ⟨n, rfl⟩ : ∃ x, n = x + 1 := ⟨n - 1, by omega⟩
    refine next_step (loop_s3z C k 0 (s + 1)) (fun h => ?_) (fun h => loopR_err h (by omega))
    obtain ⟨n, rfl⟩ : ∃ x, n = x + 1 := ⟨n - 1, by omega⟩
    refine next_step (loop_s9 C k 0 (s + 1 + 1)) (fun h => ?_) (fun h => loopR_err h (by omega))
    obtain ⟨n, rfl⟩ : ∃ x, n = x + 1 := ⟨n - 1, by omega⟩
    have hl := loop_s10 C k 0 (s + 1 + 1 + 1)
    by_cases c : s + 1 + 1 + 1 < 2000
    · rw [if_pos c] at hl
      rw [next_ask hl]
      unfold loopR
      rw [if_pos (by omega)]
      congr 2
      omega
    · rw [if_neg c] at hl
      rw [next_err hl]
      exact (loopR_err c (by omega)).symm
  | succ m ih =>
    intro hm s n hn hs
    have hr : rnd (((m + 1 : Nat) : Int) - 1) = (m : Int) := by unfold rnd; omega
    obtain ⟨n, rfl⟩ : ∃ x, n = x + 1 := ⟨n - 1, by omega⟩
    refine next_step (loop_s2 C k _ s) (fun h => ?_) (fun h => loopR_err h (by omega))
    obtain ⟨n, rfl⟩ : ∃ x, n = x + 1 := ⟨n - 1, by omega⟩
    refine next_step (loop_s3 C k _ (s + 1) (by omega)) (fun h => ?_) (fun h => loopR_err h (by omega))
    obtain ⟨n, rfl⟩ : ∃ x, n = x + 1 := ⟨n - 1, by omega⟩
    refine next_step (loop_s4 C k _ (s + 1 + 1)) (fun h => ?_) (fun h => loopR_err h (by omega))
    obtain ⟨n, rfl⟩ : ∃ x, n = x + 1 := ⟨n - 1, by omega⟩
    refine next_step (loop_s5 C k _ (s + 1 + 1 + 1)) (fun h => ?_) (fun h => loopR_err h (by omega))
    obtain ⟨n, rfl⟩ : ∃ x, n = x + 1 := ⟨n - 1, by omega⟩
    refine next_step (loop_s6 C k _ (s + 1 + 1 + 1 + 1)) (fun h => ?_) (fun h => loopR_err h (by omega))
    rw [hr]
    obtain ⟨n, rfl⟩ : ∃ x, n = x + 1 := ⟨n - 1, by omega⟩
    have h7 := loop_s7 C (m : Int) ((m + 1 : Nat) : Int) (s + 1 + 1 + 1 + 1 + 1)
    have e7 : stepF C (loopB k) (lF ((m + 1 : Nat) : Int) [(m : Int)] 7 (s + 1 + 1 + 1 + 1 + 1)) = stepF C (loopB (m : Int)) (lF ((m + 1 : Nat) : Int) [(m : Int)] 7 (s + 1 + 1 + 1 + 1 + 1)) := by
      have q : ∀ j, rd_T53 (loopB j).f2 7 = ⟨3, 0, 0, 0⟩ := fun j => rfl
      unfold stepF
      rw [show (lF ((m + 1 : Nat) : Int) [(m : Int)] 7 (s + 1 + 1 + 1 + 1 + 1)).pc = 7 from rfl, q, q]
      rfl
    refine next_step (e7.trans h7) (fun h => ?_) (fun h => loopR_err h (by omega))
    obtain ⟨n, rfl⟩ : ∃ x, n = x + 1 := ⟨n - 1, by omega⟩
    refine next_step (loop_s8 C k _ (s + 1 + 1 + 1 + 1 + 1 + 1)) (fun h => ?_) (fun h => loopR_err h (by omega))
    rw [ih (by omega) _ _ (by omega) (by omega)]
    unfold loopR
    by_cases c : s + 7 * ((m + 1 : Nat) : Int) + 4 ≤ 2000
    · rw [if_pos c, if_pos (by omega)]
      congr 2
      omega
    · rw [if_neg c, if_neg (by omega)]

theorem loop_next (m : Nat) (hm : m < 1000) : nextF (plainC (loopL m) 1) (rd_T65 (plainC (loopL m) 1).funs (lF 0 [] 0 0).fn) 2001 (lF 0 [] 0 0) = loopR m 2 := by
  have h : rd_T65 (plainC (loopL m) 1).funs (lF 0 [] 0 0).fn = loopB m := rfl
  rw [h]
  have hv : isV (m : Int) = true := by rw [isV_iff]; omega
  have s0 := loop_s0 (plainC (loopL m) 1) m 0 0 hv
  have s1 := loop_s1 (plainC (loopL m) 1) m 0 (0 + 1)
  rw [if_pos (by decide)] at s0 s1
  rw [next_go s0, next_go s1]
  exact loop_run _ _ m hm _ _ (by decide) (by decide)
theorem loop_start (k : Int) : startF (plainC (loopL k) 1) 0 [] 1 [] = (lF 0 [] 0 0, 0) := by rfl
theorem loop_right (k : Int) : rightB (plainC (loopL k) 1) (lF 0 [] 0 0) = true := by rfl

end Go.Proofs.YtfcgjadfhojogaaDoor.Vm
