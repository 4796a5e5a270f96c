/- What an argument that reads as data holds: rows and structs of whole numbers. -/
import Derived.Test.YtfcgjadfhojogaaDoorVmW
import Derived.Test.YtfcgjadfhojogaaDoorRows
import Derived.ProofKit
import Derived.OpenShut
import Derived.DataReads
import Derived.DataElems
import Derived.Below
namespace Go.Proofs.YtfcgjadfhojogaaDoor.Vm
open Go.RowKit Go.ChangeShapes Go.WideShapes Go.Proofs.YtfcgjadfhojogaaDoorW.PrintWords Go.Proofs.YtfcgjadfhojogaaDoorW.PrintLast Go.Proofs.YtfcgjadfhojogaaDoorW.PrintMore Go.Proofs.YtfcgjadfhojogaaDoor.PVmStarts
set_option linter.unusedVariables false
set_option linter.unusedSimpArgs false

theorem laidOut : laidOutB Tryd.prog = true := by kernel_rfl

/-- Values of type t, where they read as data, hold what d says; and wf of it. -/
def Opens {α : Type} (d : Kd α) (wf : α → Prop) (t : TypeId) : Prop :=
  ∀ {H : Type} (enc : TypeId × Value → H) (W : World) (base : Nat) (sp : Nat → Bool) (held : Bool) (fuel : Nat) (cs : List Value) (x : DataW H × List MemPlace), DataW.trod enc Tryd.prog W base sp held fuel t cs = some x → ∃ a, d.K W a cs ∧ wf a

theorem opens_int {t : TypeId} {k : IntKind} (ht : Tryd.prog.underlying t = some (.int k)) : Opens (Kd.int k) (fun n => (Lit.int k n).wf = true) t := by
  intro H enc W base sp held fuel cs x h
  obtain ⟨n, rfl, _, hw⟩ := DataW.trod_int ht h
  exact ⟨n, rfl, hw⟩

theorem many_of {α : Type} {R : Nat → α → Prop} : ∀ (n : Nat), (∀ i, i < n → ∃ a, R i a) → ∃ l : List α, l.length = n ∧ ∀ i a, l[i]? = some a → R i a
  | 0, _ => ⟨[], rfl, fun i a h => by simp at h⟩
  | n + 1, h => by
    obtain ⟨l, hl, hr⟩ := many_of n (fun i hi => h i (by omega))
    obtain ⟨a, ha⟩ := h n (by omega)
    refine ⟨l ++ [a], by simp [hl], fun i b hb => ?_⟩
    rcases Nat.lt_or_ge i l.length with hi | hi
    · rw [List.getElem?_append_left hi] at hb
      exact hr i b hb
    · rw [List.getElem?_append_right hi] at hb
      have : i - l.length = 0 := by
        rcases Nat.eq_zero_or_pos (i - l.length) with h0 | h0
        · exact h0
        · rw [List.getElem?_eq_none (by simp; omega)] at hb
          cases hb
      rw [this] at hb
      simp at hb
      subst hb
      rw [show i = n from by omega]
      exact ha

theorem opens_slice {α : Type} {d : Kd α} {wf : α → Prop} {t e : TypeId} (he : Opens d wf e) (ht : Tryd.prog.underlying t = some (.slice e)) (hsz : Tryd.prog.cellsOf e = d.sz) : Opens (Kd.slice e d) (fun l => ∀ x, x ∈ l → wf x) t := by
  intro H enc W base sp held fuel cs x h
  rcases DataW.trod_slice ht h with ⟨rfl, _⟩ | ⟨a, len, cap, elems, rest, n, _, rfl, _, hb, hl, hm, hlen, hel, _, _⟩
  · exact ⟨[], ⟨none, 0, rfl, Nat.le_refl _, Kd.C_nil _ _⟩, fun x hx => by cases hx⟩
  · rw [hsz] at hel
    obtain ⟨l, hl1, hl2⟩ := many_of (R := fun i p => ∃ cs, W.cells? base (a.add (i * d.sz)) d.sz = some cs ∧ d.K W p cs ∧ wf p) len (fun i hi => by
      have h1 := hel i hi
      rw [List.getElem?_eq_getElem (by omega)] at h1
      obtain ⟨cs, hc1, hc2⟩ := Option.bind_eq_some_iff.1 h1
      obtain ⟨p, hp1, hp2⟩ := he enc W base sp held n cs _ hc2
      exact ⟨p, cs, hc1, hp1, hp2⟩)
    refine ⟨l, ⟨some a, cap, by rw [hl1], by omega, hl1.trans (by rw [hl1]), ?_, fun hpos => ⟨a, rfl, fun j p hj => ?_⟩⟩, fun x hx => ?_⟩
    · have : maxLen ≤ 9223372036854775807 := by decide
      omega
    · obtain ⟨cs, hc1, hk, _⟩ := hl2 j p hj
      refine ⟨cs, d.K_len hk, hk, fun i u hu => ?_⟩
      obtain ⟨_, _, hc⟩ := World.cells?_some hc1
      have hi : i < d.sz := by
        rw [← d.K_len hk]
        exact (List.getElem?_eq_some_iff.1 hu).1
      have hci := hc i hi
      rw [hu] at hci
      have : a.add (j * d.sz + i) = (a.add (j * d.sz)).add i := (Addr.add_add a (j * d.sz) i).symm
      rw [this]
      exact hci
    · obtain ⟨i, hi, rfl⟩ := List.getElem_of_mem hx
      exact (hl2 i l[i] (List.getElem?_eq_getElem hi)).choose_spec.2.2

theorem cut_one {cs : List Value} {i : Nat} {v : Value} (h : (cs.drop i).take 1 = [v]) : cs[i]? = some v := by
  rw [← List.head?_drop]
  cases hd : cs.drop i with
  | nil => rw [hd] at h; simp at h
  | cons a r => rw [hd] at h; simp at h; simp [h]
theorem list_two {cs : List Value} {a b : Value} (hl : cs.length = 2) (h0 : cs[0]? = some a) (h1 : cs[1]? = some b) : cs = [a, b] := by
  match cs, hl with
  | [x, y], _ => simp at h0 h1; subst h0 h1; rfl
theorem list_three {cs : List Value} {a b c : Value} (hl : cs.length = 3) (h0 : cs[0]? = some a) (h1 : cs[1]? = some b) (h2 : cs[2]? = some c) : cs = [a, b, c] := by
  match cs, hl with
  | [x, y, z], _ => simp at h0 h1 h2; subst h0 h1 h2; rfl
theorem list_four {cs : List Value} {a b c d : Value} (hl : cs.length = 4) (h0 : cs[0]? = some a) (h1 : cs[1]? = some b) (h2 : cs[2]? = some c) (h3 : cs[3]? = some d) : cs = [a, b, c, d] := by
  match cs, hl with
  | [x, y, z, u], _ => simp at h0 h1 h2 h3; subst h0 h1 h2 h3; rfl

/-- A field of a struct. -/
theorem field_of {α : Type} {d : Kd α} {wf : α → Prop} {H : Type} {enc : TypeId × Value → H} {W : World} {base : Nat} {sp : Nat → Bool} {held : Bool} {n : Nat} {cs : List Value} {xs : List (DataW H × List MemPlace)} {fs : Array Field} {i : Nat} {t : TypeId}
    (he : Opens d wf t) (hf : ∀ (i : Nat) (f : Field), fs[i]? = some f → DataW.trod enc Tryd.prog W base sp held n f.type ((cs.drop f.offset).take (Tryd.prog.cellsOf f.type)) = xs[i]?) (hx : xs.length = fs.size) (f : Field) (hi : fs[i]? = some f) (ht : f.type = t) :
    ∃ a, d.K W a ((cs.drop f.offset).take (Tryd.prog.cellsOf t)) ∧ wf a := by
  subst ht
  have h1 := hf i f hi
  have hlt : i < xs.length := by
    rw [hx]
    exact (Array.getElem?_eq_some_iff.1 hi).1
  rw [List.getElem?_eq_getElem hlt] at h1
  exact he enc W base sp held n _ _ h1

def i64ok (n : Int) : Prop := (Lit.int .i64 n).wf = true
theorem opens_i64 : Opens (Kd.int .i64) i64ok 3 := opens_int Tryd.underlying3
theorem cI : Tryd.prog.cellsOf 3 = 1 := by kernel_rfl

theorem opens_ins : Opens k53 (fun i => i64ok i.f0 ∧ i64ok i.f1 ∧ i64ok i.f2 ∧ i64ok i.f3) 53 := by
  intro H enc W base sp held fuel cs x h
  obtain ⟨xs, n, _, _, hl, hx, hf⟩ := DataW.trod_struct Tryd.underlying53 h
  rw [show Tryd.prog.cellsOf 53 = 4 by kernel_rfl] at hl
  obtain ⟨a0, h0, w0⟩ := field_of opens_i64 hf hx (i := 0) _ rfl rfl
  obtain ⟨a1, h1, w1⟩ := field_of opens_i64 hf hx (i := 1) _ rfl rfl
  obtain ⟨a2, h2, w2⟩ := field_of opens_i64 hf hx (i := 2) _ rfl rfl
  obtain ⟨a3, h3, w3⟩ := field_of opens_i64 hf hx (i := 3) _ rfl rfl
  rw [cI] at h0 h1 h2 h3
  have e := list_four hl (cut_one h0) (cut_one h1) (cut_one h2) (cut_one h3)
  exact ⟨⟨a0, a1, a2, a3⟩, e ▸ k53_mk W ⟨a0, a1, a2, a3⟩, w0, w1, w2, w3⟩

theorem opens_kid : Opens k74 (fun i => i64ok i.f0 ∧ i64ok i.f1) 74 := by
  intro H enc W base sp held fuel cs x h
  obtain ⟨xs, n, _, _, hl, hx, hf⟩ := DataW.trod_struct Tryd.underlying74 h
  rw [show Tryd.prog.cellsOf 74 = 2 by kernel_rfl] at hl
  obtain ⟨a0, h0, w0⟩ := field_of opens_i64 hf hx (i := 0) _ rfl rfl
  obtain ⟨a1, h1, w1⟩ := field_of opens_i64 hf hx (i := 1) _ rfl rfl
  rw [cI] at h0 h1
  have e := list_two hl (cut_one h0) (cut_one h1)
  exact ⟨⟨a0, a1⟩, e ▸ k74_mk W ⟨a0, a1⟩, w0, w1⟩

theorem opens_inss : Opens (Kd.slice 53 k53) (fun l => ∀ x, x ∈ l → i64ok x.f0 ∧ i64ok x.f1 ∧ i64ok x.f2 ∧ i64ok x.f3) 54 := opens_slice opens_ins Tryd.underlying54 (by kernel_rfl)
theorem opens_kids : Opens (Kd.slice 74 k74) (fun l => ∀ x, x ∈ l → i64ok x.f0 ∧ i64ok x.f1) 31 := opens_slice opens_kid Tryd.underlying31 (by kernel_rfl)
theorem opens_ints : Opens (Kd.slice 3 (Kd.int .i64)) (fun l => ∀ x, x ∈ l → i64ok x) 23 := opens_slice opens_i64 Tryd.underlying23 (by kernel_rfl)

theorem opens_body : Opens k65 (fun b => i64ok b.f0 ∧ i64ok b.f1 ∧ ∀ x, x ∈ b.f2 → i64ok x.f0 ∧ i64ok x.f1 ∧ i64ok x.f2 ∧ i64ok x.f3) 65 := by
  intro H enc W base sp held fuel cs x h
  obtain ⟨xs, n, _, _, hl, hx, hf⟩ := DataW.trod_struct Tryd.underlying65 h
  rw [show Tryd.prog.cellsOf 65 = 3 by kernel_rfl] at hl
  obtain ⟨a0, h0, w0⟩ := field_of opens_i64 hf hx (i := 0) _ rfl rfl
  obtain ⟨a1, h1, w1⟩ := field_of opens_i64 hf hx (i := 1) _ rfl rfl
  obtain ⟨a2, h2, w2⟩ := field_of opens_inss hf hx (i := 2) _ rfl rfl
  rw [cI] at h0 h1
  rw [show Tryd.prog.cellsOf 54 = 1 by kernel_rfl] at h2
  obtain ⟨A, c, hA, hc, hC⟩ := h2
  have e := list_three hl (cut_one h0) (cut_one h1) (cut_one hA)
  exact ⟨⟨a0, a1, a2⟩, e ▸ k65_mk W ⟨a0, a1, a2⟩ hc hC, w0, w1, w2⟩
theorem opens_bodies : Opens (Kd.slice 65 k65) (fun l => ∀ b, b ∈ l → i64ok b.f0 ∧ i64ok b.f1 ∧ ∀ x, x ∈ b.f2 → i64ok x.f0 ∧ i64ok x.f1 ∧ i64ok x.f2 ∧ i64ok x.f3) 22 := opens_slice opens_body Tryd.underlying22 (by kernel_rfl)

end Go.Proofs.YtfcgjadfhojogaaDoor.Vm
