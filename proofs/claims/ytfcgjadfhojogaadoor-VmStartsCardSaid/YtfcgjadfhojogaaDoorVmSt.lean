/- Values, keys, small codes, and the document's Start: what their printed functions come to. -/
import Derived.Test.YtfcgjadfhojogaaDoorVmW
namespace Go.Proofs.YtfcgjadfhojogaaDoor.Vm
open Go.RowKit Go.Proofs.YtfcgjadfhojogaaDoorW.PrintWords Go.Proofs.YtfcgjadfhojogaaDoorW.PrintLast Go.Proofs.YtfcgjadfhojogaaDoorW.PrintMore Go.Proofs.YtfcgjadfhojogaaDoor.PVmStarts
set_option linter.unusedVariables false
set_option linter.unusedSimpArgs false

def tells (kind : Int) : Bool := kind == 1 || kind == 5 || kind == 7
/-- What an operation leaves on the stack. -/
def valI (kind val : Int) (is : Bool) : Int := if is = true then (if tells kind = true then rnd (rnd val + 1) else 1) else 0
theorem isV_valI (kind val : Int) (is : Bool) : isV (valI kind val is) = true := by
  unfold valI
  split
  · split
    · exact rnd_isV _
    · decide
  · decide

theorem rnd_lt (n : Int) : 0 ≤ rnd n ∧ rnd n < 4294967296 := by unfold rnd; omega
theorem wrap1 (n : Int) : wrap64 (rnd n + 1) = rnd n + 1 := by have := rnd_lt n; unfold wrap64; omega
theorem tmod1 (n : Int) : Int.tmod (rnd n + 1) 4294967296 = rnd (rnd n + 1) := by
  have := rnd_lt n
  rw [Int.tmod_eq_emod_of_nonneg (by omega)]
  rfl
theorem round_f (n : Int) (h1 : -9223372036854775808 ≤ n) (h2 : n ≤ 9223372036854775807) : vm_round.f n = some (rnd n) := by unfold vm_round.f; rw [rnd_eq n h1 h2]
theorem value_j (val : Int) (is b : Bool) (k : Nat) (h1 : -9223372036854775808 ≤ val) (h2 : val ≤ 9223372036854775807) : vm_Value.j0 (k + 1) val is b = some (if is = true then (if b = true then rnd (rnd val + 1) else 1) else 0) := by
  rw [vm_Value.j0]
  cases b
  · rw [if_neg (by simp)]
    cases is <;> rfl
  · rw [if_pos rfl, round_f val h1 h2]
    have hr := rnd_lt (rnd val + 1)
    cases is
    · simp only [vm_bit.f, Option.bind_some, if_neg (show ¬ (false = true) by simp), Int.zero_mul]
      rw [show wrap64 0 = 0 from by unfold wrap64; omega]
    · simp only [vm_bit.f, Option.bind_some, if_true, Int.one_mul]
      rw [wrap1, tmod1]
      congr 1
      unfold wrap64
      omega
theorem value_f (kind obj a b val : Int) (is : Bool) (h1 : -9223372036854775808 ≤ val) (h2 : val ≤ 9223372036854775807) : vm_Value.f 1 kind obj a b val is = some (valI kind val is) := by
  unfold vm_Value.f valI tells
  by_cases c1 : kind = 1
  · subst c1; rw [if_pos rfl, value_j _ _ _ _ h1 h2]; rfl
  · rw [if_neg c1]
    by_cases c5 : kind = 5
    · subst c5; rw [if_pos rfl, value_j _ _ _ _ h1 h2]; rfl
    · rw [if_neg c5, value_j _ _ _ _ h1 h2]
      have e1 : (kind == 1) = false := by simpa using c1
      have e5 : (kind == 5) = false := by simpa using c5
      rw [e1, e5]
      rfl
theorem value_call (kind obj a b val : Int) (is : Bool) (w : World) (h1 : -9223372036854775808 ≤ val) (h2 : val ≤ 9223372036854775807) :
    Calls Tryd.prog 18 #[.agg #[.int .i64 kind, .int .i64 obj, .int .i64 a, .int .i64 b], .int .i64 val, .bool is] w fun e w' => e = .returned (.int .i64 (valI kind val is)) ∧ Below w.heap.size w w' :=
  (vm_Value.calls 1 kind obj a b val is _ w (value_f kind obj a b val is h1 h2)).mono fun _ _ h => h

theorem wrap_f (n : Int) (h1 : -9223372036854775808 ≤ n) (h2 : n ≤ 9223372036854775807) : underwoodref08_wrap.f n = some (rnd n) := by
  unfold underwoodref08_wrap.f
  have h3 := Int.mul_tdiv_add_tmod n 4294967296
  have h4 := Int.tmod_lt_of_pos n (show (0 : Int) < 4294967296 by omega)
  have h5 := Int.lt_tmod_of_pos n (show (0 : Int) < 4294967296 by omega)
  generalize Int.tmod n 4294967296 = t at *
  generalize Int.tdiv n 4294967296 = q at *
  by_cases c : t < 0
  · rw [if_pos c]
    congr 1
    unfold wrap64 rnd
    omega
  · rw [if_neg c]
    congr 1
    unfold rnd
    omega
theorem refvalue_j (val : Int) (b : Bool) (k : Nat) (h1 : -9223372036854775808 ≤ val) (h2 : val ≤ 9223372036854775807) : underwoodref08_Value.j0 (k + 1) val b = some (if b = true then rnd (rnd val + 1) else 1) := by
  rw [underwoodref08_Value.j0]
  cases b
  · rfl
  · rw [if_pos rfl, wrap_f val h1 h2]
    have hr := rnd_lt val
    simp only [Option.bind_some]
    rw [wrap1, wrap_f _ (by omega) (by omega)]
    rfl
theorem refvalue_f (kind obj a b val : Int) (is : Bool) (h1 : -9223372036854775808 ≤ val) (h2 : val ≤ 9223372036854775807) : underwoodref08_Value.f 1 kind obj a b val is = some (valI kind val is) := by
  unfold underwoodref08_Value.f valI tells
  cases is
  · rfl
  · rw [if_pos rfl, if_pos rfl]
    by_cases c1 : kind = 1
    · subst c1; rw [if_pos rfl, refvalue_j _ _ _ h1 h2]; rfl
    · rw [if_neg c1]
      by_cases c5 : kind = 5
      · subst c5; rw [if_pos rfl, refvalue_j _ _ _ h1 h2]; rfl
      · rw [if_neg c5, refvalue_j _ _ _ h1 h2]
        have e1 : (kind == 1) = false := by simpa using c1
        have e5 : (kind == 5) = false := by simpa using c5
        rw [e1, e5]
        rfl
theorem refvalue_call (kind obj a b val : Int) (is : Bool) (w : World) (h1 : -9223372036854775808 ≤ val) (h2 : val ≤ 9223372036854775807) :
    Calls Tryd.prog 19 #[.agg #[.int .i64 kind, .int .i64 obj, .int .i64 a, .int .i64 b], .int .i64 val, .bool is] w fun e w' => e = .returned (.int .i64 (valI kind val is)) ∧ Below w.heap.size w w' :=
  (underwoodref08_Value.calls 1 kind obj a b val is _ w (refvalue_f kind obj a b val is h1 h2)).mono fun _ _ h => h
theorem refkey_call (n : Int) (w : World) (h1 : -9223372036854775808 ≤ n) (h2 : n ≤ 9223372036854775807) :
    Calls Tryd.prog 17 #[.int .i64 n] w fun e w' => e = .returned (.int .i64 (keyI n)) ∧ Drawn0 w w' := by
  refine underwoodref08_Key.calls n _ w ?_
  unfold underwoodref08_Key.f keyI
  have h3 := Int.mul_tdiv_add_tmod n 65536
  have h4 := Int.tmod_lt_of_pos n (show (0 : Int) < 65536 by omega)
  have h5 := Int.lt_tmod_of_pos n (show (0 : Int) < 65536 by omega)
  generalize Int.tmod n 65536 = t at *
  generalize Int.tdiv n 65536 = q at *
  by_cases c : t < 0
  · rw [if_pos c]
    congr 1
    unfold wrap64
    omega
  · rw [if_neg c]
    congr 1
    omega

/-! #### small codes and frames -/
def smallF (b : S65) : Bool := !(decide ((b.f2.length : Int) > 500) || decide (b.f1 > 200))
def smallB (C : Cd) (F : Fr) : Bool := !(decide (20 < C.funs.length) || decide (40 < C.cells.length) || decide (100 < F.loc.length) || decide (120 < F.stk.length) || decide (60 < F.kids.length) || decide (60 < F.path.length)) && C.funs.all smallF
theorem small_l (l : List S65) (x1 : List Int) (x2 x3 x4 x5 : Int) (hl : l.length < 1000000) : ∀ (d : Nat) (k i : Nat), i + d = l.length → d < k → underwoodref08_Small.l0 k (i : Int) l x1 x2 x3 x4 x5 = some ((l.drop i).all smallF) := by
  intro d
  induction d with
  | zero =>
    intro k i h hk
    obtain ⟨k, rfl⟩ : ∃ m, k = m + 1 := ⟨k - 1, by omega⟩
    simp only [underwoodref08_Small.l0]
    rw [if_neg (by omega), List.drop_of_length_le (by omega)]
    rfl
  | succ d ih =>
    intro k i h hk
    obtain ⟨k, rfl⟩ : ∃ m, k = m + 1 := ⟨k - 1, by omega⟩
    simp only [underwoodref08_Small.l0]
    have hi : i < l.length := by omega
    have hx : rd_T65 l (i : Int) = l[i] := by simp [rd_T65, List.getD_eq_getElem?_getD, List.getElem?_eq_getElem hi]
    rw [if_pos (by omega), if_pos (by omega), hx, List.drop_eq_getElem_cons hi, List.all_cons]
    by_cases c1 : ((l[i].f2.length : Int) > 500)
    · rw [if_pos c1]
      simp [smallF, c1]
    · rw [if_neg c1]
      by_cases c2 : l[i].f1 > 200
      · rw [if_pos c2]
        simp [smallF, c2]
      · rw [if_neg c2, show wrap64 ((i : Int) + 1) = ((i + 1 : Nat) : Int) from by unfold wrap64; omega, ih k (i + 1) (by omega) (by omega)]
        have : smallF l[i] = true := by simp only [smallF, decide_eq_false c1, decide_eq_false c2]; rfl
        rw [this, Bool.true_and]
theorem small_f (C : Cd) (F : Fr) : underwoodref08_Small.f 23 C.funs C.cells C.maps C.stacks C.chans C.main F.task F.path F.fn F.pc F.loc F.stk F.kids F.many F.spent F.fail = some (smallB C F) := by
  have J : ∀ b : Bool, underwoodref08_Small.j0 23 true C.funs C.cells C.maps C.stacks C.chans C.main = some false := fun _ => by rw [underwoodref08_Small.j0, if_pos rfl]
  unfold underwoodref08_Small.f smallB
  by_cases c1 : 20 < C.funs.length
  · rw [if_pos (by omega), J true, decide_eq_true c1]; rfl
  by_cases c2 : 40 < C.cells.length
  · rw [if_neg (by omega), if_pos (by omega), J true, decide_eq_true c2]; simp
  by_cases c3 : 100 < F.loc.length
  · rw [if_neg (by omega), if_neg (by omega), if_pos (by omega), J true, decide_eq_true c3]; simp
  by_cases c4 : 120 < F.stk.length
  · rw [if_neg (by omega), if_neg (by omega), if_neg (by omega), if_pos (by omega), J true, decide_eq_true c4]; simp
  by_cases c5 : 60 < F.kids.length
  · rw [if_neg (by omega), if_neg (by omega), if_neg (by omega), if_neg (by omega), if_pos (by omega), J true, decide_eq_true c5]; simp
  rw [if_neg (by omega), if_neg (by omega), if_neg (by omega), if_neg (by omega), if_neg (by omega), decide_eq_false c1, decide_eq_false c2, decide_eq_false c3, decide_eq_false c4, decide_eq_false c5, underwoodref08_Small.j0]
  by_cases c6 : 60 < F.path.length
  · rw [decide_eq_true c6, if_pos (by simp; omega)]; rfl
  · rw [decide_eq_false c6, if_neg (by simp; omega)]
    have := small_l C.funs C.cells C.maps C.stacks C.chans C.main (by omega) C.funs.length 22 0 (by omega) (by omega)
    rw [List.drop_zero] at this
    exact this
theorem small_call {C : Cd} {F : Fr} {vc vf : Value} {w : World} (hC : CdAt w C vc) (hF : FrAt w F vf) :
    Calls Tryd.prog 11 #[vc, vf] w (Bool1 (smallB C F) w) := by
  obtain ⟨Af, cf, Ac, cc, rfl, l1, r1, l2, r2⟩ := hC
  obtain ⟨a, b, c, d, e, f, g, i, rfl, ⟨k1, k2⟩, ⟨m1, m2⟩, ⟨n1, n2⟩, ⟨o1, o2⟩⟩ := hF
  exact underwoodref08_Small.calls 23 _ _ _ _ _ _ _ _ _ _ _ _ _ _ _ _ _ _ _ _ _ _ _ _ _ _ _ _ _ w r1 l1 r2 l2 k2 k1 m2 m1 n2 n1 o2 o1 (small_f C F)

/-! #### the document's Start -/
theorem is_f (x : Int) : underwoodref08_is.f x = some (isV x) := by
  unfold underwoodref08_is.f isV
  by_cases c : x ≥ 0
  · rw [if_pos c, decide_eq_true (show 0 ≤ x from c), Bool.true_and]
  · rw [if_neg c, decide_eq_false (show ¬ 0 ≤ x from c), Bool.false_and]
theorem all_l (l : List Int) (hl : l.length < 1000000) : ∀ (d : Nat) (k i : Nat), i + d = l.length → d < k → underwoodref08_all.l0 k l (i : Int) = some ((l.drop i).all isV) := by
  intro d
  induction d with
  | zero =>
    intro k i h hk
    obtain ⟨k, rfl⟩ : ∃ m, k = m + 1 := ⟨k - 1, by omega⟩
    simp only [underwoodref08_all.l0]
    rw [if_neg (by omega), List.drop_of_length_le (by omega)]
    rfl
  | succ d ih =>
    intro k i h hk
    obtain ⟨k, rfl⟩ : ∃ m, k = m + 1 := ⟨k - 1, by omega⟩
    simp only [underwoodref08_all.l0]
    have hi : i < l.length := by omega
    have hx : rd l (i : Int) = l[i] := by simp [rd, List.getD_eq_getElem?_getD, List.getElem?_eq_getElem hi]
    rw [if_pos (by omega), if_pos (by omega), is_f, hx, List.drop_eq_getElem_cons hi, List.all_cons]
    simp only [Option.bind_some]
    cases hv : isV l[i]
    · rw [if_neg (by simp)]; rfl
    · rw [if_pos rfl, show wrap64 ((i : Int) + 1) = ((i + 1 : Nat) : Int) from by unfold wrap64; omega, ih k (i + 1) (by omega) (by omega), Bool.true_and]
theorem all_f (l : List Int) (k : Nat) (hl : l.length < 1000000) (hk : l.length < k) : underwoodref08_all.f k l = some (!l.any notV) := by
  have := all_l l hl l.length k 0 (by omega) hk
  rw [List.drop_zero] at this
  unfold underwoodref08_all.f
  refine this.trans ?_
  congr 1
  rw [Bool.eq_iff_iff]
  simp [List.all_eq_true, List.any_eq_false, notV]
theorem start_l (fn task : Int) (path : List Int) (b0 b1 : Int) (b2 : List S53) (hp : path.length < 1000000) (hb : b1 < 1000000) : ∀ (d : Nat) (k : Nat) (l : List Int), d = b1.toNat - l.length → d < k → l.length < 1000000 →
    underwoodref08_Start.l0 k fn task path l b0 b1 b2 = some (task, path, fn, 0, l ++ List.replicate d 0, [], [], 0, 0, false, 0) := by
  intro d
  induction d with
  | zero =>
    intro k l h hk hl
    obtain ⟨k, rfl⟩ : ∃ m, k = m + 1 := ⟨k - 1, by omega⟩
    rw [underwoodref08_Start.l0, if_neg (by omega)]
    simp only [Option.bind_some, List.nil_append, List.length_nil, Nat.zero_add]
    rw [if_pos (by omega), List.replicate_zero, List.append_nil]
  | succ d ih =>
    intro k l h hk hl
    obtain ⟨k, rfl⟩ : ∃ m, k = m + 1 := ⟨k - 1, by omega⟩
    rw [underwoodref08_Start.l0, if_pos (by omega), if_pos (by omega), ih k (l ++ [0]) (by simp; omega) (by omega) (by simp; omega), List.append_assoc]
    rfl
theorem refstart_f (C : Cd) (fn : Int) (args : List Int) (task : Int) (path : List Int) (ha : args.length < 1000000) (hp : path.length < 1000000) (hL : 0 ≤ fn → fn < (C.funs.length : Int) → (rd_T65 C.funs fn).f1 < 1000000) :
    underwoodref08_Start.f 2000010 C.funs C.cells C.maps C.stacks C.chans C.main fn args task path = some ((startF C fn args task path).1.task, (startF C fn args task path).1.path, (startF C fn args task path).1.fn, (startF C fn args task path).1.pc, (startF C fn args task path).1.loc, (startF C fn args task path).1.stk, (startF C fn args task path).1.kids, (startF C fn args task path).1.many, (startF C fn args task path).1.spent, (startF C fn args task path).1.fail, (startF C fn args task path).2) := by
  have hbad : okStart C fn args task = false → startF C fn args task path = (frame0, 1) := fun h => by unfold startF; rw [h]; rfl
  have J0 : underwoodref08_Start.j0 2000010 fn args task path true C.funs C.cells C.maps C.stacks C.chans C.main = some (0, [], 0, 0, [], [], [], 0, 0, false, 1) := by rw [underwoodref08_Start.j0, if_pos rfl]
  have J1 : ∀ b0 b1 b2, underwoodref08_Start.j1 2000009 fn args task path true b0 b1 b2 = some (0, [], 0, 0, [], [], [], 0, 0, false, 1) := fun b0 b1 b2 => by rw [underwoodref08_Start.j1, if_pos rfl]
  unfold underwoodref08_Start.f
  by_cases c1 : fn < 0
  · rw [if_pos c1, J0, hbad (by unfold okStart; rw [decide_eq_false (by omega), Bool.false_and])]; rfl
  by_cases c2 : fn ≥ (C.funs.length : Int)
  · rw [if_neg c1, if_pos c2, J0, hbad (by unfold okStart; rw [decide_eq_false (by omega), Bool.false_and])]; rfl
  rw [if_neg c1, if_neg c2]
  by_cases c3 : task < 1
  · rw [decide_eq_true c3, J0, hbad (by unfold okStart; rw [decide_eq_false (by omega), Bool.false_and])]; rfl
  rw [decide_eq_false c3, underwoodref08_Start.j0, if_neg (by simp), if_pos (by omega), if_pos (by omega), all_f args _ ha (by omega)]
  simp only [Option.bind_some]
  have hb1 := hL (by omega) (by omega)
  by_cases c4 : (rd_T65 C.funs fn).f0 = (args.length : Int)
  · rw [if_pos c4]
    by_cases c5 : (rd_T65 C.funs fn).f1 < (rd_T65 C.funs fn).f0
    · rw [if_pos c5, J1, hbad (by unfold okStart; rw [decide_eq_false (by omega), Bool.false_and])]; rfl
    · rw [if_neg c5]
      cases hv : args.any notV
      · have hok : okStart C fn args task = true := by unfold okStart; rw [decide_eq_true (by omega), hv]; rfl
        rw [underwoodref08_Start.j1, if_neg (by simp)]
        simp only [Option.bind_some, List.nil_append, List.length_nil, Nat.zero_add]
        rw [if_pos (by omega), start_l fn task path _ _ _ hp hb1 _ _ args rfl (by omega) ha]
        unfold startF
        rw [hok]
        rfl
      · rw [show (!(!true)) = true from rfl, J1, hbad (by unfold okStart; rw [hv]; simp)]; rfl
  · rw [if_neg c4, J1, hbad (by unfold okStart; rw [decide_eq_false (by omega), Bool.false_and])]; rfl
theorem refstart_call (C : Cd) (vc : Value) (fn : Int) (Aa : Option Addr) (ca : Nat) (args : List Int) (task : Int) (Ap : Option Addr) (cp : Nat) (path : List Int) (w : World) (hC : CdAt w C vc)
    (ha : Kd.C (Kd.int .i64) w Aa args.length args) (hca : args.length ≤ ca) (hp : Kd.C (Kd.int .i64) w Ap path.length path) (hcp : path.length ≤ cp) (hal : args.length < 1000000) (hl : path.length < 1000000) (hL : 0 ≤ fn → fn < (C.funs.length : Int) → (rd_T65 C.funs fn).f1 < 1000000) :
    Calls Tryd.prog 13 #[vc, .int .i64 fn, .slice Aa args.length ca, .int .i64 task, .slice Ap path.length cp] w (Framed (startF C fn args task path) w) := by
  obtain ⟨Af, cf, Ac, cc, rfl, l1, r1, l2, r2⟩ := hC
  refine (underwoodref08_Start.calls 2000010 _ _ _ _ _ _ _ _ _ _ fn Aa ca args task Ap cp path _ _ _ _ _ _ _ _ _ _ _ w r1 l1 r2 l2 ha hca hp hcp (refstart_f C fn args task path hal hl hL)).mono ?_
  rintro e w' ⟨v1, v4, v5, v6, rfl, h1, h4, h5, h6, hb⟩
  obtain ⟨A1, c1, rfl, q1, g1⟩ := Kd.R_reads h1
  obtain ⟨A4, c4, rfl, q4, g4⟩ := Kd.R_reads h4
  obtain ⟨A5, c5, rfl, q5, g5⟩ := Kd.R_reads h5
  obtain ⟨A6, c6, rfl, q6, g6⟩ := Kd.R_reads h6
  exact ⟨_, rfl, ⟨A1, c1, A4, c4, A5, c5, A6, c6, rfl, ⟨q1, g1⟩, ⟨q4, g4⟩, ⟨q5, g5⟩, ⟨q6, g6⟩⟩, hb⟩

end Go.Proofs.YtfcgjadfhojogaaDoor.Vm
