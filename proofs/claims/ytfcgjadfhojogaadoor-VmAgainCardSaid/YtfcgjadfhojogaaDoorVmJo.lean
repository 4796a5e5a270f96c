/- A frame's children's values go into their locals. -/
import Derived.Test.YtfcgjadfhojogaaDoorVmTo
namespace Go.Proofs.YtfcgjadfhojogaaDoor.Vm
open Go.RowKit Go.Proofs.YtfcgjadfhojogaaDoorW.PrintWords Go.Proofs.YtfcgjadfhojogaaDoorW.PrintLast Go.Proofs.YtfcgjadfhojogaaDoorW.PrintMore Go.Proofs.YtfcgjadfhojogaaDoor.PVmStarts
set_option linter.unusedVariables false
set_option linter.unusedSimpArgs false

/-- The locals, behind so many children's values. -/
def joinN (loc : List Int) (ks : List S74) (vs : List Int) : Nat → List Int
  | 0 => loc
  | i + 1 => if 0 ≤ (rd_T74 ks i).f1 then (joinN loc ks vs i).set (rd_T74 ks i).f1.toNat (rd vs i) else joinN loc ks vs i
theorem joinN_len (loc : List Int) (ks : List S74) (vs : List Int) : ∀ i, (joinN loc ks vs i).length = loc.length
  | 0 => rfl
  | i + 1 => by
    unfold joinN
    split
    · rw [List.length_set]; exact joinN_len loc ks vs i
    · exact joinN_len loc ks vs i
theorem joined_results (tmps : Array Value) (w : World) (bo : Nat) (cf : Array Value) (x : Bool) (h4 : tmps.getD 4 undef = .pointer (some ⟨bo, 0, none⟩)) (h5 : tmps.getD 5 undef = .bool x)
    (ho : w.heap[bo]? = some (.cells cf 33 (0, 0))) (s1 : cf.size = 10) :
    (results Tryd.f42 tmps).run Tryd.prog w = .ok (.tuple #[.agg cf, .bool x]) w := by
  have i1 : (Tryd.prog.info? 33).map (·.size) = some cf.size := by rw [s1]; kernel_rfl
  have h4' : tmps[4]?.getD undef = .pointer (some ⟨bo, 0, none⟩) := by simpa using h4
  have h5' : tmps[5]?.getD undef = .bool x := by simpa using h5
  simp [results, Tryd.results42, h4', h5', asAddr, run_loadVar_row w bo _ 33 cf _ _ ho Tryd.underlying33 rfl i1]
theorem frame_join {w : World} {F : Fr} {s : List Int} {Ap Al As Ak : Option Addr} {cp cl cs ck : Nat} (h : FrAt w F (.agg #[.int .i64 F.task, .slice Ap F.path.length cp, .int .i64 F.fn, .int .i64 F.pc, .slice Al F.loc.length cl, .slice As F.stk.length cs, .slice Ak F.kids.length ck, .int .i64 F.many, .int .i64 F.spent, .bool F.fail]))
    {A5 : Option Addr} {c5 n : Nat} (hn : n = s.length) (h1 : s.length ≤ c5) (h2 : (Kd.int .i64).C w A5 s.length s) : FrAt w { F with loc := s, kids := [] } (.agg #[.int .i64 F.task, .slice Ap F.path.length cp, .int .i64 F.fn, .int .i64 F.pc, .slice A5 n c5, .slice As F.stk.length cs, .slice none 0 0, .int .i64 F.many, .int .i64 F.spent, .bool F.fail]) := by
  subst hn
  obtain ⟨a, b, c, d, e, f, g, i, he, hp, hl, hs, hk⟩ := h
  simp only [Value.agg.injEq, Array.mk.injEq, List.cons.injEq, Value.slice.injEq, true_and, and_true] at he
  obtain ⟨⟨rfl, rfl⟩, ⟨rfl, rfl⟩, ⟨rfl, rfl⟩, ⟨rfl, rfl⟩⟩ := he
  exact ⟨_, _, _, _, _, _, _, _, rfl, hp, ⟨h1, h2⟩, hs, ⟨Nat.le_refl 0, Kd.C_nil _ _⟩⟩
theorem good_kid {n : Int} {l : List S74} (h : l.any (badKid n) = false) (i : Nat) (hi : i < l.length) : 1 ≤ (rd_T74 l i).f0 ∧ -1 ≤ (rd_T74 l i).f1 ∧ (rd_T74 l i).f1 < n := by
  rw [List.any_eq_false] at h
  have hx : rd_T74 l i = l[i] := by simp [rd_T74, List.getD_eq_getElem?_getD, List.getElem?_eq_getElem hi]
  have := h l[i] (List.getElem_mem _)
  rw [hx]
  simp only [badKid, Bool.or_eq_true, decide_eq_true_eq] at this
  omega

def Joined (F : Fr) (vals : List Int) (Ap : Option Addr) (cp : Nat) (As : Option Addr) (cs : Nat) (w : World) (e : Ending) (w' : World) : Prop :=
  ∃ A5 c5, e = .returned (.tuple #[.agg #[.int .i64 F.task, .slice Ap F.path.length cp, .int .i64 F.fn, .int .i64 F.pc, .slice A5 F.loc.length c5, .slice As F.stk.length cs, .slice none 0 0, .int .i64 F.many, .int .i64 F.spent, .bool F.fail], .bool true]) ∧
    (Kd.int .i64).R 3 w' w.heap.size (fun _ => True) (.slice A5 F.loc.length c5) (joinN F.loc F.kids vals F.kids.length) ∧ Below w.heap.size w w'
theorem only_R {b base : Nat} {w w' : World} {cs : Array Value} {t : TypeId} {v : Value} {l : List Int} (h : OnlyB b w w') (hb : w.heap[b]? = some (.cells cs t (0, 0))) (ht : t ≠ 3) (hr : (Kd.int .i64).R 3 w base (fun _ => True) v l) : (Kd.int .i64).R 3 w' base (fun _ => True) v l :=
  Kd.R_mono (Kd.R_step (Kd.R_types hr hb (fun q hq he => ht (he.symm.trans (by simpa [Kd.int, Kd.scalar] using hq)))) (fun k hk _ => h.far k hk.2)) (fun _ _ => trivial)

set_option maxHeartbeats 8000000 in
set_option maxRecDepth 100000 in
theorem joined_call (F : Fr) (Ap Al As Ak : Option Addr) (cp cl cs ck : Nat) (Av : Option Addr) (cv : Nat) (vals : List Int) (w : World) (hFl : (Kd.int .i64).C w Al F.loc.length F.loc) (hFk : k74.C w Ak F.kids.length F.kids) (hv : (Kd.int .i64).C w Av vals.length vals) (hn : vals.length = F.kids.length)
    (hk : F.kids.any (badKid F.loc.length) = false) (hl : F.loc.length ≤ 1000000) :
    Calls Tryd.prog 42 #[.agg #[.int .i64 F.task, .slice Ap F.path.length cp, .int .i64 F.fn, .int .i64 F.pc, .slice Al F.loc.length cl, .slice As F.stk.length cs, .slice Ak F.kids.length ck, .int .i64 F.many, .int .i64 F.spent, .bool F.fail], .slice Av vals.length cv] w (Joined F vals Ap cp As cs w) := by
  have HV := Aside0.mk hv
  have HK := Aside0.mk hk
  have HN := Aside0.mk hn
  have hklen := hFk.2.1
  have HKC := Aside0.mk hFk
  have HLC := Aside0.mk hFl
  have HL := Aside0.mk hl
  clear hv hk hn hFl hFk hl
  go_enter Tryd.func42, Tryd.ntmps42
  go_upto_region 1 with (fail)
  refine nameW ?_
  intro w1 hw1
  obtain ⟨b0, b1, hb1, hsz⟩ := two_boxes hw1
  clear hw1
  have q0 := blk_cells b0
  have HB1 := Aside0.mk hb1
  have B0 := Aside0.mk b0
  have B1 := Aside0.mk b1
  have hcl := clone_int Al cl F.loc w1 (Kd.C_below HLC.out hb1) (by have := HL.out; omega)
  have HS1 : Aside0 (w1.heap.size = w.heap.size + 2) := ⟨hsz⟩
  clear b0 b1 hb1 hsz
  go_upto_region 2 with ((with_reducible refine hcl.mono ?_); rintro e w2 ⟨v, rfl, ho, hb2⟩; obtain ⟨A1, c1, rfl, hc1, _⟩ := Kd.R_reads ho; have HO := Aside0.mk ho; have HB2 := Aside0.mk hb2)
  clear hcl q0 ho
  have q0 := blk_cells (blk_below B0.out hb2)
  clear hb2
  go_wp2
  clear q0
  go_loopg [7, 8, 15] F.kids.length (fun gg _ _ s15 wr => ∃ kk : Nat, kk ≤ F.kids.length ∧ F.kids.length - kk ≤ gg ∧ s15 = .int .i64 kk ∧ Aside0 ((Kd.int .i64).R 3 wr w1.heap.size (fun _ => True) (.slice A1 F.loc.length c1) (joinN F.loc F.kids vals kk)) ∧ Aside0 (Below w1.heap.size w1 wr))
  case atStart => exact ⟨0, Nat.zero_le _, by omega, rfl, HO, HB2⟩
  case round =>
    clear HO HB2
    obtain ⟨kk, hkk, hg, rfl, HO, HBr⟩ := hrel
    by_cases hlt : kk < F.kids.length
    · have hltz : (kk : Int) < (F.kids.length : Int) := by omega
      have hltv : (kk : Int) < (vals.length : Int) := by rw [HN.out]; exact hltz
      have hK0 : (0 : Int) ≤ (kk : Int) := by omega
      have HBt := Aside0.mk (below_step HB1.out HBr.out)
      obtain ⟨ad, rfl, hc0, hc1'⟩ := at_T74 (Kd.C_below HKC.out HBt.out) (kk : Int) hK0 hltz
      obtain ⟨av, rfl, hvk⟩ := Kd.at_int HV.out (kk : Int) hK0 hltv
      rw [Int.toNat_natCast] at hc0 hc1' hvk
      have hgk := good_kid HK.out kk hlt
      have hjn : joinN F.loc F.kids vals (kk + 1) = if 0 ≤ (rd_T74 F.kids kk).f1 then (joinN F.loc F.kids vals kk).set (rd_T74 F.kids kk).f1.toNat (rd vals kk) else joinN F.loc F.kids vals kk := rfl
      have HJ := Aside0.mk hjn
      have HVK := Aside0.mk hvk
      clear hjn hvk
      generalize rd_T74 F.kids kk = kd at *
      generalize rd vals kk = x at *
      obtain ⟨g0, g1, g2⟩ := hgk
      have d1 : decide (kd.f1 < -1) = false := decide_eq_false (by omega)
      have d2 : decide ((F.loc.length : Int) ≤ kd.f1) = false := decide_eq_false (by omega)
      go_upto_region 5 with (fail)
      refine nameW ?_
      intro w4 hw4
      obtain ⟨b8, hb8, hsz8⟩ := one_box hw4
      clear hw4 hc0 hc1'
      have HO4 := Aside0.mk (Kd.R_below HO.out hb8)
      have HB4 := Aside0.mk (below_then HBr.out HBr.out.size hb8)
      have hvk := pw_cell_below (below_step HB1.out HB4.out) HVK.out
      have q8 := blk_cells b8
      have B8 := Aside0.mk b8
      have HW8 : Aside0 (w1.heap.size ≤ wr.heap.size ∧ w4.heap.size = wr.heap.size + 1) := ⟨HBr.out.size, hsz8⟩
      clear b8 hb8 hsz8 HO HBr HBt
      generalize wr.heap.size = kb at *
      by_cases hd : 0 ≤ kd.f1
      · have d3 : decide (0 ≤ kd.f1) = true := decide_eq_true hd
        have hj1 : joinN F.loc F.kids vals (kk + 1) = (joinN F.loc F.kids vals kk).set kd.f1.toNat x := by rw [HJ.out, if_pos hd]
        obtain ⟨inner, hown⟩ := Kd.R_own HO4.out
        obtain ⟨g, cap, hform, hgb, hgl⟩ := hown.form (by rw [joinN_len]; omega)
        have hA1 : A1 = some ⟨g, 0, none⟩ ∧ c1 = cap := by
          injection hform with e1 _ e2
          exact ⟨e1, e2⟩
        obtain ⟨rfl, rfl⟩ := hA1
        obtain ⟨cg, hcg⟩ := own_typed hown g rfl
        have n8 : kb ≠ g := blk_ne B8.out hcg (by decide)
        clear hcg hform hgl
        have HG := Aside0.mk hgb
        obtain ⟨hcl, hfl⟩ := Kd.R_celln (0 : Int) HO4.out kd.f1 hd (by omega)
        have hput := Kd.R_putn HO4.out kd.f1 x
        have HP := Aside0.mk hput
        have HJ1 := Aside0.mk hj1
        clear hj1 hput hown
        go_upto_region 8 with (fail)
        go_region
        all_goals
          refine nameEnd ?_
          intro w5 hw5
          have HO5 : Aside0 ((Kd.int .i64).R 3 w5 w1.heap.size (fun _ => True) (.slice (some ⟨g, 0, none⟩) F.loc.length c1) (joinN F.loc F.kids vals (kk + 1))) := ⟨by rw [hw5, HJ1.out]; first | exact HP.out | exact Kd.R_drew HP.out⟩
          have HB5 : Aside0 (Below w1.heap.size w1 w5) := ⟨by rw [hw5]; first | exact HB4.out.setCell HG.out _ | exact below_drew (HB4.out.setCell HG.out _) | exact (below_drew HB4.out).setCell HG.out _⟩
          clear hw5 hcl hfl hvk q8
          go_wp2
          go_roundg (F.kids.length - (kk + 1))
          case measure => omega
          case rel => exact ⟨kk + 1, by omega, by omega, by go_num, HO5, HB5⟩
      · have d3 : decide (0 ≤ kd.f1) = false := decide_eq_false hd
        have HO5 : Aside0 ((Kd.int .i64).R 3 w4 w1.heap.size (fun _ => True) (.slice A1 F.loc.length c1) (joinN F.loc F.kids vals (kk + 1))) := ⟨by rw [HJ.out, if_neg hd]; exact HO4.out⟩
        go_wp2
        go_roundg (F.kids.length - (kk + 1))
        case measure => omega
        case rel => exact ⟨kk + 1, by omega, by omega, by go_num, HO5, HB4⟩
    · have hltz : ¬ (kk : Int) < (F.kids.length : Int) := by omega
      have hkl : kk = F.kids.length := by omega
      rw [hkl] at HO
      have b0' := blk_below B0.out HBr.out
      have b1' := blk_below B1.out HBr.out
      have q0 := blk_cells b0'
      have z0 : ∀ i, wr.frozen? ⟨w.heap.size, i, none⟩ = false := blk_frozen b0'
      have B0' := Aside0.mk b0'
      have B1' := Aside0.mk b1'
      have HBt := Aside0.mk (below_step HB1.out HBr.out)
      clear b0' b1' hkl
      go_upto_region 11 with (fail)
      refine nameW ?_
      intro w5 hw5
      have b0'' : w5.heap[w.heap.size]? = some (.cells #[.int .i64 F.task, .slice Ap F.path.length cp, .int .i64 F.fn, .int .i64 F.pc, .slice A1 F.loc.length c1, .slice As F.stk.length cs, .slice none 0 0, .int .i64 F.many, .int .i64 F.spent, .bool F.fail] 33 (0, 0)) := by
        rw [hw5]; exact blk_put (blk_put B0'.out 4 _ rfl) 6 _ rfl
      have hon : OnlyB w.heap.size wr w5 := by rw [hw5]; exact ((OnlyB.refl _ _).set _ _).set _ _
      have b1'' : w5.heap[w.heap.size + 1]? = some (.cells zFr 33 (0, 0)) := (hon.far _ (by omega)).trans B1'.out
      have ho5 : (Kd.int .i64).R 3 w5 w1.heap.size (fun _ => True) (.slice A1 F.loc.length c1) (joinN F.loc F.kids vals F.kids.length) := by
        rw [hw5]; exact Kd.R_set (Kd.R_set HO.out B0'.out no_frame 4 _) (blk_put B0'.out 4 _ rfl) no_frame 6 _
      have HB5 := Aside0.mk (hon.below HBt.out (Nat.le_refl _))
      have HO5 := Aside0.mk ho5
      have B1'' := Aside0.mk b1''
      clear hw5 q0 z0 ho5 hon
      have q0 := blk_cells b0''
      have q1 := blk_cells b1''
      unfold zFr at q1
      have z1 : ∀ i, w5.frozen? ⟨w.heap.size + 1, i, none⟩ = false := blk_frozen b1''
      clear b0'' b1''
      go_wp2
      refine bodyPost_ret (joined_results _ _ (w.heap.size + 1) _ _ rfl rfl (sets10 B1''.out _ _ _ _ _ _ _ _ _ _) rfl) rfl ?_
      have ho := only10 w5 (w.heap.size + 1) (.int .i64 F.task) (.slice Ap F.path.length cp) (.int .i64 F.fn) (.int .i64 F.pc) (.slice A1 F.loc.length c1) (.slice As F.stk.length cs) (.slice none 0 0) (.int .i64 F.many) (.int .i64 F.spent) (.bool F.fail)
      have hfin := ho.below HB5.out (by omega)
      exact ⟨_, _, rfl, Kd.R_lower (only_R ho B1''.out (by decide) HO5.out) (by have := HS1.out; omega), hfin⟩

set_option maxHeartbeats 8000000 in
set_option maxRecDepth 100000 in
theorem told_sync (F : Fr) (vf : Value) (K : Ak) (vk : Value) (Av : Option Addr) (cv : Nat) (vals : List Int) (w : World) (hF : FrAt w F vf) (hK : AkAt w K vk) (hv : (Kd.int .i64).C w Av vals.length vals)
    (hk : K.kind = 5) (hn : vals.length = F.kids.length) (hx : ∀ x, x ∈ vals → isV x = true) (hg : F.kids.any (badKid F.loc.length) = false) (hl : F.loc.length ≤ 1000000) :
    Calls Tryd.prog 23 #[vf, vk, .slice Av vals.length cv] w (Framed2 vf ({ F with loc := joinN F.loc F.kids vals F.kids.length, kids := [] }, 0) w) := by
  have HF := Aside0.mk hF
  have hcall : ∀ W, Below w.heap.size w W → Calls Tryd.prog 40 #[.slice Av vals.length cv, .int .i64 F.kids.length] W (Bool1 true W) := fun W hb => by
    have := values_call Av cv vals F.kids.length W (Kd.C_below hv hb)
    rw [show valuesB vals F.kids.length = true by
      unfold valuesB
      rw [decide_eq_true (by omega), Bool.true_and, Bool.not_eq_true', List.any_eq_false]
      intro x hm
      simp [notV, hx x hm]] at this
    exact this
  obtain ⟨Ap, cp, Al, cl, As, cs, Ak, ck, rfl, ⟨hFp0, hFp⟩, ⟨hFl0, hFl⟩, ⟨hFs0, hFs⟩, ⟨hFk0, hFk⟩⟩ := hF
  have hjoin : ∀ W, Below w.heap.size w W → Calls Tryd.prog 42 #[.agg #[.int .i64 F.task, .slice Ap F.path.length cp, .int .i64 F.fn, .int .i64 F.pc, .slice Al F.loc.length cl, .slice As F.stk.length cs, .slice Ak F.kids.length ck, .int .i64 F.many, .int .i64 F.spent, .bool F.fail], .slice Av vals.length cv] W (Joined F vals Ap cp As cs W) := fun W hb => joined_call F Ap Al As Ak cp cl cs ck Av cv vals W (Kd.C_below hFl hb) (Kd.C_below hFk hb) (Kd.C_below hv hb) hn hg hl
  obtain ⟨Aa, ca, rfl, _, _⟩ := hK
  obtain ⟨kind, ka, kb, kok, kobj, koa, kob, kargs⟩ := K
  simp only at hk
  subst hk
  clear hx hn hv hFp0 hFp hFl0 hFl hFs0 hFs hFk0 hFk hg hl
  go_enter Tryd.func23, Tryd.ntmps23
  go_upto_region 1 with (fail)
  refine nameW ?_
  intro w1 hw1
  obtain ⟨b0, b1, b2, hb, hsz⟩ := three_boxes hw1
  replace b2 : w1.heap[w.heap.size + 1 + 1]? = _ := b2
  clear hw1
  have q0 := blk_cells b0
  go_upto_region 2 with (fail)
  refine nameW ?_
  intro w2 hw2
  obtain ⟨b3, hb5, hsz2⟩ := one_box hw2
  clear hw2 q0
  rw [hsz] at b3 hsz2
  replace b0 := blk_below b0 hb5
  replace b1 := blk_below b1 hb5
  replace b2 := blk_below b2 hb5
  have HB := Aside0.mk (below_step hb hb5)
  have q0 := blk_cells b0
  have q1 := blk_cells b1
  have B0 := Aside0.mk b0
  have B2 := Aside0.mk b2
  have B3 := Aside0.mk b3
  clear b0 b1 b2 b3 hb hb5 hsz hsz2
  generalize hk2 : w.heap.size + 1 + 1 = k2 at *
  have HK2 : Aside0 (w.heap.size ≤ k2 ∧ k2 ≠ w.heap.size + 3) := ⟨by omega⟩
  clear hk2
  have hc2 := hcall w2 HB.out
  have HJ := Aside0.mk hjoin
  clear hcall hjoin
  go_upto_region 17 with ((with_reducible refine hc2.mono ?_); rintro e w3 ⟨rfl, hb3⟩; have q0' := blk_cells (blk_below B0.out hb3); have HB3 := Aside0.mk (below_step HB.out hb3); have HS3 := Aside0.mk hb3)
  clear q0 q1 hc2 hb3
  have hj := HJ.out w3 HB3.out
  have B3' := Aside0.mk (blk_below B3.out HS3.out)
  go_upto_region 18 with ((with_reducible refine hj.mono ?_); rintro e w4 ⟨A5, c5, rfl, hG, hb4⟩; have HG := Aside0.mk hG; clear hG; have b34 := blk_below B3'.out hb4; have q3 := blk_cells b34; have z3 : ∀ i, w4.frozen? ⟨w.heap.size + 3, i, none⟩ = false := blk_frozen b34; have HB4 := Aside0.mk (below_step HB3.out hb4); have B34 := Aside0.mk b34; have B24 := Aside0.mk (blk_below B2.out (below_step HS3.out hb4)))
  clear hj q0' q3 z3 b34 hb4 HJ HS3 B3' B3 B2
  refine nameW ?_
  intro w5 hw5
  have b3' : w5.heap[w.heap.size + 3]? = some (.cells #[.int .i64 F.task, .slice Ap F.path.length cp, .int .i64 F.fn, .int .i64 F.pc, .slice A5 F.loc.length c5, .slice As F.stk.length cs, .slice none 0 0, .int .i64 F.many, .int .i64 F.spent, .bool F.fail] 33 (0, 0)) := by
    rw [hw5]; exact sets10 B34.out _ _ _ _ _ _ _ _ _ _
  have hon : OnlyB (w.heap.size + 3) w4 w5 := by rw [hw5]; exact only10 _ _ _ _ _ _ _ _ _ _ _ _
  have b2' : w5.heap[k2]? = some (.cells zFr 33 (0, 0)) := (hon.far _ HK2.out.2).trans B24.out
  have hb5 := hon.below HB4.out (by omega)
  clear hw5
  have HON := Aside0.mk hon
  have HB5 := Aside0.mk hb5
  have B2' := Aside0.mk b2'
  have B35 := Aside0.mk b3'
  have q3 := blk_cells b3'
  have q2 := blk_cells b2'
  unfold zFr at q2
  have z2 : ∀ i, w5.frozen? ⟨k2, i, none⟩ = false := blk_frozen b2'
  clear hb5 b2' b3' hon
  go_wp2
  refine bodyPost_ret (told_results _ _ k2 _ _ rfl rfl (sets10 B2'.out _ _ _ _ _ _ _ _ _ _) rfl) rfl ?_
  have ho := only10 w5 k2 (.int .i64 F.task) (.slice Ap F.path.length cp) (.int .i64 F.fn) (.int .i64 F.pc) (.slice A5 F.loc.length c5) (.slice As F.stk.length cs) (.slice none 0 0) (.int .i64 F.many) (.int .i64 F.spent) (.bool F.fail)
  have hfin := ho.below HB5.out HK2.out.1
  obtain ⟨r1, r2, r3⟩ := only_row ho B2'.out (by decide) (only_R HON.out B34.out (by decide) HG.out)
  exact ⟨_, rfl, frame_join (HF.out.below hfin) (joinN_len _ _ _ _).symm r2 r3, hfin, fun k hk hf => farF_of (rowFar_int _ _) (hf 1 _ rfl) (rowFar_int _ _) (rowFar_int _ _) (rowFar_R (only_R HON.out B34.out (by decide) HG.out) (by have := HB3.out.size; omega)) (hf 5 _ rfl) (rowFar_nil _ _ _) (rowFar_int _ _) (rowFar_int _ _) (rowFar_bool _ _)⟩

set_option maxHeartbeats 8000000 in
set_option maxRecDepth 100000 in
theorem told_store (F : Fr) (vf : Value) (K : Ak) (vk : Value) (Av : Option Addr) (cv : Nat) (w : World) (hF : FrAt w F vf) (hK : AkAt w K vk) (hk : K.kind = 2) :
    Calls Tryd.prog 23 #[vf, vk, .slice Av 0 cv] w (Framed2 vf (F, 0) w) := by
  have HF := Aside0.mk hF
  obtain ⟨Ap, cp, Al, cl, As, cs, Ak, ck, rfl, ⟨hFp0, hFp⟩, ⟨hFl0, hFl⟩, ⟨hFs0, hFs⟩, ⟨hFk0, hFk⟩⟩ := hF
  obtain ⟨Aa, ca, rfl, _, _⟩ := hK
  obtain ⟨kind, ka, kb, kok, kobj, koa, kob, kargs⟩ := K
  simp only at hk
  subst hk
  clear hFp0 hFp hFl0 hFl hFs0 hFs hFk0 hFk
  go_enter Tryd.func23, Tryd.ntmps23
  go_upto_region 1 with (fail)
  refine nameW ?_
  intro w1 hw1
  obtain ⟨b0, b1, b2, hb, hsz⟩ := three_boxes hw1
  replace b2 : w1.heap[w.heap.size + 1 + 1]? = _ := b2
  clear hw1
  have q0 := blk_cells b0
  go_upto_region 2 with (fail)
  refine nameW ?_
  intro w2 hw2
  obtain ⟨b3, hb5, hsz2⟩ := one_box hw2
  clear hw2 q0
  rw [hsz] at b3 hsz2
  replace b0 := blk_below b0 hb5
  replace b1 := blk_below b1 hb5
  replace b2 := blk_below b2 hb5
  have HB := Aside0.mk (below_step hb hb5)
  have q0 := blk_cells b0
  have q1 := blk_cells b1
  have B0 := Aside0.mk b0
  have B2 := Aside0.mk b2
  have B3 := Aside0.mk b3
  clear b0 b1 b2 b3 hb hb5 hsz hsz2
  generalize hk2 : w.heap.size + 1 + 1 = k2 at *
  have HK2 : Aside0 (w.heap.size ≤ k2 ∧ k2 ≠ w.heap.size + 3) := ⟨by omega⟩
  clear hk2
  go_upto_region 18 with (fail)
  clear q0 q1
  have B2' := B2
  have q3 := blk_cells B3.out
  have q2 := blk_cells B2.out
  have z2 : ∀ i, w2.frozen? ⟨k2, i, none⟩ = false := blk_frozen B2.out
  go_wp2
  refine bodyPost_ret (told_results _ _ k2 _ _ rfl rfl (sets10 B2'.out _ _ _ _ _ _ _ _ _ _) rfl) rfl ?_
  have ho := only10 w2 k2 (.int .i64 F.task) (.slice Ap F.path.length cp) (.int .i64 F.fn) (.int .i64 F.pc) (.slice Al F.loc.length cl) (.slice As F.stk.length cs) (.slice Ak F.kids.length ck) (.int .i64 F.many) (.int .i64 F.spent) (.bool F.fail)
  have hfin := ho.below HB.out HK2.out.1
  exact ⟨_, rfl, HF.out.below hfin, hfin, fun k hk hf => hf⟩

end Go.Proofs.YtfcgjadfhojogaaDoor.Vm
