
/-
  LM-cut's heuristic as it is read; contract of 'values'.
-/
import Derived.Test.YtkmbenhffledpaaGreatWLm1
import Derived.Test.YtkmbenhffledpaaGreatWRlxN
set_option linter.unusedSimpArgs false
set_option linter.unusedVariables false
namespace Go.Proofs.YtkmbenhffledpaaGreat
open Go.Sl Go
attribute [local irreducible] vc opsW opsD opV opW PureV ReadV Thn Blk
structure CUV where
  op : Int
  makes : Int
  needs : Value
def tCU : Ty CUV := ⟨3, fun x => [.int .i64 x.op, .int .i64 x.makes, x.needs], fun _ => rfl, ⟨0, 0, .slice none 0 0⟩⟩
instance inWLm21 : ShutT tCU := ⟨trivial⟩
def CuOk (w : World) (v : CUV) (u : Un) : Prop := v.op = u.op ∧ v.makes = u.makes ∧ ∃ L, RS tInt w v.needs L ∧ SameM L u.needs
def CuF (us : List CUV) (U : List Un) (w : World) : Prop := ∀ i : Nat, i < U.length → CuOk w (eget tCU us i) (un U i)
/-- The heuristic's parts, as they are read. -/
structure LcR (w : World) (pr : Addr) (t : TTask) (a fv gv cv lv : Value) (us : List CUV) : Prop where
  box : BoxR w pr [a, fv, .int .i64 (factN t : Int), gv, cv, lv]
  vars : RS tInt w a t.vars
  fst : RS tInt w fv (fstL t.vars t.vars.length)
  goal : RS tInt w gv (goalN t)
  costs : RS tInt w cv (costsT t)
  list : RS tCU w lv us
  len : us.length = (unT t).length
  un : CuF us (unT t) w
theorem CuF.at {w0 w : World} {Γ : List HP} {us : List CUV} {U : List Un} (h : CuF us U w0) (hw : Sat w0 w Γ) : CuF us U w := fun i hi => by
  obtain ⟨h1, h2, L, h3, h4⟩ := h i hi
  exact ⟨h1, h2, L, h3.at hw, h4⟩
theorem un_opR {t : TTask} {i : Nat} (hi : i < (unT t).length) : ∃ op : Nat, (un (unT t) i).op = (op : Int) ∧ op < t.ops.length := by
  obtain ⟨op, j, h1, _, h2⟩ := mem_unK.1 (un_mem hi)
  have h3 : un (unT t) (i : Int) = unE t.vars op (t.ops.getD op dOp) j := h2
  exact ⟨op, by rw [h3]; rfl, h1⟩
theorem lfill_set {k m : Nat} : (List.replicate k inf ++ List.replicate (m + 1) (0 : Int)).set k inf = List.replicate (k + 1) inf ++ List.replicate m 0 := by
  rw [List.set_append_right _ _ (by simp), List.length_replicate, Nat.sub_self, List.replicate_succ (n := m), List.set_cons_zero, List.replicate_succ' (n := k), List.append_assoc]; rfl
/-- The first k facts of the state are written. -/
structure SI (t : TTask) (z D : List Int) (k : Nat) : Prop where
  len : D.length = factN t
  val : ∀ g : Int, 0 ≤ g → g < factN t → dg D g = inf ∨ (dg D g = 0 ∧ StF t.vars z g)
  st : ∀ v : Nat, v < k → dg D (firstV t.vars v + z.getD v tInt.dflt) = 0
theorem SI.zero {t : TTask} {z : List Int} : SI t z (List.replicate (factN t) inf) 0 := ⟨by simp, fun g h0 h1 => .inl (by
  have h2 : g.toNat < factN t := by omega
  simp [dg, List.getD, h2]), fun v hv => absurd hv (Nat.not_lt_zero _)⟩
theorem SI.step {t : TTask} {z D : List Int} {k : Nat} (h : SI t z D k) (hg : GoodT t) (hs : StateOk t.vars z) (hk : k < t.vars.length) : SI t z (D.set (firstV t.vars k + z.getD k tInt.dflt).toNat 0) (k + 1) := by
  have hr := stF_rng hg hs (f := firstV t.vars k + z.getD k tInt.dflt) ⟨k, hk, rfl⟩
  have hl := h.len
  have hset : ∀ g : Int, 0 ≤ g → dg (D.set (firstV t.vars k + z.getD k tInt.dflt).toNat 0) g = if g = firstV t.vars k + z.getD k tInt.dflt then 0 else dg D g := fun g h0 => dg_set h0 hr.1 (by omega)
  refine ⟨by rw [List.length_set]; exact hl, fun g h0 h1 => ?_, fun v hv => ?_⟩
  · rw [hset g h0]
    split
    · rename_i e; exact .inr ⟨rfl, ⟨k, hk, e⟩⟩
    · exact h.val g h0 h1
  · have hv' : v < t.vars.length := by omega
    have hrv := stF_rng hg hs (f := firstV t.vars v + z.getD v tInt.dflt) ⟨v, hv', rfl⟩
    rw [hset _ hrv.1]
    split
    · rfl
    · rename_i e
      exact h.st v (by
        have : v ≠ k := fun e2 => e (by rw [e2])
        omega)
theorem SI.vi {t : TTask} {z D cs : List Int} (h : SI t z D t.vars.length) : LVI (withC t cs) z D := by
  refine ⟨h.len, fun g h0 h1 => ?_, fun g h0 h1 hlt => ?_, fun g hg => ?_⟩
  · rcases h.val g h0 h1 with e | ⟨e, _⟩
    · rw [e]; exact ⟨by decide, Int.le_refl _⟩
    · rw [e]; exact ⟨Int.le_refl _, by decide⟩
  · rcases h.val g h0 h1 with e | ⟨e, hs⟩
    · omega
    · rw [e]; exact .start hs
  · obtain ⟨v, hv, rfl⟩ := hg
    have := h.st v hv
    exact Int.le_of_eq this
theorem unT_wlen {t : TTask} {cs : List Int} : (unT (withC t cs)).length = (unT t).length := by
  have key : ∀ k, k ≤ t.ops.length → (unK (withC t cs) k).length = (unK t k).length := by
    intro k
    induction k with
    | zero => intro _; simp [unK]
    | succ k ih =>
      intro hk
      rw [unK_succ, unK_succ, List.length_append, List.length_append, ih (by omega), withC_op (by omega), unO_len, unO_len]
  unfold unT
  rw [withC_len]; exact key _ (Nat.le_refl _)
set_option maxRecDepth 8000 in
set_option maxHeartbeats 8000000 in
theorem lvalues_spec {w0 : World} {pr : Addr} {a fv gv cv0 lv sv cv : Value} {us : List CUV} {t : TTask} {z cs : List Int} (hr : LcR w0 pr t a fv gv cv0 lv us) (hg : GoodT t) (hc : CostsOk t cs) (hs : RS tInt w0 sv z) (hok : StateOk t.vars z) (hcs : RS tInt w0 cv cs) :
    Calls Tryz.prog 198 #[.pointer (some pr), sv, cv] w0 fun e w' => ∃ ov V, e = .returned ov ∧ IsHM (withC t cs) z V ∧ Sat w0 w' [OS tInt 3 ov V] := by
  obtain ⟨hb, hvr, hfr, hgr, hcr, hlr, hll, hF⟩ := hr
  have hgT := withC_good hg hc
  have hN := factN_le hg
  have hcl := hc.1
  have hzl := hok.1
  have hvl := hg.vars
  have hfl := fstL_len t.vars t.vars.length
  have hol := hg.ops
  have hUl : (unT t).length ≤ 64 * t.ops.length := unK_len hg (k := t.ops.length) (Nat.le_refl _)
  have hw := Sat.start w0
  refine calls_of_vc (args := [.pointer (some pr), sv, cv]) mixed Tryz.func198 rfl (by kernel_rfl) (Nat.le_of_ble_eq_true rfl) ?_
  repeat (first | refine go_run ?_ | (refine go_newP ?_; clear hw; intro p w hw) | (refine go_newW ?_; clear hw; intro w hw) | (refine go_newS ?_; clear hw; intro s w hw))
  obtain ⟨ov, hov⟩ : ∃ ov, ov = s := ⟨s, rfl⟩
  subst hov
  rw [Int.toNat_natCast] at hw
  have hln : ∀ k, k ≤ factN t → (List.replicate k inf ++ List.replicate (factN t - k) (0 : Int)).length = factN t := fun k hk => by simp; omega
  have hrep : (List.replicate ((factN t : Int)).toNat (0 : Int)).length = factN t := by simp
  have hw1 : Sat w0 w [OS tInt 3 ov (List.replicate 0 inf ++ List.replicate (factN t - 0) (0 : Int))] := hw
  repeat (first | refine go_run ?_ | (refine go_newP ?_; clear hw; intro p w hw) | (refine go_newW ?_; clear hw; intro w hw) | (refine go_newS ?_; clear hw; intro s w hw))
  refine vc_loop [8, 22, 23, 24, 25, 26, 27, 28] (G := Nat) (fun k => [(22, .int .i64 k)]) (fun k w => k ≤ factN t ∧ Sat w0 w [OS tInt 3 ov (List.replicate k inf ++ List.replicate (factN t - k) (0 : Int))]) (fun k => factN t - k) 0 (fun _ => rfl) ⟨rfl, trivial⟩ ⟨Nat.zero_le _, hw1⟩ ?_
  clear hw hw1
  rintro σ k w ⟨hk1, hw⟩
  have hlk := hln k hk1
  repeat (first | refine go_run ?_ | (refine go_newP ?_; clear hw; intro p w hw) | (refine go_newW ?_; clear hw; intro w hw) | (refine go_newS ?_; clear hw; intro s w hw))
  refine go_if (fun h1 => ?_) (fun h1 => ?_)
  · have hkl : k < factN t := by omega
    repeat (first | refine go_run ?_ | (refine go_newP ?_; clear hw; intro p w hw) | (refine go_newW ?_; clear hw; intro w hw) | (refine go_newS ?_; clear hw; intro s w hw))
    rw [show factN t - k = (factN t - (k + 1)) + 1 by omega, show (1125899906842624 : Int) = inf from rfl, lfill_set] at hw
    exact ⟨k + 1, ⟨rfl, trivial⟩, by repeat (first | exact agree_refl | (apply agree_upd rfl) | (apply agree_mix rfl) | (apply agree_sets rfl)), ⟨by omega, hw⟩, by omega⟩
  have hke : k = factN t := by omega
  rw [hke, Nat.sub_self, List.replicate_zero, List.append_nil] at hw
  clear hlk hrep hln
  repeat (first | refine go_run ?_ | (refine go_newP ?_; clear hw; intro p w hw) | (refine go_newW ?_; clear hw; intro w hw) | (refine go_newS ?_; clear hw; intro s w hw))
  refine vc_loop2 [9, 10, 31, 32, 33, 34, 35, 36, 37, 38, 39, 40, 41, 42, 43, 44, 45, 46, 47] (G := Nat) (H := List Int) (fun k _ => [(31, .int .i64 k)]) (fun k D w => k ≤ t.vars.length ∧ SI t z D k ∧ Sat w0 w [OS tInt 3 ov D]) (fun k _ => t.vars.length - k) 0 _ (fun _ _ => rfl) ⟨rfl, trivial⟩ ⟨Nat.zero_le _, SI.zero, hw⟩ ?_
  clear hw
  rintro σ1 k D w ⟨hk2, hSI, hw⟩
  have hDl := hSI.len
  repeat (first | refine go_run ?_ | (refine go_newP ?_; clear hw; intro p w hw) | (refine go_newW ?_; clear hw; intro w hw) | (refine go_newS ?_; clear hw; intro s w hw))
  refine go_if (fun h2 => ?_) (fun h2 => ?_)
  · have hkl : k < t.vars.length := by omega
    have hrg := stF_rng hg hok (f := firstV t.vars k + z.getD k tInt.dflt) ⟨k, hkl, rfl⟩
    obtain ⟨g0, g1, g2⟩ := dgf_nn hg.pos (fun i hi => (hg.dom i hi).2) hvl hkl
    have hz := hok.2 k (by omega)
    have hd := hg.dom k hkl
    have hnx := hSI.step hg hok hkl
    rw [← g0] at hnx hrg g1 g2
    repeat (first | refine go_run ?_ | (refine go_newP ?_; clear hw; intro p w hw) | (refine go_newW ?_; clear hw; intro w hw) | (refine go_newS ?_; clear hw; intro s w hw))
    exact ⟨k + 1, _, ⟨rfl, trivial⟩, by repeat (first | exact agree_refl | (apply agree_upd rfl) | (apply agree_mix rfl) | (apply agree_sets rfl)), ⟨by omega, hnx, hw⟩, by omega⟩
  have hke2 : k = t.vars.length := by omega
  subst hke2
  have hV0 := hSI.vi (cs := cs)
  clear hSI hDl
  repeat (first | refine go_run ?_ | (refine go_newP ?_; clear hw; intro p w hw) | (refine go_newW ?_; clear hw; intro w hw) | (refine go_newS ?_; clear hw; intro s w hw))
  refine vc_loop2 [11, 13, 14, 48, 49, 50, 51, 52, 53, 54, 55, 56, 57, 58, 59, 60, 61, 62, 63, 64, 65, 66, 67, 68, 69, 70, 71, 72, 73, 74, 75, 76, 77, 78, 79, 80, 81, 82, 83, 84, 85, 86, 87, 88, 89, 90] (G := Bool) (H := List Int) (fun ch _ => [(11, .bool ch)]) (fun ch D w => LVI (withC t cs) z D ∧ (ch = false → ∀ i : Nat, i < (unT t).length → (fun i D => hiV D (un (unT (withC t cs)) i).needs < inf → dg D (un (unT (withC t cs)) i).makes ≤ hiV D (un (unT (withC t cs)) i).needs + (un (unT (withC t cs)) i).cost) i D) ∧ Sat w0 w [OS tInt 3 ov D]) (fun ch D => 2 * sumD D + (bif ch then 1 else 0)) true _ (fun _ _ => rfl) ⟨rfl, trivial⟩ ⟨hV0, (fun h => by cases h), hw⟩ ?_
  clear hw hV0
  rintro σ2 ch D w ⟨hV, hst, hw⟩
  cases ch
  · repeat (first | refine go_run ?_ | (refine go_newP ?_; clear hw; intro p w hw) | (refine go_newW ?_; clear hw; intro w hw) | (refine go_newS ?_; clear hw; intro s w hw))
    exact res_one (v := ov) rfl rfl ⟨ov, D, rfl, hV.fin hgT fun i hi => hst rfl i (by
      by_cases h : i < (unT t).length
      · exact h
      · exfalso
        have : (unT (withC t cs)).length = (unT t).length := unT_wlen
        omega), hw⟩
  clear hst
  repeat (first | refine go_run ?_ | (refine go_newP ?_; clear hw; intro p w hw) | (refine go_newW ?_; clear hw; intro w hw) | (refine go_newS ?_; clear hw; intro s w hw))
  refine vc_loop3 [11, 13, 14, 54, 55, 56, 57, 58, 59, 60, 61, 62, 63, 64, 65, 66, 67, 68, 69, 70, 71, 72, 73, 74, 75, 76, 77, 78, 79, 80, 81, 82, 83, 84, 85, 86, 87, 88, 89, 90] (G := Nat) (H := Bool) (I := List Int) (fun k ch _ => [(54, .int .i64 k), (11, .bool ch)]) (fun k ch D' w => k ≤ (unT t).length ∧ LVI (withC t cs) z D' ∧ sumD D' ≤ sumD D ∧ (ch = true → sumD D' < sumD D) ∧ (ch = false → ∀ i : Nat, i < k → (fun i D => hiV D (un (unT (withC t cs)) i).needs < inf → dg D (un (unT (withC t cs)) i).makes ≤ hiV D (un (unT (withC t cs)) i).needs + (un (unT (withC t cs)) i).cost) i D') ∧ Sat w0 w [OS tInt 3 ov D']) (fun k _ _ => (unT t).length - k) 0 false D (fun _ _ _ => rfl) ⟨rfl, rfl, trivial⟩ ⟨Nat.zero_le _, hV, Nat.le_refl _, (fun h => by cases h), fun _ i hi => absurd hi (Nat.not_lt_zero _), hw⟩ ?_
  clear hw
  rintro σ3 k ch D' w ⟨hk3, hV', hs1, hs2, hs3, hw⟩
  repeat (first | refine go_run ?_ | (refine go_newP ?_; clear hw; intro p w hw) | (refine go_newW ?_; clear hw; intro w hw) | (refine go_newS ?_; clear hw; intro s w hw))
  refine go_if (fun h3 => ?_) (fun h3 => ?_)
  · have hkl : k < (unT t).length := by omega
    obtain ⟨c1, c2, L, c3, c4⟩ := hF k hkl
    obtain ⟨op, hop, hopl⟩ := un_opR hkl
    obtain ⟨u1, u2, u3, u4, u5⟩ := unT_with (cs := cs) hkl
    rw [hop, Int.toNat_natCast] at u5
    have hkl' : k < (unT (withC t cs)).length := by rw [u1]; exact hkl
    have hSL : SameM L (un (unT (withC t cs)) k).needs := by rw [u4]; exact c4
    have hnd := hV'.need hgT hkl' hSL
    have hmk := (unT_ok hgT).makes k hkl'
    have hDl := hV'.len
    have hfT : factN (withC t cs) = factN t := rfl
    have hcr2 := hc.2 _ (mem_getD tInt.dflt (show op < cs.length by omega))
    have hsame := hiV_same hSL fun f hf => (hnd f hf).1
    have hnn := hiV_nn (V := D') fun f hf => (hnd f hf).1
    have hmr := hV'.rng _ hmk.1 hmk.2
    rw [u3] at hmk hmr
    obtain ⟨mk, hmke⟩ : ∃ mk, mk = (un (unT t) k).makes := ⟨_, rfl⟩
    rw [← hmke] at hmk hmr c2 u3
    have ouk := c3.one
    have houk : (tCU.enc (eget tCU us k)).all Value.oneCell' = true := by
      show ((Value.int .i64 (eget tCU us k).op).oneCell' && ((Value.int .i64 (eget tCU us k).makes).oneCell' && ((eget tCU us k).needs.oneCell' && true))) = true
      rw [ouk]; rfl
    have hen : tCU.enc (eget tCU us k) = [.int .i64 (op : Int), .int .i64 mk, (eget tCU us k).needs] := by
      show [Value.int .i64 (eget tCU us k).op, Value.int .i64 (eget tCU us k).makes, (eget tCU us k).needs] = _
      rw [c1, c2, hop]
    repeat (first | refine go_run ?_ | (refine go_newP ?_; clear hw; intro p w hw) | (refine go_newW ?_; clear hw; intro w hw) | (refine go_newS ?_; clear hw; intro s w hw))
    refine st_call rfl (lhighest_spec (lv := (eget tCU us k).needs) (c3.at hw) (rsO (s := ov) hw) fun f hf => ⟨(hnd f hf).1.1, by have := (hnd f hf).2; omega⟩) ?_
    rintro _ w' ⟨rfl, hk'⟩
    replace hw := hw.call0 hk'
    clear hk'
    refine ⟨_, rfl, ?_⟩
    obtain ⟨p13, hp13⟩ : ∃ p13, p13 = p := ⟨p, rfl⟩
    subst hp13
    replace hw : Sat w0 w' [Box p13 135 [.int .i64 (op : Int), .int .i64 mk, (eget tCU us k).needs], OS tInt 3 ov D'] := by rw [← hen]; exact hw
    by_cases q1 : hiV D' L < inf
    · have q1' : hiV D' L < 1125899906842624 := q1
      have hd1 : decide (hiV D' L < 1125899906842624) = true := decide_eq_true q1
      by_cases q2 : hiV D' L + cs.getD op tInt.dflt < dg D' mk
      · have hd2 : decide (hiV D' L + cs.getD op tInt.dflt < D'.getD mk.toNat tInt.dflt) = true := decide_eq_true q2
        have hrx := hV'.relax hgT hkl' hSL q1 (by rw [u5, u3]; exact q2)
        rw [u5, u3] at hrx
        repeat (first | refine go_run ?_ | (refine go_newP ?_; clear hw; intro p w hw) | (refine go_newWr ?_; clear hw; intro w hw) | (refine go_newS ?_; clear hw; intro s w hw))
        refine go_draw ?_
        clear hw
        intro w hw
        repeat (first | refine go_run ?_ | (refine go_newP ?_; clear hw; intro p w hw) | (refine go_newWr ?_; clear hw; intro w hw) | (refine go_newS ?_; clear hw; intro s w hw))
        simp only [hd1, beq_self_eq_true, beq_tfI, beq_ftI, Bool.false_and, Bool.true_and, Bool.false_or, Bool.true_or, Bool.not_true, Bool.not_false, Bool.cond_true, Bool.cond_false, gv_fI, gv_tI]
        repeat (first | refine go_run ?_ | (refine go_newP ?_; clear hw; intro p w hw) | (refine go_newWr ?_; clear hw; intro w hw) | (refine go_newS ?_; clear hw; intro s w hw))
        simp only [hd2, beq_self_eq_true, beq_tfI, beq_ftI, Bool.false_and, Bool.true_and, Bool.false_or, Bool.true_or, Bool.not_true, Bool.not_false, Bool.cond_true, Bool.cond_false, gv_fI, gv_tI]
        repeat (first | refine go_run ?_ | (refine go_newP ?_; clear hw; intro p w hw) | (refine go_newWr ?_; clear hw; intro w hw) | (refine go_newS ?_; clear hw; intro s w hw))
        refine go_draw ?_
        clear hw
        intro w hw
        repeat (first | refine go_run ?_ | (refine go_newP ?_; clear hw; intro p w hw) | (refine go_newWr ?_; clear hw; intro w hw) | (refine go_newS ?_; clear hw; intro s w hw))
        exact ⟨k + 1, true, _, ⟨rfl, rfl, trivial⟩, by repeat (first | exact agree_refl | (apply agree_upd rfl) | (apply agree_mix rfl) | (apply agree_sets rfl)), ⟨by omega, hrx.1, by omega, fun _ => by omega, (fun h => by cases h), hw.tail⟩, by omega⟩
      · have hd2 : decide (hiV D' L + cs.getD op tInt.dflt < D'.getD mk.toNat tInt.dflt) = false := decide_eq_false q2
        repeat (first | refine go_run ?_ | (refine go_newP ?_; clear hw; intro p w hw) | (refine go_newWr ?_; clear hw; intro w hw) | (refine go_newS ?_; clear hw; intro s w hw))
        refine go_draw ?_
        clear hw
        intro w hw
        repeat (first | refine go_run ?_ | (refine go_newP ?_; clear hw; intro p w hw) | (refine go_newWr ?_; clear hw; intro w hw) | (refine go_newS ?_; clear hw; intro s w hw))
        simp only [hd1, beq_self_eq_true, beq_tfI, beq_ftI, Bool.false_and, Bool.true_and, Bool.false_or, Bool.true_or, Bool.not_true, Bool.not_false, Bool.cond_true, Bool.cond_false, gv_fI, gv_tI]
        repeat (first | refine go_run ?_ | (refine go_newP ?_; clear hw; intro p w hw) | (refine go_newWr ?_; clear hw; intro w hw) | (refine go_newS ?_; clear hw; intro s w hw))
        simp only [hd2, beq_self_eq_true, beq_tfI, beq_ftI, Bool.false_and, Bool.true_and, Bool.false_or, Bool.true_or, Bool.not_true, Bool.not_false, Bool.cond_true, Bool.cond_false, gv_fI, gv_tI]
        repeat (first | refine go_run ?_ | (refine go_newP ?_; clear hw; intro p w hw) | (refine go_newWr ?_; clear hw; intro w hw) | (refine go_newS ?_; clear hw; intro s w hw))
        refine ⟨k + 1, ch, D', ⟨rfl, rfl, trivial⟩, by repeat (first | exact agree_refl | (apply agree_upd rfl) | (apply agree_mix rfl) | (apply agree_sets rfl)), ⟨by omega, hV', hs1, hs2, fun hch i hi => ?_, hw.tail⟩, by omega⟩
        by_cases e : i = k
        · subst e
          intro _
          rw [u5, u3, ← hsame]
          omega
        · exact hs3 hch i (by omega)
    · have hd1 : decide (hiV D' L < 1125899906842624) = false := decide_eq_false q1
      repeat (first | refine go_run ?_ | (refine go_newP ?_; clear hw; intro p w hw) | (refine go_newWr ?_; clear hw; intro w hw) | (refine go_newS ?_; clear hw; intro s w hw))
      refine go_draw ?_
      clear hw
      intro w hw
      repeat (first | refine go_run ?_ | (refine go_newP ?_; clear hw; intro p w hw) | (refine go_newWr ?_; clear hw; intro w hw) | (refine go_newS ?_; clear hw; intro s w hw))
      simp only [hd1, beq_self_eq_true, beq_tfI, beq_ftI, Bool.false_and, Bool.true_and, Bool.false_or, Bool.true_or, Bool.not_true, Bool.not_false, Bool.cond_true, Bool.cond_false, gv_fI, gv_tI]
      repeat (first | refine go_run ?_ | (refine go_newP ?_; clear hw; intro p w hw) | (refine go_newWr ?_; clear hw; intro w hw) | (refine go_newS ?_; clear hw; intro s w hw))
      refine ⟨k + 1, ch, D', ⟨rfl, rfl, trivial⟩, by repeat (first | exact agree_refl | (apply agree_upd rfl) | (apply agree_mix rfl) | (apply agree_sets rfl)), ⟨by omega, hV', hs1, hs2, fun hch i hi => ?_, hw.tail⟩, by omega⟩
      by_cases e : i = k
      · subst e
        intro hlt
        rw [← hsame] at hlt
        exact absurd hlt q1
      · exact hs3 hch i (by omega)
  · repeat (first | refine go_run ?_ | (refine go_newP ?_; clear hw; intro p w hw) | (refine go_newW ?_; clear hw; intro w hw) | (refine go_newS ?_; clear hw; intro s w hw))
    refine ⟨ch, D', ⟨rfl, trivial⟩, by repeat (first | exact agree_refl | (apply agree_upd rfl) | (apply agree_mix rfl) | (apply agree_sets rfl)), ⟨hV', fun hch i hi => hs3 hch i (by omega), hw⟩, ?_⟩
    cases ch
    · simp only [cond_true, cond_false]; omega
    · have := hs2 rfl
      simp only [cond_true]; omega
end Go.Proofs.YtkmbenhffledpaaGreat
