
/-
  Contract of 'lmcut.New' for a right task.
-/
import Derived.Test.YtkmbenhffledpaaGreatWLm7
import Derived.Test.YtkmbenhffledpaaGreatMW4
set_option linter.unusedSimpArgs false
set_option linter.unusedVariables false
namespace Go.Proofs.YtkmbenhffledpaaGreat
open Go.Sl Go
attribute [local irreducible] vc opsW opsD opV opW PureV ReadV Thn Blk
theorem CuF.snoc {us : List CUV} {U : List Un} {v : CUV} {u : Un} {w : World} (h : CuF us U w) (hl : us.length = U.length) (hv : CuOk w v u) : CuF (us ++ [v]) (U ++ [u]) w := fun i hi => by
  by_cases e : i < U.length
  · rw [eget_snocL (by omega), un_snoc_old e]; exact h i e
  · have e2 : i = U.length := by rw [List.length_append, List.length_singleton] at hi; omega
    rw [eget_snocR (by omega), e2, un_snoc_new]; exact hv
theorem needs_same {vars : List Int} {p q : List Fact} : SameM (compL (sortL (p.map (numF vars) ++ q.map (numF vars)))) (needsL vars q (needsL vars p [])) := fun x => by
  rw [compL_mem, sortL_mem, List.mem_append, List.mem_map, List.mem_map, mem_needsL, mem_needsL]
  simp
set_option maxRecDepth 8000 in
set_option maxHeartbeats 8000000 in
theorem lNew_spec {w0 : World} {a b c d : Value} {vs : List OpV} {t : TTask} (ht : RTask w0 a b c d vs t) (hg : GoodT t) :
    Calls Tryz.prog 34 #[.agg #[a, b, c, d]] w0 fun e w' => ∃ p a2 fv gv cv lv us, e = .returned (.tuple #[.pointer (some p), .nilIface]) ∧ Sat w0 w' [RdH fun w => LcR w p t a2 fv gv cv lv us] := by
  have ht' := ht
  obtain ⟨ha, hb, hc, hd⟩ := ht
  have hdr := hd.rs
  have hdl := hd.len
  have hvl := hg.vars
  have hol := hg.ops
  have hgl := facts_len hg.goal
  have hN := factN_le hg
  have hgf : ∀ f ∈ t.goal, FactOk t.vars f := fun f hf => by
    obtain ⟨i, hi, e⟩ := List.getElem_of_mem hf
    have := (hg.goal i hi).1
    rw [getD_at hi, e] at this; exact this
  have hdm := fun i hi => (hg.dom i hi).2
  have hw := Sat.start w0
  refine calls_of_vc (args := [.agg #[a, b, c, d]]) mixed Tryz.func34 rfl (by kernel_rfl) (Nat.le_of_ble_eq_true rfl) ?_
  repeat (first | refine go_run ?_ | (refine go_newP ?_; clear hw; intro p w hw) | (refine go_newWr ?_; clear hw; intro w hw) | (refine go_newS ?_; clear hw; intro s w hw))
  obtain ⟨pt, hpt⟩ : ∃ pt, pt = p := ⟨p, rfl⟩
  subst hpt
  refine st_call rfl (Check_spec (ht'.at hw)) ?_
  rintro _ w' ⟨rfl, hk'⟩
  replace hw := hw.call0 hk'
  clear hk'
  refine ⟨_, rfl, ?_⟩
  rw [errV_zero ((good_iff t).2 hg)]
  repeat (first | refine go_run ?_ | (refine go_newP ?_; clear hw; intro p w hw) | (refine go_newWr ?_; clear hw; intro w hw) | (refine go_newS ?_; clear hw; intro s w hw))
  refine st_call rfl (Clone_spec (ha.at hw) (by omega)) ?_
  rintro _ w' ⟨a2, rfl, hk'⟩
  replace hw := hw.call1 hk'
  clear hk'
  refine ⟨_, rfl, ?_⟩
  have oa := (rsO (s := a2) hw).one
  repeat (first | refine go_run ?_ | (refine go_newP ?_; clear hw; intro p w hw) | (refine go_newWr ?_; clear hw; intro w hw) | (refine go_newS ?_; clear hw; intro s w hw))
  refine st_buildN (vs := [(0, a2)]) (ls := [(0, [a2])]) rfl (by show [(0, a2.cells.toList)] = _; rw [oneCell_cells oa]) rfl ?_
  refine st_boxAggNew (vs := [a2, .slice none 0 0, .int .i64 0, .slice none 0 0, .slice none 0 0, .slice none 0 0]) rfl hw ?_
  clear hw
  intro pr w hw
  replace hw : Sat w0 w [Box pr 131 [a2, .slice none 0 0, .int .i64 0, .slice none 0 0, .slice none 0 0, .slice none 0 0], OS tInt 3 a2 t.vars, Box pt 26 [a, b, c, d]] := hw
  replace hw := hw.nil (T := tInt) (e := 3)
  repeat (first | refine go_run ?_ | (refine go_newP ?_; clear hw; intro p w hw) | (refine go_newWr ?_; clear hw; intro w hw) | (refine go_newS ?_; clear hw; intro s w hw))
  refine vc_loop2 [7, 26, 27, 28, 29, 30, 31, 32, 33, 34, 35, 36, 37, 38, 39, 40, 41, 42, 43, 44, 45, 46, 47, 48, 49, 50, 51] (G := Nat) (H := Value) (fun k _ => [(26, .int .i64 k)]) (fun k fv w => k ≤ t.vars.length ∧ Sat w0 w [OS tInt 3 fv (fstL t.vars k), Box pr 131 [a2, fv, .int .i64 (firstV t.vars k), .slice none 0 0, .slice none 0 0, .slice none 0 0], OS tInt 3 a2 t.vars, Box pt 26 [a, b, c, d]]) (fun k _ => t.vars.length - k) 0 (.slice none 0 0) (fun _ _ => rfl) ⟨rfl, trivial⟩ ⟨Nat.zero_le _, hw⟩ ?_
  clear hw
  rintro σ k fv w ⟨hk, hw⟩
  have hfl := fstL_len t.vars k
  repeat (first | refine go_run ?_ | (refine go_newP ?_; clear hw; intro p w hw) | (refine go_newW ?_; clear hw; intro w hw) | (refine go_newS ?_; clear hw; intro s w hw))
  refine go_if (fun h1 => ?_) (fun h1 => ?_)
  · have hkl : k < t.vars.length := by omega
    have hdk := hg.dom k hkl
    have hf0 := firstV_nn hg.pos (b := k) (by omega)
    have hf1 := firstV_le (fun i hi => (hg.dom i hi).2) (b := k) (by omega)
    repeat (first | refine go_run ?_ | (refine go_newP ?_; clear hw; intro p w hw) | (refine go_newWr ?_; clear hw; intro w hw) | (refine go_newS ?_; clear hw; intro s w hw))
    refine vc_plan [.op 0, .op 1, .op 2, .op 3, .op 4, .op 5, .op 6, .op 7, .op 8, .op 9, .chk 4, .op 10, .op 11, .op 12, .op 13] hw (by kernel_rfl) ?_; clear hw; intro w hw
    repeat (first | refine go_run ?_ | (refine go_newP ?_; clear hw; intro p w hw) | (refine go_newWr ?_; clear hw; intro w hw) | (refine go_newS ?_; clear hw; intro s w hw))
    simp only [List.set_cons_succ, List.set_cons_zero] at hw
    rw [← fstL_succ, ← firstV_succ hkl] at hw
    obtain ⟨fv2, hfv2⟩ : ∃ fv2, fv2 = s := ⟨s, rfl⟩
    subst hfv2
    exact ⟨k + 1, fv2, ⟨rfl, trivial⟩, by repeat (first | exact agree_refl | (apply agree_upd rfl) | (apply agree_mix rfl) | (apply agree_sets rfl)), ⟨by omega, hw.tail⟩, by omega⟩
  have hke : k = t.vars.length := by omega
  subst hke
  rw [← factN_eq hg] at hw
  repeat (first | refine go_run ?_ | (refine go_newP ?_; clear hw; intro p w hw) | (refine go_newWr ?_; clear hw; intro w hw) | (refine go_newS ?_; clear hw; intro s w hw))
  refine st_call rfl (lnumbers_spec (boxRO (p := pr) hw) (rsO (s := fv) hw) hg.pos hdm hvl (hc.at hw) hgf (by omega)) ?_
  rintro _ w' ⟨gv, rfl, hk'⟩
  replace hw := hw.call1 hk'
  clear hk'
  refine ⟨_, rfl, ?_⟩
  have ogv := (rsO (s := gv) hw).one
  repeat (first | refine go_run ?_ | (refine go_newP ?_; clear hw; intro p w hw) | (refine go_newWr ?_; clear hw; intro w hw) | (refine go_newS ?_; clear hw; intro s w hw))
  simp only [List.set_cons_succ, List.set_cons_zero] at hw
  have hw1 : Sat w0 w (Box pr 131 [a2, fv, .int .i64 (factN t : Int), gv, (.slice none 0 0), (.slice none 0 0)] :: OS tInt 3 (.slice none 0 0) ((costsT t).take 0) :: OS tCU 135 (.slice none 0 0) ([] : List CUV) :: RdH (CuF ([] : List CUV) (unK t 0)) :: OS tInt 3 fv (fstL t.vars t.vars.length) :: OS tInt 3 gv (goalN t) :: OS tInt 3 a2 t.vars :: [Box pt 26 [a, b, c, d]]) := by
    have g1 : Sat w0 w [OS tInt 3 gv (goalN t), OS tInt 3 fv (fstL t.vars t.vars.length), Box pr 131 [a2, fv, .int .i64 (factN t : Int), gv, .slice none 0 0, .slice none 0 0], OS tInt 3 a2 t.vars, Box pt 26 [a, b, c, d]] := hw
    have g2 := Sat.rd0 (φ := CuF [] []) (fun w i hi => absurd hi (Nat.not_lt_zero _)) ((g1.nil (T := tInt) (e := 3)).nil (T := tCU) (e := 135))
    have hu0 : unK t 0 = [] := by simp [unK]
    rw [hu0, List.take_zero]
    exact g2.selG
  clear hw
  have hw := hw1
  clear hw1
  refine vc_loop [8, 9, 11, 12, 62, 63, 64, 65, 66, 67, 68, 69, 70, 71, 72, 73, 74, 75, 76, 77, 78, 79, 80, 81, 82, 83, 84, 85, 86, 87, 88, 89, 90, 91, 92, 93, 94, 95, 96, 97, 98, 99, 100, 101, 102, 103, 104, 105, 106, 107, 108, 109, 110, 111, 112, 113, 114, 115, 116, 117, 118, 119, 120, 121] (G := Nat) (fun k => [(62, .int .i64 k)]) (fun k w => k ≤ t.ops.length ∧ ∃ cv lv us, us.length = (unK t k).length ∧ Sat w0 w (Box pr 131 [a2, fv, .int .i64 (factN t : Int), gv, cv, lv] :: OS tInt 3 cv ((costsT t).take k) :: OS tCU 135 lv us :: RdH (CuF us (unK t k)) :: OS tInt 3 fv (fstL t.vars t.vars.length) :: OS tInt 3 gv (goalN t) :: OS tInt 3 a2 t.vars :: [Box pt 26 [a, b, c, d]])) (fun k => t.ops.length - k) 0 (fun _ => rfl) ⟨rfl, trivial⟩ ⟨Nat.zero_le _, _, _, _, rfl, hw⟩ ?_
  clear hw
  rintro σ1 k w ⟨hk, cv, lv, us, hul, hw⟩
  repeat (first | refine go_run ?_ | (refine go_newP ?_; clear hw; intro p w hw) | (refine go_newW ?_; clear hw; intro w hw) | (refine go_newS ?_; clear hw; intro s w hw))
  refine go_if (fun h2 => ?_) (fun h2 => ?_)
  · have hkl : k < t.ops.length := by omega
    have hop := hd.at_ k hkl
    have hone := hop.one
    have hpre := hop.pre
    have hgo := hg.op k hkl
    have hpl := facts_len hgo.pre
    have hel := hgo.effs
    have hco := hop.cost
    obtain ⟨es, hes⟩ := hop.effs
    have hesr := hes.rs
    have hesl := hes.len
    have hcl : (costsT t).length = t.ops.length := costs_len t
    have hctl : ((costsT t).take k).length = k := by rw [List.length_take]; omega
    have hcsn : (costsT t).take (k + 1) = (costsT t).take k ++ [(eget tOp vs k).cost] := by rw [take_snoc tInt.dflt (by omega), costsT_at hkl, hco]
    repeat (first | refine go_run ?_ | (refine go_newP ?_; clear hw; intro p w hw) | (refine go_newWr ?_; clear hw; intro w hw) | (refine go_newS ?_; clear hw; intro s w hw))
    obtain ⟨p9, hp9⟩ : ∃ p9, p9 = p := ⟨p, rfl⟩
    subst hp9
    refine vc_plan [.op 0, .op 1, .op 2, .op 3, .op 4, .op 5, .op 6, .op 7, .chk 4, .op 8, .op 9, .op 10, .op 11] hw (by kernel_rfl) ?_; clear hw; intro w hw
    repeat (first | refine go_run ?_ | (refine go_newP ?_; clear hw; intro p w hw) | (refine go_newWr ?_; clear hw; intro w hw) | (refine go_newS ?_; clear hw; intro s w hw))
    simp only [List.set_cons_succ, List.set_cons_zero] at hw
    rw [← hcsn] at hw
    obtain ⟨cv2, hcv2⟩ : ∃ cv2, cv2 = s := ⟨s, rfl⟩
    subst hcv2
    have hw1 : Sat w0 w (Box pr 131 [a2, fv, .int .i64 (factN t : Int), gv, cv2, lv] :: OS tInt 3 cv2 ((costsT t).take (k + 1)) :: OS tCU 135 lv us :: RdH (CuF us (unK t k ++ unO t.vars k (t.ops.getD k dOp) 0)) :: Box p9 56 (tOp.enc (eget tOp vs k)) :: OS tInt 3 fv (fstL t.vars t.vars.length) :: OS tInt 3 gv (goalN t) :: OS tInt 3 a2 t.vars :: [Box pt 26 [a, b, c, d]]) := by
      have hu0 : unO t.vars k (t.ops.getD k dOp) 0 = [] := rfl
      rw [hu0, List.append_nil]
      exact hw.selG
    clear hw
    have hw := hw1
    clear hw1
    repeat (first | refine go_run ?_ | (refine go_newP ?_; clear hw; intro p w hw) | (refine go_newWr ?_; clear hw; intro w hw) | (refine go_newS ?_; clear hw; intro s w hw))
    refine vc_loop [11, 12, 81, 82, 83, 84, 85, 86, 87, 88, 89, 90, 91, 92, 93, 94, 95, 96, 97, 98, 99, 100, 101, 102, 103, 104, 105, 106, 107, 108, 109, 110, 111, 112, 113, 114, 115, 116, 117, 118, 119, 120] (G := Nat) (fun j => [(81, .int .i64 j)]) (fun j w => j ≤ (t.ops.getD k dOp).effs.length ∧ ∃ lv us, us.length = (unK t k ++ unO t.vars k (t.ops.getD k dOp) j).length ∧ Sat w0 w (Box pr 131 [a2, fv, .int .i64 (factN t : Int), gv, cv2, lv] :: OS tInt 3 cv2 ((costsT t).take (k + 1)) :: OS tCU 135 lv us :: RdH (CuF us (unK t k ++ unO t.vars k (t.ops.getD k dOp) j)) :: Box p9 56 (tOp.enc (eget tOp vs k)) :: OS tInt 3 fv (fstL t.vars t.vars.length) :: OS tInt 3 gv (goalN t) :: OS tInt 3 a2 t.vars :: [Box pt 26 [a, b, c, d]])) (fun j => (t.ops.getD k dOp).effs.length - j) 0 (fun _ => rfl) ⟨rfl, trivial⟩ ⟨Nat.zero_le _, _, _, by rw [show unO t.vars k (t.ops.getD k dOp) 0 = [] from rfl, List.append_nil]; exact hul, hw⟩ ?_
    clear hw hul
    clear lv us
    rintro σ2 j w ⟨hj, lv, us, hul, hw⟩
    repeat (first | refine go_run ?_ | (refine go_newP ?_; clear hw; intro p w hw) | (refine go_newW ?_; clear hw; intro w hw) | (refine go_newS ?_; clear hw; intro s w hw))
    refine go_if (fun h3 => ?_) (fun h3 => ?_)
    · have hjl : j < (t.ops.getD k dOp).effs.length := by omega
      have hue := hes.at_ j hjl
      have hgf2 := hgo.eff j hjl
      have hueo := hue.one
      have hwh := hue.when
      have hkp : ∀ f ∈ (t.ops.getD k dOp).pre, FactOk t.vars f := fun f hf => by
        obtain ⟨i, hi, rfl⟩ := List.getElem_of_mem hf
        have := (hgo.pre i hi).1
        rwa [getD_at hi] at this
      have hkw : ∀ f ∈ ((t.ops.getD k dOp).effs.getD j dEff).when, FactOk t.vars f := fun f hf => by
        obtain ⟨i, hi, rfl⟩ := List.getElem_of_mem hf
        have := (hgf2.1 i hi).1
        rwa [getD_at hi] at this
      have hwl := facts_len hgf2.1
      repeat (first | refine go_run ?_ | (refine go_newP ?_; clear hw; intro p w hw) | (refine go_newWr ?_; clear hw; intro w hw) | (refine go_newS ?_; clear hw; intro s w hw))
      obtain ⟨p11, hp11⟩ : ∃ p11, p11 = p := ⟨p, rfl⟩
      subst hp11
      refine vc_plan [.op 0, .op 1, .op 2, .op 4, .op 5, .op 6, .op 3, .chk 6, .op 7, .op 8, .op 9] hw (by kernel_rfl) ?_; clear hw; intro w hw
      repeat (first | refine go_run ?_ | (refine go_newP ?_; clear hw; intro p w hw) | (refine go_newWr ?_; clear hw; intro w hw) | (refine go_newS ?_; clear hw; intro s w hw))
      refine st_call rfl (lnumbers_spec (boxRO (p := pr) hw) (rsO (s := fv) hw) hg.pos hdm hvl (hpre.at hw) hkp (by omega)) ?_
      rintro _ w' ⟨n1, rfl, hk'⟩
      replace hw := hw.call1 hk'
      clear hk'
      refine ⟨_, rfl, ?_⟩
      repeat (first | refine go_run ?_ | (refine go_newP ?_; clear hw; intro p w hw) | (refine go_newWr ?_; clear hw; intro w hw) | (refine go_newS ?_; clear hw; intro s w hw))
      refine st_call rfl (lnumbers_spec (boxRO (p := pr) hw) (rsO (s := fv) hw) hg.pos hdm hvl (hwh.at hw) hkw (by omega)) ?_
      rintro _ w' ⟨n2, rfl, hk'⟩
      replace hw := hw.call1 hk'
      clear hk'
      refine ⟨_, rfl, ?_⟩
      have hl1 : ((t.ops.getD k dOp).pre.map (numF t.vars)).length = (t.ops.getD k dOp).pre.length := List.length_map _
      have hl2 : (((t.ops.getD k dOp).effs.getD j dEff).when.map (numF t.vars)).length = ((t.ops.getD k dOp).effs.getD j dEff).when.length := List.length_map _
      repeat (first | refine go_run ?_ | (refine go_newP ?_; clear hw; intro p w hw) | (refine go_newWr ?_; clear hw; intro w hw) | (refine go_newS ?_; clear hw; intro s w hw))
      obtain ⟨nd, hnd⟩ : ∃ nd, nd = s := ⟨s, rfl⟩
      subst hnd
      have hw1 : Sat w0 w (OS tInt 3 nd ((t.ops.getD k dOp).pre.map (numF t.vars) ++ ((t.ops.getD k dOp).effs.getD j dEff).when.map (numF t.vars)) :: Box p11 80 (tEff.enc (eget tEff es j)) :: Box p9 56 (tOp.enc (eget tOp vs k)) :: Box pr 131 [a2, fv, .int .i64 (factN t : Int), gv, cv2, lv] :: OS tInt 3 cv2 ((costsT t).take (k + 1)) :: OS tCU 135 lv us :: RdH (CuF us (unK t k ++ unO t.vars k (t.ops.getD k dOp) j)) :: OS tInt 3 fv (fstL t.vars t.vars.length) :: OS tInt 3 gv (goalN t) :: OS tInt 3 a2 t.vars :: [Box pt 26 [a, b, c, d]]) := hw.selG
      have hll : ((t.ops.getD k dOp).pre.map (numF t.vars) ++ ((t.ops.getD k dOp).effs.getD j dEff).when.map (numF t.vars)).length ≤ 128 := by rw [List.length_append]; omega
      refine st_call rfl (Sort_spec (s := nd) hw1 (by omega)) ?_
      clear hw hw1
      rintro _ w ⟨rfl, hw⟩
      refine ⟨_, rfl, ?_⟩
      have hfo : FactOk t.vars ⟨(eget tEff es j).var, (eget tEff es j).val⟩ := by rw [hue.var, hue.val]; exact effOk_range hgf2
      obtain ⟨x0, x1, x2, x3⟩ := hfo
      have y0 : 0 ≤ (eget tEff es j).var := x0
      have y1 : (eget tEff es j).var < t.vars.length := x1
      have y2 : 0 ≤ (eget tEff es j).val := x2
      have y3 : (eget tEff es j).val < t.vars.getD (eget tEff es j).var.toNat tInt.dflt := x3
      clear x0 x1 x2 x3
      have hv : (eget tEff es j).var.toNat < t.vars.length := by omega
      obtain ⟨g0, g1, g2⟩ := dgf_nn hg.pos hdm hvl hv
      have g3 := hdm _ hv
      rw [← g0] at g1 g2
      have hfl := fstL_len t.vars t.vars.length
      have hUl : us.length ≤ 1048576 := by
        have h5 := unK_len hg (k := k) (by omega)
        rw [hul, List.length_append, unO_len]; omega
      repeat (first | refine go_run ?_ | (refine go_newP ?_; clear hw; intro p w hw) | (refine go_newWr ?_; clear hw; intro w hw) | (refine go_newS ?_; clear hw; intro s w hw))
      refine vc_plan [.op 0, .op 1, .op 2, .op 3, .op 4, .op 5, .op 6, .op 7, .op 8, .op 9, .op 10, .op 11, .op 12, .op 13, .op 14, .op 15, .op 16, .op 17, .op 18, .chk 4, .chk 9, .chk 11, .chk 13, .chk 15, .op 19, .chk 4, .op 20, .chk 4, .op 21, .op 22, .op 23, .op 24] hw (by kernel_rfl) ?_; clear hw; intro w hw
      repeat (first | refine go_run ?_ | (refine go_newP ?_; clear hw; intro p w hw) | (refine go_newWr ?_; clear hw; intro w hw) | (refine go_newS ?_; clear hw; intro s w hw))
      refine st_call rfl (Compact_spec (s := nd) hw (by rw [sortL_len]; omega)) ?_
      clear hw
      rintro _ w ⟨nd2, rfl, hw⟩
      refine ⟨_, rfl, ?_⟩
      have ond := (rsO (s := nd2) hw).one
      repeat (first | refine go_run ?_ | (refine go_newP ?_; clear hw; intro p w hw) | (refine go_newWr ?_; clear hw; intro w hw) | (refine go_newS ?_; clear hw; intro s w hw))
      have hmk : (fstL t.vars t.vars.length).getD (eget tEff es j).var.toNat tInt.dflt + (eget tEff es j).val = numF t.vars ⟨((t.ops.getD k dOp).effs.getD j dEff).var, ((t.ops.getD k dOp).effs.getD j dEff).val⟩ := by
        rw [g0, hue.var, hue.val]; rfl
      rw [hmk]
      obtain ⟨mk, hmke⟩ : ∃ mk, mk = numF t.vars ⟨((t.ops.getD k dOp).effs.getD j dEff).var, ((t.ops.getD k dOp).effs.getD j dEff).val⟩ := ⟨_, rfl⟩
      rw [← hmke]
      refine st_build3 (v1 := .int .i64 (k : Int)) (v2 := .int .i64 mk) (v3 := nd2) rfl rfl rfl rfl (by simp only [List.all_cons, List.all_nil, ond]; rfl) ?_
      repeat (first | refine go_run ?_ | (refine go_newP ?_; clear hw; intro p w hw) | (refine go_newWr ?_; clear hw; intro w hw) | (refine go_newS ?_; clear hw; intro s w hw))
      refine st_buildSlice1 tCU (x1 := ⟨k, mk, nd2⟩) rfl rfl rfl (Nat.le_of_ble_eq_true rfl) (Nat.zero_lt_succ _) hw ?_
      clear hw
      intro sl w hw
      repeat (first | refine go_run ?_ | (refine go_newP ?_; clear hw; intro p w hw) | (refine go_newWr ?_; clear hw; intro w hw) | (refine go_newS ?_; clear hw; intro s w hw))
      refine st_append (s := lv) (s2 := sl) inferInstance rfl rfl (rsO hw) rfl rfl (fun x hx v hv => ?_) (by simp only [List.length_cons, List.length_nil]; omega) (by unfold big; simp only [List.length_cons, List.length_nil]; omega) hw ?_
      · rw [List.mem_singleton.1 hx] at hv
        simp only [tCU, List.mem_cons, List.not_mem_nil, or_false] at hv
        rcases hv with rfl | rfl | rfl
        · rfl
        · rfl
        · exact ond
      clear hw
      intro lv2 w hw
      repeat (first | refine go_run ?_ | (refine go_newP ?_; clear hw; intro p w hw) | (refine go_newWr ?_; clear hw; intro w hw) | (refine go_newS ?_; clear hw; intro s w hw))
      simp only [List.set_cons_succ, List.set_cons_zero] at hw
      have hw3 : Sat w0 w (OS tInt 3 nd2 (compL (sortL ((t.ops.getD k dOp).pre.map (numF t.vars) ++ ((t.ops.getD k dOp).effs.getD j dEff).when.map (numF t.vars)))) :: RdH (CuF us (unK t k ++ unO t.vars k (t.ops.getD k dOp) j)) :: Box pr 131 [a2, fv, .int .i64 (factN t : Int), gv, cv2, lv2] :: OS tInt 3 cv2 ((costsT t).take (k + 1)) :: OS tCU 135 lv2 (us ++ [⟨k, mk, nd2⟩]) :: Box p9 56 (tOp.enc (eget tOp vs k)) :: OS tInt 3 fv (fstL t.vars t.vars.length) :: OS tInt 3 gv (goalN t) :: OS tInt 3 a2 t.vars :: [Box pt 26 [a, b, c, d]]) := hw.selG
      have hw4 := Sat.rd (Δ := [OS tInt 3 nd2 (compL (sortL ((t.ops.getD k dOp).pre.map (numF t.vars) ++ ((t.ops.getD k dOp).effs.getD j dEff).when.map (numF t.vars)))), RdH (CuF us (unK t k ++ unO t.vars k (t.ops.getD k dOp) j))]) (φ := CuF (us ++ [⟨k, mk, nd2⟩]) (unK t k ++ unO t.vars k (t.ops.getD k dOp) (j + 1))) (fun _ w h => by
        rw [unO_succ, ← List.append_assoc]
        exact (h.rdE 1 rfl).snoc hul ⟨rfl, hmke, _, h.rs 0 rfl, needs_same⟩) hw3
      exact ⟨j + 1, ⟨rfl, trivial⟩, by repeat (first | exact agree_refl | (apply agree_upd rfl) | (apply agree_mix rfl) | (apply agree_sets rfl)), ⟨by omega, lv2, us ++ [⟨k, mk, nd2⟩], by rw [unO_succ, ← List.append_assoc, List.length_append, List.length_append, hul]; rfl, hw4.selG⟩, by omega⟩
    have hje : j = (t.ops.getD k dOp).effs.length := by omega
    subst hje
    rw [← unK_succ] at hw hul
    repeat (first | refine go_run ?_ | (refine go_newP ?_; clear hw; intro p w hw) | (refine go_newWr ?_; clear hw; intro w hw) | (refine go_newS ?_; clear hw; intro s w hw))
    exact ⟨k + 1, ⟨rfl, trivial⟩, by repeat (first | exact agree_refl | (apply agree_upd rfl) | (apply agree_mix rfl) | (apply agree_sets rfl)), ⟨by omega, cv2, lv, us, hul, hw.selG⟩, by omega⟩
  have hke : k = t.ops.length := by omega
  subst hke
  rw [List.take_of_length_le (by rw [costs_len]; exact Nat.le_refl _)] at hw
  repeat (first | refine go_run ?_ | (refine go_newP ?_; clear hw; intro p w hw) | (refine go_newWr ?_; clear hw; intro w hw) | (refine go_newS ?_; clear hw; intro s w hw))
  have hw2 := Sat.rd (Δ := [Box pr 131 [a2, fv, .int .i64 (factN t : Int), gv, cv, lv], OS tInt 3 cv (costsT t), OS tCU 135 lv us, RdH (CuF us (unT t)), OS tInt 3 fv (fstL t.vars t.vars.length), OS tInt 3 gv (goalN t), OS tInt 3 a2 t.vars]) (φ := fun w => LcR w pr t a2 fv gv cv lv us) (fun _ w h => ⟨h.boxR 0 rfl, h.rs 6 rfl, h.rs 4 rfl, h.rs 5 rfl, h.rs 1 rfl, h.rs 2 rfl, hul, h.rdE 3 rfl⟩) hw
  exact res_two (v := .pointer (some pr)) (v' := .nilIface) rfl rfl rfl ⟨pr, a2, fv, gv, cv, lv, us, rfl, hw2.sel⟩
end Go.Proofs.YtkmbenhffledpaaGreat
