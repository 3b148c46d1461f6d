
/-
  The statement 'EstimateRelaxed' returns true.
-/
import Derived.Test.YtkmbenhffledpaaGreatMW2
import Derived.Test.YtkmbenhffledpaaGreatWLawEB
import Derived.Test.YtkmbenhffledpaaGreatWLr10
import Derived.Test.YtkmbenhffledpaaGreatWLm9
set_option linter.unusedSimpArgs false
set_option linter.unusedVariables false
namespace Go.Proofs.YtkmbenhffledpaaGreat
open Go.Sl Go
attribute [local irreducible] vc opsW opsD opV opW PureV ReadV Thn Blk
set_option maxRecDepth 8000 in
set_option maxHeartbeats 8000000 in
theorem EstimateRelaxed_walk {w0 : World} {a b c d : Value} {vs : List OpV} {t : TTask} (ht : RTask w0 a b c d vs t) :
    Calls Tryz.prog 3 #[.agg #[a, b, c, d]] w0 fun e w' => e = .returned (.bool true) ∧ Sat w0 w' [] := by
  have hw := Sat.start w0
  refine calls_of_vc (args := [.agg #[a, b, c, d]]) mixed Tryz.func3 rfl (by kernel_rfl) (Nat.le_of_ble_eq_true rfl) ?_
  repeat (first | refine go_run ?_ | (refine go_newP ?_; clear hw; intro p w hw) | (refine go_newWr ?_; clear hw; intro w hw) | (refine go_newS ?_; clear hw; intro s w hw))
  obtain ⟨pt, hpt⟩ : ∃ pt, pt = p := ⟨p, rfl⟩
  subst hpt
  refine st_call rfl (Small_spec (ht.at hw)) ?_
  rintro _ w' ⟨⟨r, rfl, hr⟩, hk'⟩
  replace hw := hw.call0 hk'
  clear hk'
  refine ⟨_, rfl, ?_⟩
  cases r
  · repeat (first | refine go_run ?_ | (refine go_newP ?_; clear hw; intro p w hw) | (refine go_newWr ?_; clear hw; intro w hw) | (refine go_newS ?_; clear hw; intro s w hw))
    refine st_call rfl awake47_spec ?_
    rintro _ w' ⟨rfl, hk'⟩
    replace hw := hw.call0 hk'
    clear hk'
    refine ⟨_, rfl, ?_⟩
    repeat (first | refine go_run ?_ | (refine go_newP ?_; clear hw; intro p w hw) | (refine go_newWr ?_; clear hw; intro w hw) | (refine go_newS ?_; clear hw; intro s w hw))
    exact res_one (v := .bool true) rfl rfl ⟨rfl, sat_none hw⟩
  have hs := hr.1 rfl
  have hg := hs.good
  have hB := hs.many
  have hvl := hg.vars
  have hgok : ∀ f ∈ t.goal, FactOk t.vars f := fun f hf => by
    obtain ⟨i, hi, rfl⟩ := List.getElem_of_mem hf
    have := (hg.goal i hi).1
    rwa [getD_at hi] at this
  repeat (first | refine go_run ?_ | (refine go_newP ?_; clear hw; intro p w hw) | (refine go_newWr ?_; clear hw; intro w hw) | (refine go_newS ?_; clear hw; intro s w hw))
  refine st_call rfl awake47_spec ?_
  rintro _ w' ⟨rfl, hk'⟩
  replace hw := hw.call0 hk'
  clear hk'
  refine ⟨_, rfl, ?_⟩
  repeat (first | refine go_run ?_ | (refine go_newP ?_; clear hw; intro p w hw) | (refine go_newWr ?_; clear hw; intro w hw) | (refine go_newS ?_; clear hw; intro s w hw))
  refine st_call rfl (HMax_spec (ht.at hw) hg) ?_
  rintro _ w' ⟨pb, rfl, hk'⟩
  replace hw := hw.call1 hk'
  clear hk'
  refine ⟨_, rfl, ?_⟩
  repeat (first | refine go_run ?_ | (refine go_newP ?_; clear hw; intro p w hw) | (refine go_newWr ?_; clear hw; intro w hw) | (refine go_newS ?_; clear hw; intro s w hw))
  refine st_call rfl (Cut_spec (ht.at hw) hg) ?_
  rintro _ w' ⟨pc, rfl, hk'⟩
  replace hw := hw.call1 hk'
  clear hk'
  refine ⟨_, rfl, ?_⟩
  repeat (first | refine go_run ?_ | (refine go_newP ?_; clear hw; intro p w hw) | (refine go_newWr ?_; clear hw; intro w hw) | (refine go_newS ?_; clear hw; intro s w hw))
  refine st_call rfl (r34Costs_spec (ht.at hw) hg) ?_
  rintro _ w' ⟨cv, rfl, hk'⟩
  replace hw := hw.call1 hk'
  clear hk'
  refine ⟨_, rfl, ?_⟩
  repeat (first | refine go_run ?_ | (refine go_newP ?_; clear hw; intro p w hw) | (refine go_newWr ?_; clear hw; intro w hw) | (refine go_newS ?_; clear hw; intro s w hw))
  refine st_call rfl (some47_spec (ht.at hw) hs) ?_
  rintro _ w' ⟨ov, os, ss, Zs, rfl, hZ, hZl, hZ0, hk'⟩
  replace hw := hw.call2 hk'
  clear hk'
  refine ⟨_, rfl, ?_⟩
  have hosl := hZ.1
  replace hw : Sat w0 w' [RowsAt tInt 3 ss (statesL t.vars), OS tVal 22 ov os, OS tInt 3 cv (costsT t), RdH (fun w => REst w pc t (lmH t)), RdH (fun w => REst w pb t (hmaxH t)), Box pt 26 [a, b, c, d]] := hw
  repeat (first | refine go_run ?_ | (refine go_newP ?_; clear hw; intro p w hw) | (refine go_newWr ?_; clear hw; intro w hw) | (refine go_newS ?_; clear hw; intro s w hw))
  refine vc_loop [2, 9, 10, 11, 12, 14, 44, 45, 46, 47, 48, 49, 50, 51, 52, 53, 54, 55, 56, 57, 58, 59, 60, 61, 62, 63, 64, 65, 66, 67, 68, 69, 70, 71, 72, 73, 74, 75, 76, 77, 78, 79, 80, 81, 82, 83, 84, 85, 86, 87, 88, 89, 90] (G := Nat) (fun k => [(44, .int .i64 k)]) (fun k w => k ≤ Zs.length ∧ Sat w0 w [RowsAt tInt 3 ss (statesL t.vars), OS tVal 22 ov os, OS tInt 3 cv (costsT t), RdH (fun w => REst w pc t (lmH t)), RdH (fun w => REst w pb t (hmaxH t)), Box pt 26 [a, b, c, d]]) (fun k => Zs.length - k) 0 (fun _ => rfl) ⟨rfl, trivial⟩ ⟨Nat.zero_le _, hw⟩ ?_
  clear hw
  rintro σ k w ⟨hk, hw⟩
  repeat (first | refine go_run ?_ | (refine go_newP ?_; clear hw; intro p w hw) | (refine go_newW ?_; clear hw; intro w hw) | (refine go_newS ?_; clear hw; intro s w hw))
  refine go_if (fun h1 => ?_) (fun h1 => ?_)
  · have hkl : k < Zs.length := by omega
    have hok := hZ.ok hg hkl
    have hrs : ∀ {Γ : List HP} (w : World), Sat w0 w (RowsAt tInt 3 ss (statesL t.vars) :: Γ) → RS tInt w (vget os k) (Zs.getD k []) := fun w h => hZ.rs ht.init h hkl
    obtain ⟨z, hz⟩ : ∃ z, z = Zs.getD k [] := ⟨_, rfl⟩
    rw [← hz] at hok hrs
    repeat (first | refine go_run ?_ | (refine go_newP ?_; clear hw; intro p w hw) | (refine go_newWr ?_; clear hw; intro w hw) | (refine go_newS ?_; clear hw; intro s w hw))
    refine vc_plan [.op 0, .op 1, .op 3, .op 4, .op 5, .op 7, .op 8, .op 2, .chk 3, .chk 8, .op 6, .chk 8, .op 9, .op 10] hw (by kernel_rfl) ?_; clear hw; intro w hw
    repeat (first | refine go_run ?_ | (refine go_newP ?_; clear hw; intro p w hw) | (refine go_newWr ?_; clear hw; intro w hw) | (refine go_newS ?_; clear hw; intro s w hw))
    refine st_call rfl (eValue_spec (hw.rdE 4 rfl) (hrs _ hw)) ?_
    rintro _ w' ⟨rfl, hk'⟩
    replace hw := hw.call0 hk'
    clear hk'
    refine ⟨_, rfl, ?_⟩
    obtain ⟨m1, hm1⟩ : ∃ m1, m1 = estV t (hmaxH t) z := ⟨_, rfl⟩
    rw [← hm1]
    repeat (first | refine go_run ?_ | (refine go_newP ?_; clear hw; intro p w hw) | (refine go_newWr ?_; clear hw; intro w hw) | (refine go_newS ?_; clear hw; intro s w hw))
    refine st_call rfl (r34Facts_spec (ht.at hw) hg (lm_costs_ok hg) (rsO (s := cv) hw) (hrs _ hw) hok) ?_
    rintro _ w' ⟨lv, ls, V, rfl, hVm, hk'⟩
    replace hw := hw.call2 hk'
    clear hk'
    refine ⟨_, rfl, ?_⟩
    rw [withC_self hg] at hVm
    have hme : maxG t.vars t.goal V = m1 := by rw [hm1, estV, if_pos hok, hmax_eq hok hVm]
    repeat (first | refine go_run ?_ | (refine go_newP ?_; clear hw; intro p w hw) | (refine go_newWr ?_; clear hw; intro w hw) | (refine go_newS ?_; clear hw; intro s w hw))
    refine st_call rfl (r34Greatest_spec (rvals_of hg.pos hw) (ht.goal.at hw) hgok) ?_
    rintro _ w' ⟨rfl, hk'⟩
    replace hw := hw.call0 hk'
    clear hk'
    refine ⟨_, rfl, ?_⟩
    rw [hme]
    replace hw : Sat w0 w' [RowsAt tInt 3 ss (statesL t.vars), OS tVal 22 ov os, OS tInt 3 cv (costsT t), RdH (fun w => REst w pc t (lmH t)), RdH (fun w => REst w pb t (hmaxH t)), Box pt 26 [a, b, c, d]] := hw.tail.tail
    have hd : decide (m1 = m1) = true := decide_eq_true rfl
    repeat (first | refine go_run ?_ | (refine go_newP ?_; clear hw; intro p w hw) | (refine go_newWr ?_; clear hw; intro w hw) | (refine go_newS ?_; clear hw; intro s w hw))
    simp only [hd, dTrueE, beq_self_eq_true, beq_tfI, beq_ftI, Bool.false_and, Bool.true_and, Bool.false_or, Bool.true_or, Bool.not_true, Bool.not_false, Bool.cond_true, Bool.cond_false, gv_fI, gv_tI]
    repeat (first | refine go_run ?_ | (refine go_newP ?_; clear hw; intro p w hw) | (refine go_newWr ?_; clear hw; intro w hw) | (refine go_newS ?_; clear hw; intro s w hw))
    refine st_call rfl (r35Cuts_spec (ht.at hw) hg (hrs _ hw) hok) ?_
    rintro _ w' (⟨hL, rfl, hk'⟩ | ⟨cu, L, cl, hL, rfl, hcl, hone, hk'⟩)
    · replace hw := hw.call0 hk'
      clear hk'
      refine ⟨_, rfl, ?_⟩
      have hE : estV t (lmH t) z = 1125899906842624 := by rw [estV, if_pos hok, lm_eq hok hL]; rfl
      repeat (first | refine go_run ?_ | (refine go_newP ?_; clear hw; intro p w hw) | (refine go_newWr ?_; clear hw; intro w hw) | (refine go_newS ?_; clear hw; intro s w hw))
      refine st_call rfl (eValue_spec (hw.rdE 3 rfl) (hrs _ hw)) ?_
      rintro _ w' ⟨rfl, hk'⟩
      replace hw := hw.call0 hk'
      clear hk'
      refine ⟨_, rfl, ?_⟩
      rw [hE]
      repeat (first | refine go_run ?_ | (refine go_newP ?_; clear hw; intro p w hw) | (refine go_newWr ?_; clear hw; intro w hw) | (refine go_newS ?_; clear hw; intro s w hw))
      refine st_call rfl (eDead_spec (hw.rdE 3 rfl) (hrs _ hw)) ?_
      rintro _ w' ⟨rfl, hk'⟩
      replace hw := hw.call0 hk'
      clear hk'
      refine ⟨_, rfl, ?_⟩
      have hD : decide (estV t (lmH t) z = inf) = true := decide_eq_true hE
      rw [hD]
      repeat (first | refine go_run ?_ | (refine go_newP ?_; clear hw; intro p w hw) | (refine go_newWr ?_; clear hw; intro w hw) | (refine go_newS ?_; clear hw; intro s w hw))
      exact ⟨k + 1, ⟨rfl, trivial⟩, by repeat (first | exact agree_refl | (apply agree_upd rfl) | (apply agree_mix rfl) | (apply agree_sets rfl)), ⟨by omega, hw⟩, by omega⟩
    replace hw := hw.call1 hk'
    clear hk'
    refine ⟨_, rfl, ?_⟩
    have hnn : ∀ x ∈ cl.map CutV.cost, 0 ≤ x := fun x hx => by
      rw [hcl] at hx
      obtain ⟨y, hy, rfl⟩ := List.mem_map.1 hx
      exact lmc_nn hL (lm_costs_ok hg) L rfl y hy
    have hsm := lm_small hg hL
    have hse : sI (cl.map CutV.cost) = sumK L := by rw [hcl, sumK_sI]
    have hml : (cl.map CutV.cost).length = cl.length := List.length_map _
    have hbig := (rsO (s := cu) hw).big
    repeat (first | refine go_run ?_ | (refine go_newP ?_; clear hw; intro p w hw) | (refine go_newWr ?_; clear hw; intro w hw) | (refine go_newS ?_; clear hw; intro s w hw))
    refine vc_loop2 [12, 14, 68, 69, 70, 71, 72, 73, 74, 75, 76] (G := Nat) (H := Int) (fun k m => [(68, .int .i64 k), (12, .int .i64 m)]) (fun k m w => k ≤ cl.length ∧ m = sI ((cl.map CutV.cost).take k) ∧ Sat w0 w [OS tCut 44 cu cl, RowsAt tInt 3 ss (statesL t.vars), OS tVal 22 ov os, OS tInt 3 cv (costsT t), RdH (fun w => REst w pc t (lmH t)), RdH (fun w => REst w pb t (hmaxH t)), Box pt 26 [a, b, c, d]]) (fun k _ => cl.length - k) 0 0 (fun _ _ => rfl) ⟨rfl, rfl, trivial⟩ ⟨Nat.zero_le _, rfl, hw⟩ ?_
    clear hw
    rintro σ1 j m w ⟨hj, hm, hw⟩
    repeat (first | refine go_run ?_ | (refine go_newP ?_; clear hw; intro p w hw) | (refine go_newW ?_; clear hw; intro w hw) | (refine go_newS ?_; clear hw; intro s w hw))
    refine go_if (fun h2 => ?_) (fun h2 => ?_)
    · have hjl : j < cl.length := by omega
      have hsn : sI ((cl.map CutV.cost).take (j + 1)) = m + (eget tCut cl j).cost := by
        rw [take_snoc tInt.dflt (by rw [hml]; exact hjl), sI_app, ← hm, eget_eq, getD_at (by rw [hml]; exact hjl), List.getElem_map, getD_at hjl]
        show m + (_ + 0) = _
        omega
      have hbd := sI_take hnn (j + 1)
      have hbm := sI_take hnn j
      rw [← hm] at hbm
      have ouk := hone _ (mem_getD (d := tCut.dflt) hjl)
      rw [← eget_eq] at ouk
      have houk : (tCut.enc (eget tCut cl j)).all Value.oneCell' = true := by
        show ((eget tCut cl j).ops.oneCell' && ((Value.int .i64 (eget tCut cl j).cost).oneCell' && true)) = true
        rw [ouk]; rfl
      rw [hsn] at hbd
      repeat (first | refine go_run ?_ | (refine go_newP ?_; clear hw; intro p w hw) | (refine go_newWr ?_; clear hw; intro w hw) | (refine go_newS ?_; clear hw; intro s w hw))
      exact ⟨j + 1, _, ⟨rfl, rfl, trivial⟩, by repeat (first | exact agree_refl | (apply agree_upd rfl) | (apply agree_mix rfl) | (apply agree_sets rfl)), ⟨by omega, hsn.symm, hw.tail⟩, by omega⟩
    have hje : j = cl.length := by omega
    rw [hje, List.take_of_length_le (by rw [hml]; exact Nat.le_refl _), hse] at hm
    replace hw : Sat w0 w [RowsAt tInt 3 ss (statesL t.vars), OS tVal 22 ov os, OS tInt 3 cv (costsT t), RdH (fun w => REst w pc t (lmH t)), RdH (fun w => REst w pb t (hmaxH t)), Box pt 26 [a, b, c, d]] := hw.tail
    have hE : estV t (lmH t) z = m := by rw [estV, if_pos hok, lm_eq hok hL, hm]; rfl
    have einf : inf = 1125899906842624 := rfl
    have hd2 : decide (m = m) = true := decide_eq_true rfl
    repeat (first | refine go_run ?_ | (refine go_newP ?_; clear hw; intro p w hw) | (refine go_newWr ?_; clear hw; intro w hw) | (refine go_newS ?_; clear hw; intro s w hw))
    refine st_call rfl (eValue_spec (hw.rdE 3 rfl) (hrs _ hw)) ?_
    rintro _ w' ⟨rfl, hk'⟩
    replace hw := hw.call0 hk'
    clear hk'
    refine ⟨_, rfl, ?_⟩
    rw [hE]
    repeat (first | refine go_run ?_ | (refine go_newP ?_; clear hw; intro p w hw) | (refine go_newWr ?_; clear hw; intro w hw) | (refine go_newS ?_; clear hw; intro s w hw))
    simp only [hd2, dTrueE, beq_self_eq_true, beq_tfI, beq_ftI, Bool.false_and, Bool.true_and, Bool.false_or, Bool.true_or, Bool.not_true, Bool.not_false, Bool.cond_true, Bool.cond_false, gv_fI, gv_tI]
    repeat (first | refine go_run ?_ | (refine go_newP ?_; clear hw; intro p w hw) | (refine go_newWr ?_; clear hw; intro w hw) | (refine go_newS ?_; clear hw; intro s w hw))
    refine st_call rfl (eDead_spec (hw.rdE 3 rfl) (hrs _ hw)) ?_
    rintro _ w' ⟨rfl, hk'⟩
    replace hw := hw.call0 hk'
    clear hk'
    refine ⟨_, rfl, ?_⟩
    have hD : decide (estV t (lmH t) z = inf) = false := decide_eq_false (by omega)
    rw [hD]
    repeat (first | refine go_run ?_ | (refine go_newP ?_; clear hw; intro p w hw) | (refine go_newWr ?_; clear hw; intro w hw) | (refine go_newS ?_; clear hw; intro s w hw))
    exact ⟨k + 1, ⟨rfl, trivial⟩, by repeat (first | exact agree_refl | (apply agree_upd rfl) | (apply agree_mix rfl) | (apply agree_sets rfl)), ⟨by omega, hw⟩, by omega⟩
  repeat (first | refine go_run ?_ | (refine go_newP ?_; clear hw; intro p w hw) | (refine go_newW ?_; clear hw; intro w hw) | (refine go_newS ?_; clear hw; intro s w hw))
  exact res_one (v := .bool true) rfl rfl ⟨rfl, sat_none hw⟩
end Go.Proofs.YtkmbenhffledpaaGreat
