
/-
  Contracts of the verifier's 'Facts', 'Effects', 'Tasks', and of 'Same'.
-/
import Derived.Test.YtegndanecnicaaaGreatMW2
import Derived.Test.YtegndanecnicaaaGreatWIAw
import Derived.Test.YtegndanecnicaaaGreatMSlB
set_option linter.unusedSimpArgs false
set_option linter.unusedVariables false
namespace Go.Proofs.YtegndanecnicaaaGreat
open Go.Sl Go
attribute [local irreducible] vc opsW opsD opV opW PureV ReadV Thn Blk
set_option maxRecDepth 8000 in
set_option maxHeartbeats 2000000 in
theorem BFacts_spec {w0 : World} {xa xb : Value} {A B : List Fact} (hA : RS tFact w0 xa A) (hB : RS tFact w0 xb B) :
    Calls Tryz.prog 45 #[xa, xb] w0 fun e w' => (∃ r, e = .returned (.bool r) ∧ (r = true ↔ A = B)) ∧ Sat w0 w' [] := by
  have hAb := hA.big
  have hBb := hB.big
  have hw := Sat.start w0
  refine calls_of_vc (args := [xa, xb]) mixed Tryz.func45 rfl (by kernel_rfl) (Nat.le_of_ble_eq_true rfl) ?_
  repeat (first | refine go_run ?_ | (refine go_newP ?_; clear hw; intro p w hw) | (refine go_newW ?_; clear hw; intro w hw) | (refine go_newS ?_; clear hw; intro s w hw))
  refine go_if (fun h1 => ?_) (fun h1 => ?_)
  · repeat (first | refine go_run ?_ | (refine go_newP ?_; clear hw; intro p w hw) | (refine go_newW ?_; clear hw; intro w hw) | (refine go_newS ?_; clear hw; intro s w hw))
    exact res_one (v := .bool false) rfl rfl ⟨⟨false, rfl, iffF fun e => by rw [e] at h1; omega⟩, hw.sel⟩
  repeat (first | refine go_run ?_ | (refine go_newP ?_; clear hw; intro p w hw) | (refine go_newW ?_; clear hw; intro w hw) | (refine go_newS ?_; clear hw; intro s w hw))
  refine vc_loop [4, 5, 13, 14, 15, 16, 17, 18, 19, 20, 21, 22, 23, 24, 25] (G := Nat) (fun i => [(13, .int .i64 i)]) (fun i w => i ≤ A.length ∧ (∀ m, m < i → A.getD m tFact.dflt = B.getD m tFact.dflt) ∧ Sat w0 w []) (fun i => A.length - i) 0 (fun _ => rfl) ⟨rfl, trivial⟩ ⟨Nat.zero_le _, fun i hi => absurd hi (Nat.not_lt_zero _), hw.sel⟩ ?_
  clear hw
  rintro σ i w ⟨hi, hno, hw⟩
  repeat (first | refine go_run ?_ | (refine go_newP ?_; clear hw; intro p w hw) | (refine go_newW ?_; clear hw; intro w hw) | (refine go_newS ?_; clear hw; intro s w hw))
  refine go_if (fun h2 => ?_) (fun h2 => ?_)
  · have hil : i < A.length := by omega
    repeat (first | refine go_run ?_ | (refine go_newP ?_; clear hw; intro p w hw) | (refine go_newW ?_; clear hw; intro w hw) | (refine go_newS ?_; clear hw; intro s w hw))
    refine step_pure rfl (pv_neqInts (us := [(A.getD i tFact.dflt).var, (A.getD i tFact.dflt).val]) (zs := [(B.getD i tFact.dflt).var, (B.getD i tFact.dflt).val]) rfl rfl rfl rfl) ?_
    by_cases h3 : A.getD i tFact.dflt = B.getD i tFact.dflt
    · have hd : decide ([(A.getD i tFact.dflt).var, (A.getD i tFact.dflt).val] = [(B.getD i tFact.dflt).var, (B.getD i tFact.dflt).val]) = true := decide_eq_true (by rw [h3])
      repeat (first | refine go_runC ?_ | (refine go_newP ?_; clear hw; intro p w hw) | (refine go_newW ?_; clear hw; intro w hw) | (refine go_newS ?_; clear hw; intro s w hw))
      simp only [hd, Bool.not_true]
      repeat (first | refine go_run ?_ | (refine go_newP ?_; clear hw; intro p w hw) | (refine go_newW ?_; clear hw; intro w hw) | (refine go_newS ?_; clear hw; intro s w hw))
      refine ⟨i + 1, ⟨rfl, trivial⟩, by repeat (first | exact agree_refl | (apply agree_upd rfl) | (apply agree_mix rfl) | (apply agree_sets rfl)), ⟨by omega, fun m hm => ?_, hw.sel⟩, by omega⟩
      by_cases e : m = i
      · subst e; exact h3
      · exact hno m (by omega)
    · have hd : decide ([(A.getD i tFact.dflt).var, (A.getD i tFact.dflt).val] = [(B.getD i tFact.dflt).var, (B.getD i tFact.dflt).val]) = false := decide_eq_false fun e => h3 (by
        injection e with e1 e2
        injection e2 with e2 _
        exact fact_ext e1 e2)
      repeat (first | refine go_runC ?_ | (refine go_newP ?_; clear hw; intro p w hw) | (refine go_newW ?_; clear hw; intro w hw) | (refine go_newS ?_; clear hw; intro s w hw))
      simp only [hd, Bool.not_false]
      repeat (first | refine go_run ?_ | (refine go_newP ?_; clear hw; intro p w hw) | (refine go_newW ?_; clear hw; intro w hw) | (refine go_newS ?_; clear hw; intro s w hw))
      exact res_one (v := .bool false) rfl rfl ⟨⟨false, rfl, iffF fun e => h3 (by rw [e])⟩, hw.sel⟩
  have hie : i = A.length := by omega
  subst hie
  repeat (first | refine go_run ?_ | (refine go_newP ?_; clear hw; intro p w hw) | (refine go_newW ?_; clear hw; intro w hw) | (refine go_newS ?_; clear hw; intro s w hw))
  exact res_one (v := .bool true) rfl rfl ⟨⟨true, rfl, iffT (list_eq (by omega) hno)⟩, hw.sel⟩
set_option maxRecDepth 8000 in
set_option maxHeartbeats 4000000 in
theorem BEffs_spec {w0 : World} {xa xb : Value} {va vb : List EffV} {A B : List Eff} (hA : REffs w0 xa va A) (hB : REffs w0 xb vb B) :
    Calls Tryz.prog 46 #[xa, xb] w0 fun e w' => (∃ r, e = .returned (.bool r) ∧ (r = true ↔ A = B)) ∧ Sat w0 w' [] := by
  have hAr := hA.rs
  have hBr := hB.rs
  have hAl := hA.len
  have hBl := hB.len
  have hAb := hAr.big
  have hBb := hBr.big
  have hw := Sat.start w0
  refine calls_of_vc (args := [xa, xb]) mixed Tryz.func46 rfl (by kernel_rfl) (Nat.le_of_ble_eq_true rfl) ?_
  repeat (first | refine go_run ?_ | (refine go_newP ?_; clear hw; intro p w hw) | (refine go_newW ?_; clear hw; intro w hw) | (refine go_newS ?_; clear hw; intro s w hw))
  refine go_if (fun h1 => ?_) (fun h1 => ?_)
  · repeat (first | refine go_run ?_ | (refine go_newP ?_; clear hw; intro p w hw) | (refine go_newW ?_; clear hw; intro w hw) | (refine go_newS ?_; clear hw; intro s w hw))
    exact res_one (v := .bool false) rfl rfl ⟨⟨false, rfl, iffF fun e => by rw [e] at hAl; omega⟩, hw.sel⟩
  repeat (first | refine go_run ?_ | (refine go_newP ?_; clear hw; intro p w hw) | (refine go_newW ?_; clear hw; intro w hw) | (refine go_newS ?_; clear hw; intro s w hw))
  refine vc_loop [4, 5, 13, 14, 15, 16, 17, 18, 19, 20, 21, 22, 23, 24, 25, 26, 27, 28, 29, 30, 31, 32, 33, 34, 35, 36, 37, 38, 39, 40, 41, 42, 43, 44, 45, 46, 47, 48, 49, 50, 51, 52, 53, 54] (G := Nat) (fun i => [(13, .int .i64 i)]) (fun i w => i ≤ A.length ∧ (∀ m, m < i → A.getD m dEff = B.getD m dEff) ∧ Sat w0 w []) (fun i => A.length - i) 0 (fun _ => rfl) ⟨rfl, trivial⟩ ⟨Nat.zero_le _, fun i hi => absurd hi (Nat.not_lt_zero _), hw.sel⟩ ?_
  clear hw
  rintro σ i w ⟨hi, hno, hw⟩
  repeat (first | refine go_run ?_ | (refine go_newP ?_; clear hw; intro p w hw) | (refine go_newW ?_; clear hw; intro w hw) | (refine go_newS ?_; clear hw; intro s w hw))
  refine go_if (fun h2 => ?_) (fun h2 => ?_)
  · have hil : i < A.length := by omega
    have hea := hA.at_ i hil
    have heb := hB.at_ i (by omega)
    have vx := hea.var
    have vy := heb.var
    have lx := hea.val
    have ly := heb.val
    by_cases q1 : (eget tEff va i).var = (eget tEff vb i).var
    rotate_left
    · have hd1 : decide ((eget tEff va i).var = (eget tEff vb i).var) = false := decide_eq_false q1
      repeat (first | refine go_run ?_ | (refine go_newP ?_; clear hw; intro p w hw) | (refine go_newWr ?_; clear hw; intro w hw) | (refine go_newS ?_; clear hw; intro s w hw))
      refine vc_plan [.op 0, .op 1, .op 2, .op 3, .op 4, .op 5, .op 6, .op 7, .op 8, .op 9, .op 10, .op 11, .op 12, .op 13, .op 14, .op 15, .op 16, .op 17, .op 18, .op 19, .op 20, .op 21, .op 22, .op 23, .op 24, .op 25, .op 26, .op 27, .op 28, .op 29, .op 30, .op 31, .op 32, .op 33, .op 34, .op 35, .op 36, .op 37] hw (by kernel_rfl) ?_; clear hw; intro w hw
      repeat (first | refine go_run ?_ | (refine go_newP ?_; clear hw; intro p w hw) | (refine go_newWr ?_; clear hw; intro w hw) | (refine go_newS ?_; clear hw; intro s w hw))
      simp only [hd1, beq_self_eq_true, beq_tfI, beq_ftI, Bool.false_and, Bool.true_and, Bool.false_or, Bool.true_or, Bool.not_true, Bool.not_false, Bool.cond_true, Bool.cond_false, gv_fI, gv_tI]
      repeat (first | refine go_run ?_ | (refine go_newP ?_; clear hw; intro p w hw) | (refine go_newWr ?_; clear hw; intro w hw) | (refine go_newS ?_; clear hw; intro s w hw))
      exact res_one (v := .bool false) rfl rfl ⟨⟨false, rfl, iffF fun e => q1 (by rw [vx, vy, e])⟩, hw.sel⟩
    have hd1 : decide ((eget tEff va i).var = (eget tEff vb i).var) = true := decide_eq_true q1
    by_cases q2 : (eget tEff va i).val = (eget tEff vb i).val
    rotate_left
    · have hd2 : decide ((eget tEff va i).val = (eget tEff vb i).val) = false := decide_eq_false q2
      repeat (first | refine go_run ?_ | (refine go_newP ?_; clear hw; intro p w hw) | (refine go_newWr ?_; clear hw; intro w hw) | (refine go_newS ?_; clear hw; intro s w hw))
      refine vc_plan [.op 0, .op 1, .op 2, .op 3, .op 4, .op 5, .op 6, .op 7, .op 8, .op 9, .op 10, .op 11, .op 12, .op 13, .op 14, .op 15, .op 16, .op 17, .op 18, .op 19, .op 20, .op 21, .op 22, .op 23, .op 24, .op 25, .op 26, .op 27, .op 28, .op 29, .op 30, .op 31, .op 32, .op 33, .op 34, .op 35, .op 36, .op 37] hw (by kernel_rfl) ?_; clear hw; intro w hw
      repeat (first | refine go_run ?_ | (refine go_newP ?_; clear hw; intro p w hw) | (refine go_newWr ?_; clear hw; intro w hw) | (refine go_newS ?_; clear hw; intro s w hw))
      simp only [hd1, hd2, beq_self_eq_true, beq_tfI, beq_ftI, Bool.false_and, Bool.true_and, Bool.false_or, Bool.true_or, Bool.not_true, Bool.not_false, Bool.cond_true, Bool.cond_false, gv_fI, gv_tI]
      repeat (first | refine go_run ?_ | (refine go_newP ?_; clear hw; intro p w hw) | (refine go_newWr ?_; clear hw; intro w hw) | (refine go_newS ?_; clear hw; intro s w hw))
      exact res_one (v := .bool false) rfl rfl ⟨⟨false, rfl, iffF fun e => q2 (by rw [lx, ly, e])⟩, hw.sel⟩
    have hd2 : decide ((eget tEff va i).val = (eget tEff vb i).val) = true := decide_eq_true q2
    repeat (first | refine go_run ?_ | (refine go_newP ?_; clear hw; intro p w hw) | (refine go_newWr ?_; clear hw; intro w hw) | (refine go_newS ?_; clear hw; intro s w hw))
    refine vc_plan [.op 0, .op 1, .op 2, .op 3, .op 4, .op 5, .op 6, .op 7, .op 8, .op 9, .op 10, .op 11, .op 12, .op 13, .op 14, .op 15, .op 16, .op 17, .op 18, .op 19, .op 20, .op 21, .op 22, .op 23, .op 24, .op 25, .op 26, .op 27, .op 28, .op 29, .op 30, .op 31, .op 32, .op 33, .op 34, .op 35, .op 36, .op 37] hw (by kernel_rfl) ?_; clear hw; intro w hw
    repeat (first | refine go_run ?_ | (refine go_newP ?_; clear hw; intro p w hw) | (refine go_newWr ?_; clear hw; intro w hw) | (refine go_newS ?_; clear hw; intro s w hw))
    simp only [hd1, hd2, beq_self_eq_true, beq_tfI, beq_ftI, Bool.false_and, Bool.true_and, Bool.false_or, Bool.true_or, Bool.not_true, Bool.not_false, Bool.cond_true, Bool.cond_false, gv_fI, gv_tI]
    repeat (first | refine go_run ?_ | (refine go_newP ?_; clear hw; intro p w hw) | (refine go_newWr ?_; clear hw; intro w hw) | (refine go_newS ?_; clear hw; intro s w hw))
    refine st_call rfl (BFacts_spec (hea.when.at hw) (heb.when.at hw)) ?_
    rintro _ w' ⟨⟨r, rfl, hr⟩, hk'⟩
    replace hw := hw.call0 hk'
    clear hk'
    refine ⟨_, rfl, ?_⟩
    cases r
    · repeat (first | refine go_run ?_ | (refine go_newP ?_; clear hw; intro p w hw) | (refine go_newWr ?_; clear hw; intro w hw) | (refine go_newS ?_; clear hw; intro s w hw))
      exact res_one (v := .bool false) rfl rfl ⟨⟨false, rfl, iffF fun e => by cases hr.2 (by rw [e])⟩, hw.sel⟩
    · repeat (first | refine go_run ?_ | (refine go_newP ?_; clear hw; intro p w hw) | (refine go_newWr ?_; clear hw; intro w hw) | (refine go_newS ?_; clear hw; intro s w hw))
      refine ⟨i + 1, ⟨rfl, trivial⟩, by repeat (first | exact agree_refl | (apply agree_upd rfl) | (apply agree_mix rfl) | (apply agree_sets rfl)), ⟨by omega, fun m hm => ?_, hw.sel⟩, by omega⟩
      by_cases e : m = i
      · subst e; exact eff_ext (by rw [← vx, ← vy, q1]) (by rw [← lx, ← ly, q2]) (hr.1 rfl)
      · exact hno m (by omega)
  have hie : i = A.length := by omega
  subst hie
  repeat (first | refine go_run ?_ | (refine go_newP ?_; clear hw; intro p w hw) | (refine go_newW ?_; clear hw; intro w hw) | (refine go_newS ?_; clear hw; intro s w hw))
  exact res_one (v := .bool true) rfl rfl ⟨⟨true, rfl, iffT (list_eq (by omega) hno)⟩, hw.sel⟩
set_option maxRecDepth 8000 in
set_option maxHeartbeats 8000000 in
theorem Tasks_spec {w0 : World} {a b c d a2 b2 c2 d2 : Value} {vs us : List OpV} {t u : TTask} (ht : RTask w0 a b c d vs t) (hu : RTask w0 a2 b2 c2 d2 us u) :
    Calls Tryz.prog 17 #[.agg #[a, b, c, d], .agg #[a2, b2, c2, d2]] w0 fun e w' => (∃ r, e = .returned (.bool r) ∧ (r = true ↔ t = u)) ∧ Sat w0 w' [] := by
  have htr := ht.ops.rs
  have hur := hu.ops.rs
  have htl := ht.ops.len
  have hul := hu.ops.len
  have htb := htr.big
  have hub := hur.big
  have hw := Sat.start w0
  refine calls_of_vc (args := [.agg #[a, b, c, d], .agg #[a2, b2, c2, d2]]) mixed Tryz.func17 rfl (by kernel_rfl) (Nat.le_of_ble_eq_true rfl) ?_
  refine vc_seq ?_
  refine vc_region ?_
  refine go_box ?_
  clear hw
  intro p2 w hw
  refine go_box ?_
  clear hw
  intro p3 w hw
  replace hw : Sat w0 w [Box p3 26 [a2, b2, c2, d2], Box p2 26 [a, b, c, d]] := hw
  repeat (first | refine go_run ?_ | (refine go_newP ?_; clear hw; intro p w hw) | (refine go_newWr ?_; clear hw; intro w hw) | (refine go_newS ?_; clear hw; intro s w hw))
  refine st_call rfl (Ints_spec (ht.vars.at hw) (hu.vars.at hw)) ?_
  rintro _ w' ⟨⟨r, rfl, hr⟩, hk'⟩
  replace hw := hw.call0 hk'
  clear hk'
  refine ⟨_, rfl, ?_⟩
  cases r
  · repeat (first | refine go_run ?_ | (refine go_newP ?_; clear hw; intro p w hw) | (refine go_newWr ?_; clear hw; intro w hw) | (refine go_newS ?_; clear hw; intro s w hw))
    exact res_one (v := .bool false) rfl rfl ⟨⟨false, rfl, iffF fun e => by cases hr.2 (by rw [e])⟩, sat_none hw⟩
  have h1 := hr.1 rfl
  clear hr
  repeat (first | refine go_run ?_ | (refine go_newP ?_; clear hw; intro p w hw) | (refine go_newWr ?_; clear hw; intro w hw) | (refine go_newS ?_; clear hw; intro s w hw))
  refine st_call rfl (Ints_spec (ht.init.at hw) (hu.init.at hw)) ?_
  rintro _ w' ⟨⟨r, rfl, hr⟩, hk'⟩
  replace hw := hw.call0 hk'
  clear hk'
  refine ⟨_, rfl, ?_⟩
  cases r
  · repeat (first | refine go_run ?_ | (refine go_newP ?_; clear hw; intro p w hw) | (refine go_newWr ?_; clear hw; intro w hw) | (refine go_newS ?_; clear hw; intro s w hw))
    exact res_one (v := .bool false) rfl rfl ⟨⟨false, rfl, iffF fun e => by cases hr.2 (by rw [e])⟩, sat_none hw⟩
  have h2 := hr.1 rfl
  clear hr
  repeat (first | refine go_run ?_ | (refine go_newP ?_; clear hw; intro p w hw) | (refine go_newWr ?_; clear hw; intro w hw) | (refine go_newS ?_; clear hw; intro s w hw))
  refine st_call rfl (BFacts_spec (ht.goal.at hw) (hu.goal.at hw)) ?_
  rintro _ w' ⟨⟨r, rfl, hr⟩, hk'⟩
  replace hw := hw.call0 hk'
  clear hk'
  refine ⟨_, rfl, ?_⟩
  cases r
  · repeat (first | refine go_run ?_ | (refine go_newP ?_; clear hw; intro p w hw) | (refine go_newWr ?_; clear hw; intro w hw) | (refine go_newS ?_; clear hw; intro s w hw))
    exact res_one (v := .bool false) rfl rfl ⟨⟨false, rfl, iffF fun e => by cases hr.2 (by rw [e])⟩, sat_none hw⟩
  have h3 := hr.1 rfl
  clear hr
  by_cases h4 : (vs.length : Int) = (us.length : Int)
  rotate_left
  · have hd : decide ((vs.length : Int) = (us.length : Int)) = false := decide_eq_false h4
    repeat (first | refine go_run ?_ | (refine go_newP ?_; clear hw; intro p w hw) | (refine go_newWr ?_; clear hw; intro w hw) | (refine go_newS ?_; clear hw; intro s w hw))
    simp only [hd, beq_self_eq_true, beq_tfI, beq_ftI, Bool.false_and, Bool.true_and, Bool.false_or, Bool.true_or, Bool.not_true, Bool.not_false, Bool.cond_true, Bool.cond_false, gv_fI, gv_tI]
    repeat (first | refine go_run ?_ | (refine go_newP ?_; clear hw; intro p w hw) | (refine go_newWr ?_; clear hw; intro w hw) | (refine go_newS ?_; clear hw; intro s w hw))
    exact res_one (v := .bool false) rfl rfl ⟨⟨false, rfl, iffF fun e => h4 (by rw [e] at htl; omega)⟩, sat_none hw⟩
  have hd : decide ((vs.length : Int) = (us.length : Int)) = true := decide_eq_true h4
  repeat (first | refine go_run ?_ | (refine go_newP ?_; clear hw; intro p w hw) | (refine go_newWr ?_; clear hw; intro w hw) | (refine go_newS ?_; clear hw; intro s w hw))
  simp only [hd, beq_self_eq_true, beq_tfI, beq_ftI, Bool.false_and, Bool.true_and, Bool.false_or, Bool.true_or, Bool.not_true, Bool.not_false, Bool.cond_true, Bool.cond_false, gv_fI, gv_tI]
  repeat (first | refine go_run ?_ | (refine go_newP ?_; clear hw; intro p w hw) | (refine go_newWr ?_; clear hw; intro w hw) | (refine go_newS ?_; clear hw; intro s w hw))
  refine vc_loop [4, 5, 6, 7, 42, 43, 44, 45, 46, 47, 48, 49, 50, 51, 52, 53, 54, 55, 56, 57, 58, 59, 60, 61, 62, 63, 64, 65, 66, 67, 68, 69, 70, 71, 72, 73, 74, 75, 76, 77, 78, 79, 80, 81, 82, 83] (G := Nat) (fun i => [(42, .int .i64 i)]) (fun i w => i ≤ t.ops.length ∧ (∀ m, m < i → t.ops.getD m dOp = u.ops.getD m dOp) ∧ Sat w0 w [Box p3 26 [a2, b2, c2, d2], Box p2 26 [a, b, c, d]]) (fun i => t.ops.length - i) 0 (fun _ => rfl) ⟨rfl, trivial⟩ ⟨Nat.zero_le _, fun i hi => absurd hi (Nat.not_lt_zero _), hw⟩ ?_
  clear hw
  rintro σ i w ⟨hi, hno, hw⟩
  repeat (first | refine go_run ?_ | (refine go_newP ?_; clear hw; intro p w hw) | (refine go_newW ?_; clear hw; intro w hw) | (refine go_newS ?_; clear hw; intro s w hw))
  refine go_if (fun h5 => ?_) (fun h5 => ?_)
  · have hil : i < t.ops.length := by omega
    have hx := ht.ops.at_ i hil
    have hy := hu.ops.at_ i (by omega)
    have ax := hx.one
    have ay := hy.one
    repeat (first | refine go_run ?_ | (refine go_newP ?_; clear hw; intro p w hw) | (refine go_newWr ?_; clear hw; intro w hw) | (refine go_newS ?_; clear hw; intro s w hw))
    refine vc_cut [45, 46, 47, 48, 49, 50, 51, 52, 53, 54, 6, 7] (G := Addr × Addr) (fun g => [(6, .pointer (some g.1)), (7, .pointer (some g.2))]) (fun g w => Sat w0 w [Box g.1 31 (tOp.enc (eget tOp vs i)), Box g.2 31 (tOp.enc (eget tOp us i)), Box p3 26 [a2, b2, c2, d2], Box p2 26 [a, b, c, d]]) (fun _ => rfl) ?_ ?_
    · refine vc_tree (.step 0 [.op 0] (.step 2 [.op 2] (.step 5 [.op 5] (.step 7 [.op 7] (.step 1 [.op 1] (.step 3 [.op 3] (.step 4 [.op 4] (.step 6 [.op 6] (.step 8 [.op 8] (.step 9 [.op 9] (.alt 10 [.op 10, .chk 1, .chk 4, .chk 6, .chk 9] (.step 11 [.op 11, .chk 1, .chk 4, .chk 6, .chk 9] (.step 12 [.op 12, .chk 6, .chk 9] (.step 13 [.op 13] (.lin [])))) (.alt 11 [.op 11, .chk 1, .chk 4, .chk 6, .chk 9] (.step 10 [.op 10, .chk 1, .chk 4, .chk 6, .chk 9] (.step 12 [.op 12, .chk 6, .chk 9] (.step 13 [.op 13] (.lin [])))) (.stop))))))))))))) hw (by kernel_rfl) (by kernel_rfl) ?_; clear hw; intro w hw
      repeat' (first | refine go_run ?_ | (refine go_newP ?_; clear hw; intro p w hw) | (refine go_newWr ?_; clear hw; intro w hw) | refine opsT_alt ?_ ?_ | exact opsT_stop)
      all_goals exact ⟨(_, _), ⟨rfl, rfl, trivial⟩, by repeat (first | exact agree_refl | (apply agree_upd rfl) | (apply agree_mix rfl) | (apply agree_sets rfl)), by first | exact hw | exact hw.swap⟩
    clear hw
    rintro σ1 ⟨p6, p7⟩ w hw
    simp only at hw
    have nx := hx.name
    have ny := hy.name
    have kx := hx.cost
    have ky := hy.cost
    have px := hx.pre
    have py := hy.pre
    obtain ⟨ex, hex⟩ := hx.effs
    obtain ⟨ey, hey⟩ := hy.effs
    by_cases q1 : (eget tOp vs i).name = (eget tOp us i).name
    rotate_left
    · have hd1 : decide ((eget tOp vs i).name = (eget tOp us i).name) = false := decide_eq_false q1
      repeat (first | refine go_run ?_ | (refine go_newP ?_; clear hw; intro p w hw) | (refine go_newWr ?_; clear hw; intro w hw) | (refine go_newS ?_; clear hw; intro s w hw))
      refine step_pure rfl (pv_neqStr (a := (eget tOp vs i).name) (b := (eget tOp us i).name) rfl rfl) ?_
      repeat (first | refine go_run ?_ | (refine go_newP ?_; clear hw; intro p w hw) | (refine go_newWr ?_; clear hw; intro w hw) | (refine go_newS ?_; clear hw; intro s w hw))
      simp only [hd1, beq_self_eq_true, beq_tfI, beq_ftI, Bool.false_and, Bool.true_and, Bool.false_or, Bool.true_or, Bool.not_true, Bool.not_false, Bool.cond_true, Bool.cond_false, gv_fI, gv_tI]
      repeat (first | refine go_run ?_ | (refine go_newP ?_; clear hw; intro p w hw) | (refine go_newWr ?_; clear hw; intro w hw) | (refine go_newS ?_; clear hw; intro s w hw))
      exact res_one (v := .bool false) rfl rfl ⟨⟨false, rfl, iffF fun e => q1 (by rw [nx, ny, e])⟩, sat_none hw⟩
    have hd1 : decide ((eget tOp vs i).name = (eget tOp us i).name) = true := decide_eq_true q1
    by_cases q2 : (eget tOp vs i).cost = (eget tOp us i).cost
    rotate_left
    · have hd2 : decide ((eget tOp vs i).cost = (eget tOp us i).cost) = false := decide_eq_false q2
      repeat (first | refine go_run ?_ | (refine go_newP ?_; clear hw; intro p w hw) | (refine go_newWr ?_; clear hw; intro w hw) | (refine go_newS ?_; clear hw; intro s w hw))
      refine step_pure rfl (pv_neqStr (a := (eget tOp vs i).name) (b := (eget tOp us i).name) rfl rfl) ?_
      repeat (first | refine go_run ?_ | (refine go_newP ?_; clear hw; intro p w hw) | (refine go_newWr ?_; clear hw; intro w hw) | (refine go_newS ?_; clear hw; intro s w hw))
      simp only [hd1, hd2, beq_self_eq_true, beq_tfI, beq_ftI, Bool.false_and, Bool.true_and, Bool.false_or, Bool.true_or, Bool.not_true, Bool.not_false, Bool.cond_true, Bool.cond_false, gv_fI, gv_tI]
      repeat (first | refine go_run ?_ | (refine go_newP ?_; clear hw; intro p w hw) | (refine go_newWr ?_; clear hw; intro w hw) | (refine go_newS ?_; clear hw; intro s w hw))
      exact res_one (v := .bool false) rfl rfl ⟨⟨false, rfl, iffF fun e => q2 (by rw [kx, ky, e])⟩, sat_none hw⟩
    have hd2 : decide ((eget tOp vs i).cost = (eget tOp us i).cost) = true := decide_eq_true q2
    repeat (first | refine go_run ?_ | (refine go_newP ?_; clear hw; intro p w hw) | (refine go_newWr ?_; clear hw; intro w hw) | (refine go_newS ?_; clear hw; intro s w hw))
    refine step_pure rfl (pv_neqStr (a := (eget tOp vs i).name) (b := (eget tOp us i).name) rfl rfl) ?_
    repeat (first | refine go_run ?_ | (refine go_newP ?_; clear hw; intro p w hw) | (refine go_newWr ?_; clear hw; intro w hw) | (refine go_newS ?_; clear hw; intro s w hw))
    simp only [hd1, hd2, beq_self_eq_true, beq_tfI, beq_ftI, Bool.false_and, Bool.true_and, Bool.false_or, Bool.true_or, Bool.not_true, Bool.not_false, Bool.cond_true, Bool.cond_false, gv_fI, gv_tI]
    repeat (first | refine go_run ?_ | (refine go_newP ?_; clear hw; intro p w hw) | (refine go_newWr ?_; clear hw; intro w hw) | (refine go_newS ?_; clear hw; intro s w hw))
    refine st_call rfl (BFacts_spec (px.at hw) (py.at hw)) ?_
    rintro _ w' ⟨⟨r, rfl, hr⟩, hk'⟩
    replace hw := hw.call0 hk'
    clear hk'
    refine ⟨_, rfl, ?_⟩
    cases r
    · repeat (first | refine go_run ?_ | (refine go_newP ?_; clear hw; intro p w hw) | (refine go_newWr ?_; clear hw; intro w hw) | (refine go_newS ?_; clear hw; intro s w hw))
      exact res_one (v := .bool false) rfl rfl ⟨⟨false, rfl, iffF fun e => by cases hr.2 (by rw [e])⟩, sat_none hw⟩
    have q3 := hr.1 rfl
    clear hr
    repeat (first | refine go_run ?_ | (refine go_newP ?_; clear hw; intro p w hw) | (refine go_newWr ?_; clear hw; intro w hw) | (refine go_newS ?_; clear hw; intro s w hw))
    refine st_call rfl (BEffs_spec (reffs_at hex hw) (reffs_at hey hw)) ?_
    rintro _ w' ⟨⟨r, rfl, hr⟩, hk'⟩
    replace hw := hw.call0 hk'
    clear hk'
    refine ⟨_, rfl, ?_⟩
    cases r
    · repeat (first | refine go_run ?_ | (refine go_newP ?_; clear hw; intro p w hw) | (refine go_newWr ?_; clear hw; intro w hw) | (refine go_newS ?_; clear hw; intro s w hw))
      exact res_one (v := .bool false) rfl rfl ⟨⟨false, rfl, iffF fun e => by cases hr.2 (by rw [e])⟩, sat_none hw⟩
    have q4 := hr.1 rfl
    clear hr
    repeat (first | refine go_run ?_ | (refine go_newP ?_; clear hw; intro p w hw) | (refine go_newWr ?_; clear hw; intro w hw) | (refine go_newS ?_; clear hw; intro s w hw))
    refine ⟨i + 1, ⟨rfl, trivial⟩, by repeat (first | exact agree_refl | (apply agree_upd rfl) | (apply agree_mix rfl) | (apply agree_sets rfl)), ⟨by omega, fun m hm => ?_, hw.tail.tail⟩, by omega⟩
    by_cases e : m = i
    · subst e; exact op_ext (by rw [← nx, ← ny, q1]) (by rw [← kx, ← ky, q2]) q3 q4
    · exact hno m (by omega)
  have hie : i = t.ops.length := by omega
  subst hie
  repeat (first | refine go_run ?_ | (refine go_newP ?_; clear hw; intro p w hw) | (refine go_newW ?_; clear hw; intro w hw) | (refine go_newS ?_; clear hw; intro s w hw))
  exact res_one (v := .bool true) rfl rfl ⟨⟨true, rfl, iffT (task_ext h1 h2 h3 (list_eq (by omega) hno))⟩, sat_none hw⟩
end Go.Proofs.YtegndanecnicaaaGreat
