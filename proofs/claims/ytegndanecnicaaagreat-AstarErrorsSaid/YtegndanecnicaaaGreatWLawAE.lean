
/-
  The statement 'AstarErrors' returns true.
-/
import Derived.Test.YtegndanecnicaaaGreatWBTask
import Derived.Test.YtegndanecnicaaaGreatWA49Aw
set_option linter.unusedSimpArgs false
set_option linter.unusedVariables false
namespace Go.Proofs.YtegndanecnicaaaGreat
open Go.Sl Go
attribute [local irreducible] vc opsW opsD opV opW PureV ReadV Thn Blk
theorem dTrueA (h : Decidable True) : @decide True h = true := decide_eq_true trivial
set_option maxRecDepth 8000 in
set_option maxHeartbeats 4000000 in
theorem Same49_spec {w0 : World} {pv pv2 : Value} {q : List Int} {vd co ex : Int} (h1 : RS tInt w0 pv q) (h2 : RS tInt w0 pv2 q) :
    Calls Tryz.prog 18 #[.agg #[.int .i64 vd, pv, .int .i64 co, .int .i64 ex], .agg #[.int .i64 vd, pv2, .int .i64 co, .int .i64 ex]] w0 fun e w' => e = .returned (.bool true) ∧ Sat w0 w' [] := by
  have hw := Sat.start w0
  have e1 : decide (vd = vd) = true := decide_eq_true rfl
  have e2 : decide (co = co) = true := decide_eq_true rfl
  have e3 : decide (ex = ex) = true := decide_eq_true rfl
  refine calls_of_vc (args := [.agg #[.int .i64 vd, pv, .int .i64 co, .int .i64 ex], .agg #[.int .i64 vd, pv2, .int .i64 co, .int .i64 ex]]) mixed Tryz.func18 rfl (by kernel_rfl) (Nat.le_of_ble_eq_true rfl) ?_
  repeat (first | refine go_run ?_ | (refine go_newP ?_; clear hw; intro p w hw) | (refine go_newWr ?_; clear hw; intro w hw) | (refine go_newS ?_; clear hw; intro s w hw))
  simp only [e1, dTrueA, beq_self_eq_true, beq_tfI, beq_ftI, Bool.false_and, Bool.true_and, Bool.false_or, Bool.true_or, Bool.not_true, Bool.not_false, Bool.cond_true, Bool.cond_false, gv_fI, gv_tI]
  repeat (first | refine go_run ?_ | (refine go_newP ?_; clear hw; intro p w hw) | (refine go_newWr ?_; clear hw; intro w hw) | (refine go_newS ?_; clear hw; intro s w hw))
  refine st_call rfl (Ints_spec (h1.at hw) (h2.at hw)) ?_
  rintro _ w' ⟨⟨r, rfl, hr⟩, hk'⟩
  replace hw := hw.call0 hk'
  clear hk'
  refine ⟨_, rfl, ?_⟩
  obtain rfl : r = true := hr.2 rfl
  repeat (first | refine go_run ?_ | (refine go_newP ?_; clear hw; intro p w hw) | (refine go_newWr ?_; clear hw; intro w hw) | (refine go_newS ?_; clear hw; intro s w hw))
  simp only [e2, e3, dTrueA, beq_self_eq_true, beq_tfI, beq_ftI, Bool.false_and, Bool.true_and, Bool.false_or, Bool.true_or, Bool.not_true, Bool.not_false, Bool.cond_true, Bool.cond_false, gv_fI, gv_tI]
  repeat (first | refine go_run ?_ | (refine go_newP ?_; clear hw; intro p w hw) | (refine go_newWr ?_; clear hw; intro w hw) | (refine go_newS ?_; clear hw; intro s w hw))
  exact res_one (v := .bool true) rfl rfl ⟨rfl, sat_none hw⟩
theorem anum_nil {w : World} : Calls Tryz.prog 15 #[.nilIface] w fun e w' => e = .returned (.int .i64 0) ∧ Sat w w' [] := by
  have h := Num_spec (w0 := w) 0
  rw [errV_zero rfl] at h
  exact h
theorem anum_some {w : World} {k : Int} (hk : k ≠ 0) : Calls Tryz.prog 15 #[.iface 85 (.int .i64 k)] w fun e w' => e = .returned (.int .i64 k) ∧ Sat w w' [] := by
  have h := Num_spec (w0 := w) k
  rw [errV_some hk] at h
  exact h
set_option maxRecDepth 8000 in
set_option maxHeartbeats 16000000 in
theorem AstarErrors_walk {w0 : World} {a b c d a2 b2 c2 d2 : Value} {vs us : List OpV} {t u : TTask} {n0 : Int} (ht : RTask w0 a b c d vs t) (hu : RTask w0 a2 b2 c2 d2 us u) :
    Calls Tryz.prog 3 #[.agg #[a, b, c, d], .agg #[a2, b2, c2, d2], .int .i64 n0] w0 fun e w' => e = .returned (.bool true) ∧ Sat w0 w' [] := by
  have htv := ht.vars
  have htr := ht.ops.rs
  have htl := ht.ops.len
  have htb := htr.big
  have htvb := htv.big
  have hw := Sat.start w0
  refine calls_of_vc (args := [.agg #[a, b, c, d], .agg #[a2, b2, c2, d2], .int .i64 n0]) mixed Tryz.func3 rfl (by kernel_rfl) (Nat.le_of_ble_eq_true rfl) ?_
  refine vc_seq ?_
  refine vc_region ?_
  refine go_box ?_
  clear hw
  intro p3 w hw
  refine go_box ?_
  clear hw
  intro p4 w hw
  replace hw : Sat w0 w [Box p4 26 [a2, b2, c2, d2], Box p3 26 [a, b, c, d]] := hw
  by_cases q1 : (100 : Int) < (t.vars.length : Int)
  · have hd1 : decide ((100 : Int) < (t.vars.length : Int)) = true := decide_eq_true q1
    repeat (first | refine go_run ?_ | (refine go_newP ?_; clear hw; intro p w hw) | (refine go_newWr ?_; clear hw; intro w hw) | (refine go_newS ?_; clear hw; intro s w hw))
    simp only [hd1, beq_self_eq_true, beq_tfI, beq_ftI, Bool.false_and, Bool.true_and, Bool.false_or, Bool.true_or, Bool.not_true, Bool.not_false, Bool.cond_true, Bool.cond_false, gv_fI, gv_tI]
    repeat (first | refine go_run ?_ | (refine go_newP ?_; clear hw; intro p w hw) | (refine go_newWr ?_; clear hw; intro w hw) | (refine go_newS ?_; clear hw; intro s w hw))
    refine st_call rfl aawake_spec ?_
    rintro _ w' ⟨rfl, hk'⟩
    replace hw := hw.call0 hk'
    clear hk'
    refine ⟨_, rfl, ?_⟩
    repeat (first | refine go_run ?_ | (refine go_newP ?_; clear hw; intro p w hw) | (refine go_newWr ?_; clear hw; intro w hw) | (refine go_newS ?_; clear hw; intro s w hw))
    exact res_one (v := .bool true) rfl rfl ⟨rfl, sat_none hw⟩
  have hd1 : decide ((100 : Int) < (t.vars.length : Int)) = false := decide_eq_false q1
  by_cases q2 : (20 : Int) < (vs.length : Int)
  · have hd2 : decide ((20 : Int) < (vs.length : Int)) = true := decide_eq_true q2
    repeat (first | refine go_run ?_ | (refine go_newP ?_; clear hw; intro p w hw) | (refine go_newWr ?_; clear hw; intro w hw) | (refine go_newS ?_; clear hw; intro s w hw))
    simp only [hd1, hd2, beq_self_eq_true, beq_tfI, beq_ftI, Bool.false_and, Bool.true_and, Bool.false_or, Bool.true_or, Bool.not_true, Bool.not_false, Bool.cond_true, Bool.cond_false, gv_fI, gv_tI]
    repeat (first | refine go_run ?_ | (refine go_newP ?_; clear hw; intro p w hw) | (refine go_newWr ?_; clear hw; intro w hw) | (refine go_newS ?_; clear hw; intro s w hw))
    refine st_call rfl aawake_spec ?_
    rintro _ w' ⟨rfl, hk'⟩
    replace hw := hw.call0 hk'
    clear hk'
    refine ⟨_, rfl, ?_⟩
    repeat (first | refine go_run ?_ | (refine go_newP ?_; clear hw; intro p w hw) | (refine go_newWr ?_; clear hw; intro w hw) | (refine go_newS ?_; clear hw; intro s w hw))
    exact res_one (v := .bool true) rfl rfl ⟨rfl, sat_none hw⟩
  have hd2 : decide ((20 : Int) < (vs.length : Int)) = false := decide_eq_false q2
  repeat (first | refine go_run ?_ | (refine go_newP ?_; clear hw; intro p w hw) | (refine go_newWr ?_; clear hw; intro w hw) | (refine go_newS ?_; clear hw; intro s w hw))
  simp only [hd1, hd2, beq_self_eq_true, beq_tfI, beq_ftI, Bool.false_and, Bool.true_and, Bool.false_or, Bool.true_or, Bool.not_true, Bool.not_false, Bool.cond_true, Bool.cond_false, gv_fI, gv_tI]
  repeat (first | refine go_run ?_ | (refine go_newP ?_; clear hw; intro p w hw) | (refine go_newWr ?_; clear hw; intro w hw) | (refine go_newS ?_; clear hw; intro s w hw))
  refine st_call rfl (afits_spec (hu.at hw)) ?_
  rintro _ w' ⟨⟨r, rfl, hr⟩, hk'⟩
  replace hw := hw.call0 hk'
  clear hk'
  refine ⟨_, rfl, ?_⟩
  cases r
  · repeat (first | refine go_run ?_ | (refine go_newP ?_; clear hw; intro p w hw) | (refine go_newWr ?_; clear hw; intro w hw) | (refine go_newS ?_; clear hw; intro s w hw))
    refine st_call rfl aawake_spec ?_
    rintro _ w' ⟨rfl, hk'⟩
    replace hw := hw.call0 hk'
    clear hk'
    refine ⟨_, rfl, ?_⟩
    repeat (first | refine go_run ?_ | (refine go_newP ?_; clear hw; intro p w hw) | (refine go_newWr ?_; clear hw; intro w hw) | (refine go_newS ?_; clear hw; intro s w hw))
    exact res_one (v := .bool true) rfl rfl ⟨rfl, sat_none hw⟩
  obtain ⟨hs, hmy⟩ := hr.1 rfl
  have hgu := hs.good
  repeat (first | refine go_run ?_ | (refine go_newP ?_; clear hw; intro p w hw) | (refine go_newWr ?_; clear hw; intro w hw) | (refine go_newS ?_; clear hw; intro s w hw))
  refine st_call rfl aawake_spec ?_
  rintro _ w' ⟨rfl, hk'⟩
  replace hw : Sat w0 w' [Box p4 26 [a2, b2, c2, d2], Box p3 26 [a, b, c, d]] := hw.call0 hk'
  clear hk'
  refine ⟨_, rfl, ?_⟩
  repeat (first | refine go_run ?_ | (refine go_newP ?_; clear hw; intro p w hw) | (refine go_newWr ?_; clear hw; intro w hw) | (refine go_newS ?_; clear hw; intro s w hw))
  refine vc_loop [6, 8, 42, 43, 44, 45, 46, 47, 48, 49, 50, 51, 52, 53, 54, 55, 56] (G := Nat) (fun i => [(42, .int .i64 i)]) (fun i w => i ≤ t.ops.length ∧ Sat w0 w [Box p4 26 [a2, b2, c2, d2], Box p3 26 [a, b, c, d]]) (fun i => t.ops.length - i) 0 (fun _ => rfl) ⟨rfl, trivial⟩ ⟨Nat.zero_le _, hw⟩ ?_
  clear hw
  rintro σ i w ⟨hi, hw⟩
  repeat (first | refine go_run ?_ | (refine go_newP ?_; clear hw; intro p w hw) | (refine go_newW ?_; clear hw; intro w hw) | (refine go_newS ?_; clear hw; intro s w hw))
  refine go_if (fun h5 => ?_) (fun h5 => ?_)
  · have hil : i < t.ops.length := by omega
    have hx := ht.ops.at_ i hil
    have ax := hx.one
    have px := hx.pre
    obtain ⟨ex, hex⟩ := hx.effs
    have hexr := hex.rs
    have hexl := hex.len
    by_cases q3 : (8 : Int) < (ex.length : Int)
    · have hd3 : decide ((8 : Int) < (ex.length : Int)) = true := decide_eq_true q3
      repeat (first | refine go_run ?_ | (refine go_newP ?_; clear hw; intro p w hw) | (refine go_newWr ?_; clear hw; intro w hw) | (refine go_newS ?_; clear hw; intro s w hw))
      simp only [hd3, beq_self_eq_true, beq_tfI, beq_ftI, Bool.false_and, Bool.true_and, Bool.false_or, Bool.true_or, Bool.not_true, Bool.not_false, Bool.cond_true, Bool.cond_false, gv_fI, gv_tI]
      repeat (first | refine go_run ?_ | (refine go_newP ?_; clear hw; intro p w hw) | (refine go_newWr ?_; clear hw; intro w hw) | (refine go_newS ?_; clear hw; intro s w hw))
      exact res_one (v := .bool true) rfl rfl ⟨rfl, sat_none hw⟩
    have hd3 : decide ((8 : Int) < (ex.length : Int)) = false := decide_eq_false q3
    by_cases q4 : (100 : Int) < ((t.ops.getD i dOp).pre.length : Int)
    · have hd4 : decide ((100 : Int) < ((t.ops.getD i dOp).pre.length : Int)) = true := decide_eq_true q4
      repeat (first | refine go_run ?_ | (refine go_newP ?_; clear hw; intro p w hw) | (refine go_newWr ?_; clear hw; intro w hw) | (refine go_newS ?_; clear hw; intro s w hw))
      simp only [hd3, hd4, beq_self_eq_true, beq_tfI, beq_ftI, Bool.false_and, Bool.true_and, Bool.false_or, Bool.true_or, Bool.not_true, Bool.not_false, Bool.cond_true, Bool.cond_false, gv_fI, gv_tI]
      repeat (first | refine go_run ?_ | (refine go_newP ?_; clear hw; intro p w hw) | (refine go_newWr ?_; clear hw; intro w hw) | (refine go_newS ?_; clear hw; intro s w hw))
      exact res_one (v := .bool true) rfl rfl ⟨rfl, sat_none hw⟩
    have hd4 : decide ((100 : Int) < ((t.ops.getD i dOp).pre.length : Int)) = false := decide_eq_false q4
    repeat (first | refine go_run ?_ | (refine go_newP ?_; clear hw; intro p w hw) | (refine go_newWr ?_; clear hw; intro w hw) | (refine go_newS ?_; clear hw; intro s w hw))
    simp only [hd3, hd4, beq_self_eq_true, beq_tfI, beq_ftI, Bool.false_and, Bool.true_and, Bool.false_or, Bool.true_or, Bool.not_true, Bool.not_false, Bool.cond_true, Bool.cond_false, gv_fI, gv_tI]
    repeat (first | refine go_run ?_ | (refine go_newP ?_; clear hw; intro p w hw) | (refine go_newWr ?_; clear hw; intro w hw) | (refine go_newS ?_; clear hw; intro s w hw))
    exact ⟨i + 1, ⟨rfl, trivial⟩, by repeat (first | exact agree_refl | (apply agree_upd rfl) | (apply agree_mix rfl) | (apply agree_sets rfl)), ⟨by omega, hw.tail⟩, by omega⟩
  repeat (first | refine go_run ?_ | (refine go_newP ?_; clear hw; intro p w hw) | (refine go_newW ?_; clear hw; intro w hw) | (refine go_newS ?_; clear hw; intro s w hw))
  refine st_call rfl (Blind_spec (hu.at hw) hgu) ?_
  rintro _ w' ⟨pe, rfl, hk'⟩
  replace hw := hw.call1 hk'
  clear hk'
  refine ⟨_, rfl, ?_⟩
  repeat (first | refine go_run ?_ | (refine go_newP ?_; clear hw; intro p w hw) | (refine go_newWr ?_; clear hw; intro w hw) | (refine go_newS ?_; clear hw; intro s w hw))
  obtain ⟨kk, hkk⟩ : ∃ kk, kk = (if (100 : Int) < n0 then 100 else n0) := ⟨_, rfl⟩
  rw [← hkk]
  have hkk5 : kk ≤ 100 := by rw [hkk]; split <;> omega
  have hNN : 1 + kk.toNat * t.ops.length < 65536 := by
    have h1 : kk.toNat * t.ops.length ≤ 100 * 20 := Nat.mul_le_mul (by omega) (by omega)
    omega
  by_cases hb : checkT t = 0
  rotate_left
  · have hnG : ¬ GoodT t := fun h => hb ((good_iff t).2 h)
    refine st_call rfl (aSearch_err hb (begErr_bad (ht.at hw) hb)) ?_
    rintro _ w' ⟨rfl, hk'⟩
    replace hw := hw.call0 hk'
    clear hk'
    refine ⟨_, rfl, ?_⟩
    rw [errV_some hb]
    repeat (first | refine go_run ?_ | (refine go_newP ?_; clear hw; intro p w hw) | (refine go_newWr ?_; clear hw; intro w hw) | (refine go_newS ?_; clear hw; intro s w hw))
    rw [← hkk]
    refine st_call rfl (aBounded_err hb (begErr_bad (ht.at hw) hb)) ?_
    rintro _ w' ⟨rfl, hk'⟩
    replace hw := hw.call0 hk'
    clear hk'
    refine ⟨_, rfl, ?_⟩
    rw [errV_some hb]
    repeat (first | refine go_run ?_ | (refine go_newP ?_; clear hw; intro p w hw) | (refine go_newWr ?_; clear hw; intro w hw) | (refine go_newS ?_; clear hw; intro s w hw))
    refine st_call rfl (Good_spec (ht.at hw)) ?_
    rintro _ w' ⟨⟨r, rfl, hr⟩, hk'⟩
    replace hw := hw.call0 hk'
    clear hk'
    refine ⟨_, rfl, ?_⟩
    obtain rfl : r = false := by
      cases r
      · rfl
      · exact absurd (hr.1 rfl) hnG
    repeat (first | refine go_run ?_ | (refine go_newP ?_; clear hw; intro p w hw) | (refine go_newWr ?_; clear hw; intro w hw) | (refine go_newS ?_; clear hw; intro s w hw))
    refine st_call rfl (Check_spec (ht.at hw)) ?_
    rintro _ w' ⟨rfl, hk'⟩
    replace hw := hw.call0 hk'
    clear hk'
    refine ⟨_, rfl, ?_⟩
    rw [errV_some hb]
    repeat (first | refine go_run ?_ | (refine go_newP ?_; clear hw; intro p w hw) | (refine go_newWr ?_; clear hw; intro w hw) | (refine go_newS ?_; clear hw; intro s w hw))
    refine st_call rfl (anum_some hb) ?_
    rintro _ w' ⟨rfl, hk'⟩
    replace hw := hw.call0 hk'
    clear hk'
    refine ⟨_, rfl, ?_⟩
    repeat (first | refine go_run ?_ | (refine go_newP ?_; clear hw; intro p w hw) | (refine go_newWr ?_; clear hw; intro w hw) | (refine go_newS ?_; clear hw; intro s w hw))
    refine st_call rfl (anum_some hb) ?_
    rintro _ w' ⟨rfl, hk'⟩
    replace hw := hw.call0 hk'
    clear hk'
    refine ⟨_, rfl, ?_⟩
    have hc0 : decide (checkT t = checkT t) = true := decide_eq_true rfl
    repeat (first | refine go_run ?_ | (refine go_newP ?_; clear hw; intro p w hw) | (refine go_newWr ?_; clear hw; intro w hw) | (refine go_newS ?_; clear hw; intro s w hw))
    simp only [hc0, dTrueA, beq_self_eq_true, beq_tfI, beq_ftI, Bool.false_and, Bool.true_and, Bool.false_or, Bool.true_or, Bool.not_true, Bool.not_false, Bool.cond_true, Bool.cond_false, gv_fI, gv_tI]
    repeat (first | refine go_run ?_ | (refine go_newP ?_; clear hw; intro p w hw) | (refine go_newWr ?_; clear hw; intro w hw) | (refine go_newS ?_; clear hw; intro s w hw))
    refine st_call rfl (anum_some hb) ?_
    rintro _ w' ⟨rfl, hk'⟩
    replace hw := hw.call0 hk'
    clear hk'
    refine ⟨_, rfl, ?_⟩
    repeat (first | refine go_run ?_ | (refine go_newP ?_; clear hw; intro p w hw) | (refine go_newWr ?_; clear hw; intro w hw) | (refine go_newS ?_; clear hw; intro s w hw))
    simp only [hc0, dTrueA, beq_self_eq_true, beq_tfI, beq_ftI, Bool.false_and, Bool.true_and, Bool.false_or, Bool.true_or, Bool.not_true, Bool.not_false, Bool.cond_true, Bool.cond_false, gv_fI, gv_tI]
    repeat (first | refine go_run ?_ | (refine go_newP ?_; clear hw; intro p w hw) | (refine go_newWr ?_; clear hw; intro w hw) | (refine go_newS ?_; clear hw; intro s w hw))
    refine st_call rfl (Good_spec (ht.at hw)) ?_
    rintro _ w' ⟨⟨r, rfl, hr⟩, hk'⟩
    replace hw := hw.call0 hk'
    clear hk'
    refine ⟨_, rfl, ?_⟩
    obtain rfl : r = false := by
      cases r
      · rfl
      · exact absurd (hr.1 rfl) hnG
    repeat (first | refine go_run ?_ | (refine go_newP ?_; clear hw; intro p w hw) | (refine go_newWr ?_; clear hw; intro w hw) | (refine go_newS ?_; clear hw; intro s w hw))
    exact res_one (v := .bool true) rfl rfl ⟨rfl, sat_none hw⟩
  have hgt := (good_iff t).1 hb
  by_cases hut : u = t
  rotate_left
  · refine st_call rfl (aSearch_err (k := 2) (by decide) (begErr_other (ht.at hw) hgt (hw.rdE 0 rfl) hut)) ?_
    rintro _ w' ⟨rfl, hk'⟩
    replace hw := hw.call0 hk'
    clear hk'
    refine ⟨_, rfl, ?_⟩
    rw [errV_some (show (2 : Int) ≠ 0 by decide)]
    repeat (first | refine go_run ?_ | (refine go_newP ?_; clear hw; intro p w hw) | (refine go_newWr ?_; clear hw; intro w hw) | (refine go_newS ?_; clear hw; intro s w hw))
    rw [← hkk]
    refine st_call rfl (aBounded_err (k := 2) (by decide) (begErr_other (ht.at hw) hgt (hw.rdE 1 rfl) hut)) ?_
    rintro _ w' ⟨rfl, hk'⟩
    replace hw := hw.call0 hk'
    clear hk'
    refine ⟨_, rfl, ?_⟩
    rw [errV_some (show (2 : Int) ≠ 0 by decide)]
    repeat (first | refine go_run ?_ | (refine go_newP ?_; clear hw; intro p w hw) | (refine go_newWr ?_; clear hw; intro w hw) | (refine go_newS ?_; clear hw; intro s w hw))
    refine st_call rfl (Good_spec (ht.at hw)) ?_
    rintro _ w' ⟨⟨r, rfl, hr⟩, hk'⟩
    replace hw := hw.call0 hk'
    clear hk'
    refine ⟨_, rfl, ?_⟩
    obtain rfl : r = true := hr.2 hgt
    clear hr
    repeat (first | refine go_run ?_ | (refine go_newP ?_; clear hw; intro p w hw) | (refine go_newWr ?_; clear hw; intro w hw) | (refine go_newS ?_; clear hw; intro s w hw))
    refine st_call rfl (Tasks_spec (ht.at hw) (hu.at hw)) ?_
    rintro _ w' ⟨⟨r, rfl, hr⟩, hk'⟩
    replace hw := hw.call0 hk'
    clear hk'
    refine ⟨_, rfl, ?_⟩
    obtain rfl : r = false := by
      cases r
      · rfl
      · exact absurd (hr.1 rfl).symm hut
    repeat (first | refine go_run ?_ | (refine go_newP ?_; clear hw; intro p w hw) | (refine go_newWr ?_; clear hw; intro w hw) | (refine go_newS ?_; clear hw; intro s w hw))
    refine st_call rfl (anum_some (show (2 : Int) ≠ 0 by decide)) ?_
    rintro _ w' ⟨rfl, hk'⟩
    replace hw := hw.call0 hk'
    clear hk'
    refine ⟨_, rfl, ?_⟩
    repeat (first | refine go_run ?_ | (refine go_newP ?_; clear hw; intro p w hw) | (refine go_newWr ?_; clear hw; intro w hw) | (refine go_newS ?_; clear hw; intro s w hw))
    refine st_call rfl (anum_some (show (2 : Int) ≠ 0 by decide)) ?_
    rintro _ w' ⟨rfl, hk'⟩
    replace hw := hw.call0 hk'
    clear hk'
    refine ⟨_, rfl, ?_⟩
    repeat (first | refine go_run ?_ | (refine go_newP ?_; clear hw; intro p w hw) | (refine go_newWr ?_; clear hw; intro w hw) | (refine go_newS ?_; clear hw; intro s w hw))
    refine st_call rfl (Good_spec (ht.at hw)) ?_
    rintro _ w' ⟨⟨r, rfl, hr⟩, hk'⟩
    replace hw := hw.call0 hk'
    clear hk'
    refine ⟨_, rfl, ?_⟩
    obtain rfl : r = true := hr.2 hgt
    clear hr
    repeat (first | refine go_run ?_ | (refine go_newP ?_; clear hw; intro p w hw) | (refine go_newWr ?_; clear hw; intro w hw) | (refine go_newS ?_; clear hw; intro s w hw))
    refine st_call rfl (Blind_spec (ht.at hw) hgt) ?_
    rintro _ w' ⟨pb, rfl, hk'⟩
    replace hw := hw.call1 hk'
    clear hk'
    refine ⟨_, rfl, ?_⟩
    repeat (first | refine go_run ?_ | (refine go_newP ?_; clear hw; intro p w hw) | (refine go_newWr ?_; clear hw; intro w hw) | (refine go_newS ?_; clear hw; intro s w hw))
    rw [← hkk]
    refine st_call rfl (aSearch_spec (ev := .pointer none) (L := kk) (lim := kk.toNat) (ht.at hw) (blind_ok hgt) (.inl ⟨rfl, rfl⟩) rfl (by omega) (.inr hNN)) ?_
    rintro _ w' ⟨pv1, pl1, rfl, hP1, hk'⟩
    replace hw := hw.call1 hk'
    clear hk'
    refine ⟨_, rfl, ?_⟩
    have opv1 := (rsO (s := pv1) hw).one
    repeat (first | refine go_run ?_ | (refine go_newP ?_; clear hw; intro p w hw) | (refine go_newS ?_; clear hw; intro s w hw))
    obtain ⟨p18, hp18⟩ : ∃ p18, p18 = p := ⟨p, rfl⟩
    subst hp18
    refine st_boxAgg (n := 4) (p := p18) (vs := [.int .i64 (vdA (srchA ⟨t, blindH t, none⟩ kk.toNat).1), pv1, .int .i64 (coL t pl1), .int .i64 (srchA ⟨t, blindH t, none⟩ kk.toNat).2.ex.length]) rfl rfl hw inferInstance rfl rfl (by simp only [List.all_cons, List.all_nil, opv1]; rfl) ?_
    clear hw
    intro w hw
    repeat (first | refine go_run ?_ | (refine go_newP ?_; clear hw; intro p w hw) | (refine go_newWr ?_; clear hw; intro w hw) | (refine go_newS ?_; clear hw; intro s w hw))
    rw [← hkk]
    refine st_call rfl (aSearch_spec (ev := .pointer (some pb)) (L := kk) (lim := kk.toNat) (ht.at hw) (blind_ok hgt) (.inr ⟨pb, rfl, hw.rdE 2 rfl⟩) rfl (by omega) (.inr hNN)) ?_
    rintro _ w' ⟨pv2, pl2, rfl, hP2, hk'⟩
    obtain rfl : pl1 = pl2 := planR_uniq hP1 hP2
    replace hw := hw.call1 hk'
    clear hk' hP1 hP2
    refine ⟨_, rfl, ?_⟩
    have opv2 := (rsO (s := pv2) hw).one
    repeat (first | refine go_run ?_ | (refine go_newP ?_; clear hw; intro p w hw) | (refine go_newS ?_; clear hw; intro s w hw))
    obtain ⟨p19, hp19⟩ : ∃ p19, p19 = p := ⟨p, rfl⟩
    subst hp19
    refine st_boxAgg (n := 4) (p := p19) (vs := [.int .i64 (vdA (srchA ⟨t, blindH t, none⟩ kk.toNat).1), pv2, .int .i64 (coL t pl1), .int .i64 (srchA ⟨t, blindH t, none⟩ kk.toNat).2.ex.length]) rfl rfl hw inferInstance rfl rfl (by simp only [List.all_cons, List.all_nil, opv2]; rfl) ?_
    clear hw
    intro w hw
    repeat (first | refine go_run ?_ | (refine go_newP ?_; clear hw; intro p w hw) | (refine go_newWr ?_; clear hw; intro w hw) | (refine go_newS ?_; clear hw; intro s w hw))
    refine st_call rfl (Same49_spec (pv := pv1) (pv2 := pv2) (rsO (s := pv1) hw) (rsO (s := pv2) hw)) ?_
    rintro _ w' ⟨rfl, hk'⟩
    replace hw := hw.call0 hk'
    clear hk'
    refine ⟨_, rfl, ?_⟩
    repeat (first | refine go_run ?_ | (refine go_newP ?_; clear hw; intro p w hw) | (refine go_newWr ?_; clear hw; intro w hw) | (refine go_newS ?_; clear hw; intro s w hw))
    exact res_one (v := .bool true) rfl rfl ⟨rfl, sat_none hw⟩
  have hpe : REst w' pe t (blindH t) := by
    have h := hw.rdE 0 rfl
    rw [hut] at h
    exact h
  refine st_call rfl (aSearch_spec (ev := .pointer (some pe)) (L := kk) (lim := kk.toNat) (ht.at hw) (blind_ok hgt) (.inr ⟨pe, rfl, hpe⟩) rfl (by omega) (.inr hNN)) ?_
  rintro _ w2 ⟨pv0, pl0, rfl, _, hk'⟩
  replace hw := hw.call1 hk'
  clear hk' hpe
  refine ⟨_, rfl, ?_⟩
  have opv0 := (rsO (s := pv0) hw).one
  repeat (first | refine go_run ?_ | (refine go_newP ?_; clear hw; intro p w hw) | (refine go_newS ?_; clear hw; intro s w hw))
  obtain ⟨p12, hp12⟩ : ∃ p12, p12 = p := ⟨p, rfl⟩
  subst hp12
  refine st_boxAgg (n := 4) (p := p12) (vs := [.int .i64 (vdA (srchA ⟨t, blindH t, none⟩ kk.toNat).1), pv0, .int .i64 (coL t pl0), .int .i64 (srchA ⟨t, blindH t, none⟩ kk.toNat).2.ex.length]) rfl rfl hw inferInstance rfl rfl (by simp only [List.all_cons, List.all_nil, opv0]; rfl) ?_
  clear hw
  intro w hw
  have hpe3 : REst w pe t (blindH t) := by
    have h := hw.rdE 2 rfl
    rw [hut] at h
    exact h
  repeat (first | refine go_run ?_ | (refine go_newP ?_; clear hw; intro p w hw) | (refine go_newWr ?_; clear hw; intro w hw) | (refine go_newS ?_; clear hw; intro s w hw))
  rw [← hkk]
  refine st_call rfl (aBounded_spec (ev := .pointer (some pe)) (L := kk) (bd := 5) (lim := kk.toNat) (ht.at hw) (blind_ok hgt) (.inr ⟨pe, rfl, hpe3⟩) rfl (by omega) (.inr hNN)) ?_
  rintro _ w2 ⟨pv9, pl9, rfl, _, hk'⟩
  replace hw := hw.call1 hk'
  clear hk' hpe3
  refine ⟨_, rfl, ?_⟩
  have opv9 := (rsO (s := pv9) hw).one
  repeat (first | refine go_run ?_ | (refine go_newP ?_; clear hw; intro p w hw) | (refine go_newS ?_; clear hw; intro s w hw))
  obtain ⟨p13, hp13⟩ : ∃ p13, p13 = p := ⟨p, rfl⟩
  subst hp13
  refine st_boxAgg (n := 4) (p := p13) (vs := [.int .i64 (vdA (srchA ⟨t, blindH t, some 5⟩ kk.toNat).1), pv9, .int .i64 (coL t pl9), .int .i64 (srchA ⟨t, blindH t, some 5⟩ kk.toNat).2.ex.length]) rfl rfl hw inferInstance rfl rfl (by simp only [List.all_cons, List.all_nil, opv9]; rfl) ?_
  clear hw
  intro w hw
  repeat (first | refine go_run ?_ | (refine go_newP ?_; clear hw; intro p w hw) | (refine go_newWr ?_; clear hw; intro w hw) | (refine go_newS ?_; clear hw; intro s w hw))
  refine st_call rfl (Good_spec (ht.at hw)) ?_
  rintro _ w' ⟨⟨r, rfl, hr⟩, hk'⟩
  replace hw := hw.call0 hk'
  clear hk'
  refine ⟨_, rfl, ?_⟩
  obtain rfl : r = true := hr.2 hgt
  clear hr
  repeat (first | refine go_run ?_ | (refine go_newP ?_; clear hw; intro p w hw) | (refine go_newWr ?_; clear hw; intro w hw) | (refine go_newS ?_; clear hw; intro s w hw))
  refine st_call rfl (Tasks_spec (ht.at hw) (hu.at hw)) ?_
  rintro _ w' ⟨⟨r, rfl, hr⟩, hk'⟩
  replace hw := hw.call0 hk'
  clear hk'
  refine ⟨_, rfl, ?_⟩
  obtain rfl : r = true := hr.2 hut.symm
  clear hr
  repeat (first | refine go_run ?_ | (refine go_newP ?_; clear hw; intro p w hw) | (refine go_newWr ?_; clear hw; intro w hw) | (refine go_newS ?_; clear hw; intro s w hw))
  refine st_call rfl anum_nil ?_
  rintro _ w' ⟨rfl, hk'⟩
  replace hw := hw.call0 hk'
  clear hk'
  refine ⟨_, rfl, ?_⟩
  repeat (first | refine go_run ?_ | (refine go_newP ?_; clear hw; intro p w hw) | (refine go_newWr ?_; clear hw; intro w hw) | (refine go_newS ?_; clear hw; intro s w hw))
  refine st_call rfl anum_nil ?_
  rintro _ w' ⟨rfl, hk'⟩
  replace hw := hw.call0 hk'
  clear hk'
  refine ⟨_, rfl, ?_⟩
  repeat (first | refine go_run ?_ | (refine go_newP ?_; clear hw; intro p w hw) | (refine go_newWr ?_; clear hw; intro w hw) | (refine go_newS ?_; clear hw; intro s w hw))
  refine st_call rfl (Good_spec (ht.at hw)) ?_
  rintro _ w' ⟨⟨r, rfl, hr⟩, hk'⟩
  replace hw := hw.call0 hk'
  clear hk'
  refine ⟨_, rfl, ?_⟩
  obtain rfl : r = true := hr.2 hgt
  clear hr
  repeat (first | refine go_run ?_ | (refine go_newP ?_; clear hw; intro p w hw) | (refine go_newWr ?_; clear hw; intro w hw) | (refine go_newS ?_; clear hw; intro s w hw))
  refine st_call rfl (Blind_spec (ht.at hw) hgt) ?_
  rintro _ w' ⟨pb, rfl, hk'⟩
  replace hw := hw.call1 hk'
  clear hk'
  refine ⟨_, rfl, ?_⟩
  repeat (first | refine go_run ?_ | (refine go_newP ?_; clear hw; intro p w hw) | (refine go_newWr ?_; clear hw; intro w hw) | (refine go_newS ?_; clear hw; intro s w hw))
  rw [← hkk]
  refine st_call rfl (aSearch_spec (ev := .pointer none) (L := kk) (lim := kk.toNat) (ht.at hw) (blind_ok hgt) (.inl ⟨rfl, rfl⟩) rfl (by omega) (.inr hNN)) ?_
  rintro _ w' ⟨pv1, pl1, rfl, hP1, hk'⟩
  replace hw := hw.call1 hk'
  clear hk'
  refine ⟨_, rfl, ?_⟩
  have opv1 := (rsO (s := pv1) hw).one
  repeat (first | refine go_run ?_ | (refine go_newP ?_; clear hw; intro p w hw) | (refine go_newS ?_; clear hw; intro s w hw))
  obtain ⟨p18, hp18⟩ : ∃ p18, p18 = p := ⟨p, rfl⟩
  subst hp18
  refine st_boxAgg (n := 4) (p := p18) (vs := [.int .i64 (vdA (srchA ⟨t, blindH t, none⟩ kk.toNat).1), pv1, .int .i64 (coL t pl1), .int .i64 (srchA ⟨t, blindH t, none⟩ kk.toNat).2.ex.length]) rfl rfl hw inferInstance rfl rfl (by simp only [List.all_cons, List.all_nil, opv1]; rfl) ?_
  clear hw
  intro w hw
  repeat (first | refine go_run ?_ | (refine go_newP ?_; clear hw; intro p w hw) | (refine go_newWr ?_; clear hw; intro w hw) | (refine go_newS ?_; clear hw; intro s w hw))
  rw [← hkk]
  refine st_call rfl (aSearch_spec (ev := .pointer (some pb)) (L := kk) (lim := kk.toNat) (ht.at hw) (blind_ok hgt) (.inr ⟨pb, rfl, hw.rdE 2 rfl⟩) rfl (by omega) (.inr hNN)) ?_
  rintro _ w' ⟨pv2, pl2, rfl, hP2, hk'⟩
  obtain rfl : pl1 = pl2 := planR_uniq hP1 hP2
  replace hw := hw.call1 hk'
  clear hk' hP1 hP2
  refine ⟨_, rfl, ?_⟩
  have opv2 := (rsO (s := pv2) hw).one
  repeat (first | refine go_run ?_ | (refine go_newP ?_; clear hw; intro p w hw) | (refine go_newS ?_; clear hw; intro s w hw))
  obtain ⟨p19, hp19⟩ : ∃ p19, p19 = p := ⟨p, rfl⟩
  subst hp19
  refine st_boxAgg (n := 4) (p := p19) (vs := [.int .i64 (vdA (srchA ⟨t, blindH t, none⟩ kk.toNat).1), pv2, .int .i64 (coL t pl1), .int .i64 (srchA ⟨t, blindH t, none⟩ kk.toNat).2.ex.length]) rfl rfl hw inferInstance rfl rfl (by simp only [List.all_cons, List.all_nil, opv2]; rfl) ?_
  clear hw
  intro w hw
  repeat (first | refine go_run ?_ | (refine go_newP ?_; clear hw; intro p w hw) | (refine go_newWr ?_; clear hw; intro w hw) | (refine go_newS ?_; clear hw; intro s w hw))
  refine st_call rfl (Same49_spec (pv := pv1) (pv2 := pv2) (rsO (s := pv1) hw) (rsO (s := pv2) hw)) ?_
  rintro _ w' ⟨rfl, hk'⟩
  replace hw := hw.call0 hk'
  clear hk'
  refine ⟨_, rfl, ?_⟩
  repeat (first | refine go_run ?_ | (refine go_newP ?_; clear hw; intro p w hw) | (refine go_newWr ?_; clear hw; intro w hw) | (refine go_newS ?_; clear hw; intro s w hw))
  exact res_one (v := .bool true) rfl rfl ⟨rfl, sat_none hw⟩
end Go.Proofs.YtegndanecnicaaaGreat
