
/-
  The statement 'IdastarTables' returns true.
-/
import Derived.Test.YtgbijampdkahjaaWIAw
import Derived.Test.YtgbijampdkahjaaMTA
set_option linter.unusedSimpArgs false
set_option linter.unusedVariables false
namespace Go.Proofs.Ytgbijampdkahjaa
open Go.Sl Go
attribute [local irreducible] vc opsW opsD opV opW PureV ReadV Thn Blk
set_option maxRecDepth 8000 in
set_option maxHeartbeats 8000000 in
theorem IdastarTables_walk {w0 : World} {a b c d lv : Value} {vs : List OpV} {t : TTask} {less : List Int} (ht : RTask w0 a b c d vs t) (hl : RS tU8 w0 lv less) (hrl : ∀ x ∈ less, 0 ≤ x ∧ x ≤ 255) :
    Calls Try.prog 4 #[.agg #[a, b, c, d], lv] w0 fun e w' => e = .returned (.bool true) ∧ Sat w0 w' [] := by
  have hlb := hl.big
  have hw := Sat.start w0
  refine calls_of_vc (args := [.agg #[a, b, c, d], lv]) mixed Try.func4 rfl (by kernel_rfl) (Nat.le_of_ble_eq_true rfl) ?_
  repeat (first | refine go_run ?_ | (refine go_newP ?_; clear hw; intro p w hw) | (refine go_newWr ?_; clear hw; intro w hw) | (refine go_newS ?_; clear hw; intro s w hw))
  obtain ⟨pt, hpt⟩ : ∃ pt, pt = p := ⟨p, rfl⟩
  subst hpt
  refine st_call rfl (ifits_spec (ht.at hw)) ?_
  rintro _ w' ⟨⟨r, rfl, hr⟩, hk'⟩
  replace hw := hw.call0 hk'
  clear hk'
  refine ⟨_, rfl, ?_⟩
  cases r
  · repeat (first | refine go_run ?_ | (refine go_newP ?_; clear hw; intro p w hw) | (refine go_newWr ?_; clear hw; intro w hw) | (refine go_newS ?_; clear hw; intro s w hw))
    refine st_call rfl iawake_spec ?_
    rintro _ w' ⟨rfl, hk'⟩
    replace hw := hw.call0 hk'
    clear hk'
    refine ⟨_, rfl, ?_⟩
    repeat (first | refine go_run ?_ | (refine go_newP ?_; clear hw; intro p w hw) | (refine go_newWr ?_; clear hw; intro w hw) | (refine go_newS ?_; clear hw; intro s w hw))
    exact res_one (v := .bool true) rfl rfl ⟨rfl, sat_none hw⟩
  obtain ⟨hs, hmy⟩ := hr.1 rfl
  have hg := hs.good
  have hB := hs.many
  have hvl := hg.vars
  have hsl : (statesL t.vars).length = (prodL t.vars).toNat := statesL_len hg.pos
  have hpp := prodL_pos hg.pos
  by_cases h200 : (200 : Int) < (less.length : Int)
  · have hd : decide ((200 : Int) < (less.length : Int)) = true := decide_eq_true h200
    repeat (first | refine go_run ?_ | (refine go_newP ?_; clear hw; intro p w hw) | (refine go_newWr ?_; clear hw; intro w hw) | (refine go_newS ?_; clear hw; intro s w hw))
    simp only [hd, beq_self_eq_true, beq_tfI, beq_ftI, Bool.false_and, Bool.true_and, Bool.not_true, Bool.not_false, Bool.cond_true, Bool.cond_false, gv_fI, gv_tI]
    repeat (first | refine go_run ?_ | (refine go_newP ?_; clear hw; intro p w hw) | (refine go_newWr ?_; clear hw; intro w hw) | (refine go_newS ?_; clear hw; intro s w hw))
    refine st_call rfl iawake_spec ?_
    rintro _ w' ⟨rfl, hk'⟩
    replace hw := hw.call0 hk'
    clear hk'
    refine ⟨_, rfl, ?_⟩
    repeat (first | refine go_run ?_ | (refine go_newP ?_; clear hw; intro p w hw) | (refine go_newWr ?_; clear hw; intro w hw) | (refine go_newS ?_; clear hw; intro s w hw))
    exact res_one (v := .bool true) rfl rfl ⟨rfl, sat_none hw⟩
  have hd : decide ((200 : Int) < (less.length : Int)) = false := decide_eq_false h200
  repeat (first | refine go_run ?_ | (refine go_newP ?_; clear hw; intro p w hw) | (refine go_newWr ?_; clear hw; intro w hw) | (refine go_newS ?_; clear hw; intro s w hw))
  simp only [hd, beq_self_eq_true, beq_tfI, beq_ftI, Bool.false_and, Bool.true_and, Bool.not_true, Bool.not_false, Bool.cond_true, Bool.cond_false, gv_fI, gv_tI]
  repeat (first | refine go_run ?_ | (refine go_newP ?_; clear hw; intro p w hw) | (refine go_newWr ?_; clear hw; intro w hw) | (refine go_newS ?_; clear hw; intro s w hw))
  refine st_call rfl iawake_spec ?_
  rintro _ w' ⟨rfl, hk'⟩
  replace hw := hw.call0 hk'
  clear hk'
  refine ⟨_, rfl, ?_⟩
  replace hw : Sat w0 w' [Box pt 26 [a, b, c, d]] := hw
  repeat (first | refine go_run ?_ | (refine go_newP ?_; clear hw; intro p w hw) | (refine go_newWr ?_; clear hw; intro w hw) | (refine go_newS ?_; clear hw; intro s w hw))
  refine vc_plan [.op 0, .op 1, .op 2, .op 3, .chk 0, .op 4, .op 5, .op 6, .op 7, .op 8, .op 9] hw (by kernel_rfl) ?_; clear hw; intro w hw
  repeat (first | refine go_run ?_ | (refine go_newP ?_; clear hw; intro p w hw) | (refine go_newWr ?_; clear hw; intro w hw) | (refine go_newS ?_; clear hw; intro s w hw))
  refine st_call rfl (below_spec (ht.at hw) hg hB (hl.at hw) hrl) ?_
  rintro _ w' ⟨sv, D, rfl, hD, hk'⟩
  replace hw := hw.call1 hk'
  clear hk'
  refine ⟨_, rfl, ?_⟩
  obtain ⟨q1, q2, q3, q4⟩ := below_ok hg (by omega) hD hrl
  have htT : tErr t (belowL D less) = 0 := by
    unfold tErr
    rw [if_neg (by rw [q1]; omega), if_neg (fun ⟨x, hx, h⟩ => by have := q2 x hx; omega)]
  have hH := tab_ok hg q1 q2
  have hadm := tab_adm hg (by omega) hD q4
  repeat (first | refine go_run ?_ | (refine go_newP ?_; clear hw; intro p w hw) | (refine go_newWr ?_; clear hw; intro w hw) | (refine go_newS ?_; clear hw; intro s w hw))
  refine st_call rfl (eTable_spec (ht.at hw) hg (rsO (s := sv) hw) (by omega)) ?_
  rintro _ w' (⟨h1, _⟩ | ⟨_, pe, rfl, hk'⟩)
  · exact absurd htT h1
  replace hw := hw.call1 hk'
  clear hk'
  refine ⟨_, rfl, ?_⟩
  repeat (first | refine go_run ?_ | (refine go_newP ?_; clear hw; intro p w hw) | (refine go_newWr ?_; clear hw; intro w hw) | (refine go_newS ?_; clear hw; intro s w hw))
  refine st_call rfl (Search_spec (ev := .pointer (some pe)) (L := 20000) (ht.at hw) hH (.inr ⟨pe, rfl, hw.rdE 0 rfl⟩) (by decide)) ?_
  rintro _ w' ⟨pv, rfl, hk'⟩
  replace hw := hw.call1 hk'
  clear hk'
  refine ⟨_, rfl, ?_⟩
  have opv := (rsO (s := pv) hw).one
  obtain ⟨R, hR⟩ : ∃ R, R = runR t (tabH t (belowL D less)) (20000 : Int).toNat := ⟨_, rfl⟩
  have hRk : RunOk t (tabH t (belowL D less)) 20000 R := by rw [hR]; exact runR_ok hH (by decide)
  rw [← hR] at hw ⊢
  have hlm := hRk.lm
  repeat (first | refine go_run ?_ | (refine go_newP ?_; clear hw; intro p w hw) | (refine go_newS ?_; clear hw; intro s w hw))
  obtain ⟨p7, hp7⟩ : ∃ p7, p7 = p := ⟨p, rfl⟩
  subst hp7
  refine st_boxAgg (n := 4) (p := p7) (vs := [.int .i64 (vdC R.1), pv, .int .i64 (coR t R), .int .i64 R.2.1.exp]) rfl rfl hw inferInstance rfl rfl (by simp only [List.all_cons, List.all_nil, opv]; rfl) ?_
  clear hw
  intro w hw
  have hpl := runR_path (t := t) (H := tabH t (belowL D less)) (lim := 20000) (by decide) hH
  rw [show runR t (tabH t (belowL D less)) 20000 = R from hR.symm] at hpl
  cases hvd : R.1 with
  | unknown =>
    have e1 : vdC R.1 = 3 := by rw [hvd]; rfl
    have e2 : plR R = [] := by unfold plR; rw [hvd]
    have e3 : coR t R = 0 := by unfold coR; rw [hvd]
    have e4 := hRk.unk hvd
    rw [e1, e3, e4, e2] at hw
    repeat (first | refine go_run ?_ | (refine go_newP ?_; clear hw; intro p w hw) | (refine go_newWr ?_; clear hw; intro w hw) | (refine go_newS ?_; clear hw; intro s w hw))
    exact res_one (v := .bool true) rfl rfl ⟨rfl, sat_none hw⟩
  | solved =>
    have e1 : vdC R.1 = 1 := by rw [hvd]; rfl
    have e2 : plR R = R.2.1.path := by unfold plR; rw [hvd]
    have e3 : coR t R = coL t R.2.1.path := by unfold coR; rw [hvd]
    rw [e1, e3, e2] at hw
    have hd2 : decide ((R.2.1.exp : Int) ≤ 20000) = true := decide_eq_true (by omega)
    repeat (first | refine go_run ?_ | (refine go_newP ?_; clear hw; intro p w hw) | (refine go_newWr ?_; clear hw; intro w hw) | (refine go_newS ?_; clear hw; intro s w hw))
    refine vc_plan [.op 0, .op 1, .op 2, .op 3, .op 4, .op 5, .op 6, .op 7, .chk 4, .chk 5, .op 8, .op 9, .op 10] hw (by kernel_rfl) ?_; clear hw; intro w hw
    repeat (first | refine go_run ?_ | (refine go_newP ?_; clear hw; intro p w hw) | (refine go_newWr ?_; clear hw; intro w hw) | (refine go_newS ?_; clear hw; intro s w hw))
    simp only [hd2, beq_self_eq_true, beq_tfI, beq_ftI, Bool.false_and, Bool.true_and, Bool.not_true, Bool.not_false, Bool.cond_true, Bool.cond_false, gv_fI, gv_tI]
    repeat (first | refine go_run ?_ | (refine go_newP ?_; clear hw; intro p w hw) | (refine go_newWr ?_; clear hw; intro w hw) | (refine go_newS ?_; clear hw; intro s w hw))
    refine st_call rfl (Best_spec (ht.at hw) hg hB) ?_
    rintro _ w' ⟨m, rfl, hm, hk'⟩
    replace hw := hw.call0 hk'
    clear hk'
    refine ⟨_, rfl, ?_⟩
    obtain ⟨b1, b2, b3⟩ := run_best hRk hadm hm
    obtain ⟨b4, b5, _⟩ := b1 hvd
    obtain ⟨_, b6⟩ := b4.fin
    repeat (first | refine go_run ?_ | (refine go_newP ?_; clear hw; intro p w hw) | (refine go_newWr ?_; clear hw; intro w hw) | (refine go_newS ?_; clear hw; intro s w hw))
    refine st_call rfl (Result_spec (pv := pv) (p := R.2.1.path) (vd := 1) (co := coL t R.2.1.path) (ex := R.2.1.exp) (best := m) (ht.at hw) hg (rsO (s := pv) hw) (by omega) (.inr ⟨b5, rfl, b4, b6.symm⟩)) ?_
    rintro _ w' ⟨rfl, hk'⟩
    replace hw := hw.call0 hk'
    clear hk'
    refine ⟨_, rfl, ?_⟩
    repeat (first | refine go_run ?_ | (refine go_newP ?_; clear hw; intro p w hw) | (refine go_newWr ?_; clear hw; intro w hw) | (refine go_newS ?_; clear hw; intro s w hw))
    exact res_one (v := .bool true) rfl rfl ⟨rfl, sat_none hw⟩
  | goOn =>
    have e1 : vdC R.1 = 2 := by rw [hvd]; rfl
    have e2 : plR R = [] := by unfold plR; rw [hvd]
    have e3 : coR t R = 0 := by unfold coR; rw [hvd]
    rw [e1, e3, e2] at hw
    have hd2 : decide ((R.2.1.exp : Int) ≤ 20000) = true := decide_eq_true (by omega)
    repeat (first | refine go_run ?_ | (refine go_newP ?_; clear hw; intro p w hw) | (refine go_newWr ?_; clear hw; intro w hw) | (refine go_newS ?_; clear hw; intro s w hw))
    refine vc_plan [.op 0, .op 1, .op 2, .op 3, .op 4, .op 5, .op 6, .op 7, .chk 4, .chk 5, .op 8, .op 9, .op 10] hw (by kernel_rfl) ?_; clear hw; intro w hw
    repeat (first | refine go_run ?_ | (refine go_newP ?_; clear hw; intro p w hw) | (refine go_newWr ?_; clear hw; intro w hw) | (refine go_newS ?_; clear hw; intro s w hw))
    simp only [hd2, beq_self_eq_true, beq_tfI, beq_ftI, Bool.false_and, Bool.true_and, Bool.not_true, Bool.not_false, Bool.cond_true, Bool.cond_false, gv_fI, gv_tI]
    repeat (first | refine go_run ?_ | (refine go_newP ?_; clear hw; intro p w hw) | (refine go_newWr ?_; clear hw; intro w hw) | (refine go_newS ?_; clear hw; intro s w hw))
    refine st_call rfl (Best_spec (ht.at hw) hg hB) ?_
    rintro _ w' ⟨m, rfl, hm, hk'⟩
    replace hw := hw.call0 hk'
    clear hk'
    refine ⟨_, rfl, ?_⟩
    obtain ⟨b1, b2, b3⟩ := run_best hRk hadm hm
    have b7 := b2 hvd
    repeat (first | refine go_run ?_ | (refine go_newP ?_; clear hw; intro p w hw) | (refine go_newWr ?_; clear hw; intro w hw) | (refine go_newS ?_; clear hw; intro s w hw))
    refine st_call rfl (Result_spec (pv := pv) (p := []) (vd := 2) (co := 0) (ex := R.2.1.exp) (best := m) (ht.at hw) hg (rsO (s := pv) hw) (by decide) (.inl ⟨by omega, rfl, rfl, rfl⟩)) ?_
    rintro _ w' ⟨rfl, hk'⟩
    replace hw := hw.call0 hk'
    clear hk'
    refine ⟨_, rfl, ?_⟩
    repeat (first | refine go_run ?_ | (refine go_newP ?_; clear hw; intro p w hw) | (refine go_newWr ?_; clear hw; intro w hw) | (refine go_newS ?_; clear hw; intro s w hw))
    exact res_one (v := .bool true) rfl rfl ⟨rfl, sat_none hw⟩
end Go.Proofs.Ytgbijampdkahjaa
