
/-
  Contracts of 'registry.State', 'SetLink' and 'Path'.
-/
import Derived.Test.YtegndanecnicaaaGreatWReg2
import Derived.Test.YtegndanecnicaaaGreatMSlB
import Derived.Test.YtegndanecnicaaaGreatMTA
set_option linter.unusedSimpArgs false
set_option linter.unusedVariables false
namespace Go.Proofs.YtegndanecnicaaaGreat
open Go.Sl Go
attribute [local irreducible] vc opsW opsD opV opW PureV ReadV Thn Blk
set_option maxRecDepth 8000 in
set_option maxHeartbeats 4000000 in
theorem rgState_spec {w0 w : World} {Γ : List HP} {pr : Addr} {vars : List Int} {st : List (List Int)} {lk : List Lnk} {i : Nat} (hvl : vars.length ≤ 64) (hi : i < st.length) (hn : st.length ≤ 65536) (hw : Sat w0 w (RegH pr vars st lk :: Γ)) :
    Calls Tryz.prog 65 #[.pointer (some pr), .int .i64 (i : Int)] w fun e w' => ∃ sv, e = .returned (.tuple #[sv, .nilIface]) ∧ Sat w0 w' (OS tInt 3 sv (st.getD i []) :: RegH pr vars st lk :: Γ) := by
  obtain ⟨pk, F, W, ev, mv, es, wsl, kv, bs, hI, hP, hw⟩ := Sat.regOpen hw
  have hel := hI.el
  have hwl := hI.wl
  refine calls_of_vc (args := [.pointer (some pr), .int .i64 (i : Int)]) mixed Tryz.func65 rfl (by kernel_rfl) (Nat.le_of_ble_eq_true rfl) ?_
  have hd : decide (0 ≤ (i : Int) ∧ (i : Int) < (es.length : Int)) = true := decide_eq_true (by omega)
  repeat (first | refine go_run ?_ | (refine go_newP ?_; clear hw; intro p w hw) | (refine go_newWr ?_; clear hw; intro w hw) | (refine go_newS ?_; clear hw; intro s w hw))
  refine st_call rfl (rgHas_spec (boxRO (p := pr) hw) (rsO (s := ev) hw)) ?_
  rintro _ w' ⟨rfl, hk'⟩
  replace hw := hw.call0 hk'
  clear hk'
  refine ⟨_, rfl, ?_⟩
  rw [hd]
  repeat (first | refine go_run ?_ | (refine go_newP ?_; clear hw; intro p w hw) | (refine go_newWr ?_; clear hw; intro w hw) | (refine go_newS ?_; clear hw; intro s w hw))
  refine vc_plan [.op 0, .op 1, .op 2, .op 3, .op 4, .op 5, .op 6, .op 7, .op 8, .op 9, .op 10, .op 11, .op 12, .op 13, .op 14, .op 15, .op 16] hw (by kernel_rfl) ?_; clear hw; intro w hw
  repeat (first | refine go_run ?_ | (refine go_newP ?_; clear hw; intro p w hw) | (refine go_newWr ?_; clear hw; intro w hw) | (refine go_newS ?_; clear hw; intro s w hw))
  have hEw : RS tU64 w (eget tREnt es i).words (wsl.getD i []) := (hw.rdE 3 rfl) i (by omega)
  refine st_call rfl (Unpack_spec (hw.rdE 1 rfl) hP hvl hEw (hI.pk i hi) (hI.ok i hi)) ?_
  rintro _ w' ⟨sv, rfl, hk'⟩
  replace hw := hw.call1 hk'
  clear hk'
  refine ⟨_, rfl, ?_⟩
  repeat (first | refine go_run ?_ | (refine go_newP ?_; clear hw; intro p w hw) | (refine go_newWr ?_; clear hw; intro w hw) | (refine go_newS ?_; clear hw; intro s w hw))
  have hw2 : Sat w0 w' (Box pr 157 [.pointer (some pk), ev, mv] :: RdH (fun w => RPk w pk F W) :: OS tREnt 171 ev es :: RdH (EntF es wsl) :: MapO kInt mv kv :: RowsAt tInt 3 (kv.map (·.2)) bs :: OS tInt 3 sv (st.getD i []) :: Γ) := hw.selG
  exact res_two (v := sv) (v' := .nilIface) rfl rfl rfl ⟨sv, rfl, (Sat.regClose hI hP hw2).swap⟩
theorem EntF.setl {es : List REnt} {wsl : List (List Nat)} {i : Nat} {a b c : Int} {w : World} (h : EntF es wsl w) : EntF (es.set i ⟨(eget tREnt es i).words, a, b, c⟩) wsl w := fun j hj => by
  by_cases e : j = i
  · subst e
    by_cases hl : j < es.length
    · rw [eget_eq, set_at hl, if_pos rfl]; exact h j hj
    · rw [List.set_eq_of_length_le (Nat.le_of_not_lt hl)]; exact h j hj
  · rw [eget_eq]
    have : (es.set i ⟨(eget tREnt es i).words, a, b, c⟩).getD j tREnt.dflt = es.getD j tREnt.dflt := by simp only [List.getD]; rw [List.getElem?_set_ne (Ne.symm e)]
    rw [this, ← eget_eq]; exact h j hj
set_option maxRecDepth 8000 in
set_option maxHeartbeats 4000000 in
theorem rgSetLink_spec {w0 w : World} {Γ : List HP} {pr : Addr} {vars : List Int} {st : List (List Int)} {lk : List Lnk} {i : Nat} {par op cost : Int} (hi : i < st.length) (hn : st.length ≤ 65536) (hp : par = -1 ∨ (0 ≤ par ∧ par < st.length)) (hw : Sat w0 w (RegH pr vars st lk :: Γ)) :
    Calls Tryz.prog 82 #[.pointer (some pr), .int .i64 (i : Int), .int .i64 par, .int .i64 op, .int .i64 cost] w fun e w' => e = .returned .nilIface ∧ Sat w0 w' (RegH pr vars st (lk.set i ⟨par, op, cost⟩) :: Γ) := by
  obtain ⟨pk, F, W, ev, mv, es, wsl, kv, bs, hI, hP, hw⟩ := Sat.regOpen hw
  have hel := hI.el
  have hwl := hI.wl
  refine calls_of_vc (args := [.pointer (some pr), .int .i64 (i : Int), .int .i64 par, .int .i64 op, .int .i64 cost]) mixed Tryz.func82 rfl (by kernel_rfl) (Nat.le_of_ble_eq_true rfl) ?_
  have hd : decide (0 ≤ (i : Int) ∧ (i : Int) < (es.length : Int)) = true := decide_eq_true (by omega)
  repeat (first | refine go_run ?_ | (refine go_newP ?_; clear hw; intro p w hw) | (refine go_newWr ?_; clear hw; intro w hw) | (refine go_newS ?_; clear hw; intro s w hw))
  refine st_call rfl (rgHas_spec (boxRO (p := pr) hw) (rsO (s := ev) hw)) ?_
  rintro _ w' ⟨rfl, hk'⟩
  replace hw := hw.call0 hk'
  clear hk'
  refine ⟨_, rfl, ?_⟩
  rw [hd]
  by_cases hp1 : par = -1
  · have hd1 : decide (par = -1) = true := decide_eq_true hp1
    repeat (first | refine go_run ?_ | (refine go_newP ?_; clear hw; intro p w hw) | (refine go_newWr ?_; clear hw; intro w hw) | (refine go_newS ?_; clear hw; intro s w hw))
    simp only [hd1, beq_self_eq_true, beq_tfI, beq_ftI, Bool.false_and, Bool.true_and, Bool.false_or, Bool.true_or, Bool.not_true, Bool.not_false, Bool.cond_true, Bool.cond_false, gv_fI, gv_tI]
    repeat (first | refine go_run ?_ | (refine go_newP ?_; clear hw; intro p w hw) | (refine go_newWr ?_; clear hw; intro w hw) | (refine go_newS ?_; clear hw; intro s w hw))
    refine st_elemSub (T := tREnt) (s := ev) (j := i) (k := 1) (vs := [.int .i64 par, .int .i64 op, .int .i64 cost]) (x' := ⟨(eget tREnt es i).words, par, op, cost⟩) rfl rfl rfl rfl hw inferInstance (by omega) (Nat.le_refl 4) (by rw [eget_eq]; rfl) ?_
    clear hw
    intro w hw
    repeat (first | refine go_run ?_ | (refine go_newP ?_; clear hw; intro p w hw) | (refine go_newWr ?_; clear hw; intro w hw) | (refine go_newS ?_; clear hw; intro s w hw))
    have hw2 : Sat w0 w (RdH (EntF es wsl) :: Box pr 157 [.pointer (some pk), ev, mv] :: RdH (fun w => RPk w pk F W) :: OS tREnt 171 ev (es.set i ⟨(eget tREnt es i).words, par, op, cost⟩) :: MapO kInt mv kv :: RowsAt tInt 3 (kv.map (·.2)) bs :: Γ) := hw.selG
    have hw3 := Sat.rd (Δ := [RdH (EntF es wsl)]) (φ := EntF (es.set i ⟨(eget tREnt es i).words, par, op, cost⟩) wsl) (fun _ w h => EntF.setl (h.rdE 0 rfl)) hw2
    have hw4 : Sat w0 w (Box pr 157 [.pointer (some pk), ev, mv] :: RdH (fun w => RPk w pk F W) :: OS tREnt 171 ev (es.set i ⟨(eget tREnt es i).words, par, op, cost⟩) :: RdH (EntF (es.set i ⟨(eget tREnt es i).words, par, op, cost⟩) wsl) :: MapO kInt mv kv :: RowsAt tInt 3 (kv.map (·.2)) bs :: Γ) := hw3.selG
    exact res_one (v := .nilIface) rfl rfl ⟨rfl, Sat.regClose (hI.setl hi ⟨par, op, cost⟩) hP hw4⟩
  · have hd1 : decide (par = -1) = false := decide_eq_false hp1
    have hd2 : decide (0 ≤ par ∧ par < (es.length : Int)) = true := decide_eq_true (by omega)
    repeat (first | refine go_run ?_ | (refine go_newP ?_; clear hw; intro p w hw) | (refine go_newWr ?_; clear hw; intro w hw) | (refine go_newS ?_; clear hw; intro s w hw))
    simp only [hd1, beq_self_eq_true, beq_tfI, beq_ftI, Bool.false_and, Bool.true_and, Bool.false_or, Bool.true_or, Bool.not_true, Bool.not_false, Bool.cond_true, Bool.cond_false, gv_fI, gv_tI]
    repeat (first | refine go_run ?_ | (refine go_newP ?_; clear hw; intro p w hw) | (refine go_newWr ?_; clear hw; intro w hw) | (refine go_newS ?_; clear hw; intro s w hw))
    refine st_call rfl (rgHas_spec (boxRO (p := pr) hw) (rsO (s := ev) hw)) ?_
    rintro _ w' ⟨rfl, hk'⟩
    replace hw := hw.call0 hk'
    clear hk'
    refine ⟨_, rfl, ?_⟩
    rw [hd2]
    repeat (first | refine go_run ?_ | (refine go_newP ?_; clear hw; intro p w hw) | (refine go_newWr ?_; clear hw; intro w hw) | (refine go_newS ?_; clear hw; intro s w hw))
    refine st_elemSub (T := tREnt) (s := ev) (j := i) (k := 1) (vs := [.int .i64 par, .int .i64 op, .int .i64 cost]) (x' := ⟨(eget tREnt es i).words, par, op, cost⟩) rfl rfl rfl rfl hw inferInstance (by omega) (Nat.le_refl 4) (by rw [eget_eq]; rfl) ?_
    clear hw
    intro w hw
    repeat (first | refine go_run ?_ | (refine go_newP ?_; clear hw; intro p w hw) | (refine go_newWr ?_; clear hw; intro w hw) | (refine go_newS ?_; clear hw; intro s w hw))
    have hw2 : Sat w0 w (RdH (EntF es wsl) :: Box pr 157 [.pointer (some pk), ev, mv] :: RdH (fun w => RPk w pk F W) :: OS tREnt 171 ev (es.set i ⟨(eget tREnt es i).words, par, op, cost⟩) :: MapO kInt mv kv :: RowsAt tInt 3 (kv.map (·.2)) bs :: Γ) := hw.selG
    have hw3 := Sat.rd (Δ := [RdH (EntF es wsl)]) (φ := EntF (es.set i ⟨(eget tREnt es i).words, par, op, cost⟩) wsl) (fun _ w h => EntF.setl (h.rdE 0 rfl)) hw2
    have hw4 : Sat w0 w (Box pr 157 [.pointer (some pk), ev, mv] :: RdH (fun w => RPk w pk F W) :: OS tREnt 171 ev (es.set i ⟨(eget tREnt es i).words, par, op, cost⟩) :: RdH (EntF (es.set i ⟨(eget tREnt es i).words, par, op, cost⟩) wsl) :: MapO kInt mv kv :: RowsAt tInt 3 (kv.map (·.2)) bs :: Γ) := hw3.selG
    exact res_one (v := .nilIface) rfl rfl ⟨rfl, Sat.regClose (hI.setl hi ⟨par, op, cost⟩) hP hw4⟩
end Go.Proofs.YtegndanecnicaaaGreat
