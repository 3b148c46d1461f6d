
/-
  Contracts of the methods 'Parts' and 'Value' of a partition.
-/
import Derived.Test.YtnoiagnmbipppaaWSatNew
set_option linter.unusedSimpArgs false
set_option linter.unusedVariables false
namespace Go.Proofs.Ytnoiagnmbipppaa
open Go.Sl Go
attribute [local irreducible] vc opsW opsD opV opW PureV ReadV Thn Blk
set_option maxRecDepth 8000 in
theorem Parts_nil {w0 : World} : Calls Try.prog 34 #[.pointer none] w0 fun e w' => e = .returned (.slice none 0 0) ∧ Sat w0 w' [] := by
  have hw := Sat.start w0
  refine calls_of_vc (args := [.pointer none]) mixed Try.func34 rfl (by kernel_rfl) (Nat.le_of_ble_eq_true rfl) ?_
  repeat (first | refine go_run ?_ | (refine go_newP ?_; clear hw; intro p w hw) | (refine go_newW ?_; clear hw; intro w hw) | (refine go_newS ?_; clear hw; intro s w hw))
  exact res_one (v := .slice none 0 0) rfl rfl ⟨rfl, hw⟩
set_option maxRecDepth 8000 in
theorem PValue_nil {w0 : World} {sv : Value} : Calls Try.prog 39 #[.pointer none, sv] w0 fun e w' => e = .returned (.int .i64 0) ∧ Sat w0 w' [] := by
  have hw := Sat.start w0
  refine calls_of_vc (args := [.pointer none, sv]) mixed Try.func39 rfl (by kernel_rfl) (Nat.le_of_ble_eq_true rfl) ?_
  repeat (first | refine go_run ?_ | (refine go_newP ?_; clear hw; intro p w hw) | (refine go_newW ?_; clear hw; intro w hw) | (refine go_newS ?_; clear hw; intro s w hw))
  exact res_one (v := .int .i64 0) rfl rfl ⟨rfl, hw⟩

set_option maxRecDepth 8000 in
set_option maxHeartbeats 2000000 in
theorem Parts_spec {w0 : World} {p : Addr} {t : TTask} {Ls Ds Ps : List (List Int)} (hr : RPt w0 p t Ls Ds Ps) (hl : Ps.length ≤ 32) (hm : ∀ i, i < Ps.length → (Ps.getD i []).length ≤ 1099511627776) :
    Calls Try.prog 34 #[.pointer (some p)] w0 fun e w' => ∃ s ss, e = .returned s ∧ Sat w0 w' [RowsAt tInt 3 ss Ps, OS tVal 22 s ss] := by
  obtain ⟨vv, dv, pv, qs, ps, h1, h2, h3, h4, h5, h6⟩ := hr
  have hpl := h6.1
  have hw := Sat.start w0
  refine calls_of_vc (args := [.pointer (some p)]) mixed Try.func34 rfl (by kernel_rfl) (Nat.le_of_ble_eq_true rfl) ?_
  repeat (first | refine go_run ?_ | (refine go_newP ?_; clear hw; intro p w hw) | (refine go_newW ?_; clear hw; intro w hw) | (refine go_newS ?_; clear hw; intro s w hw))
  have hw1 : Sat w0 w0 [RowsAt tInt 3 [] (Ps.take 0), OS tVal 22 (.slice none 0 0) []] := (hw.nil (T := tVal) (e := 22)).rows0
  clear hw
  refine vc_loop3 [3, 5, 13, 14, 15, 16, 17, 18, 19, 20, 21, 22] (G := Nat) (H := Value) (I := List Value) (fun k ov _ => [(13, .int .i64 k), (3, ov)]) (fun k ov os w => k ≤ Ps.length ∧ os.length = k ∧ Sat w0 w [RowsAt tInt 3 os (Ps.take k), OS tVal 22 ov os]) (fun k _ _ => Ps.length - k) 0 (.slice none 0 0) [] (fun _ _ _ => rfl) ⟨rfl, rfl, trivial⟩ ⟨Nat.zero_le _, rfl, hw1⟩ ?_
  clear hw1
  rintro σ k ov os w ⟨hk, hol, hw⟩
  repeat (first | refine go_run ?_ | (refine go_newP ?_; clear hw; intro p w hw) | (refine go_newW ?_; clear hw; intro w hw) | (refine go_newS ?_; clear hw; intro s w hw))
  refine go_if (fun h7 => ?_) (fun h7 => ?_)
  · have hkl : k < Ps.length := by omega
    have hrow := h6.2 k hkl
    have hmk := hm k hkl
    repeat (first | refine go_run ?_ | (refine go_newP ?_; clear hw; intro p w hw) | (refine go_newW ?_; clear hw; intro w hw) | (refine go_newS ?_; clear hw; intro s w hw))
    refine st_call rfl (Clone_spec (hrow.at hw) hmk) ?_
    rintro _ w' ⟨cv, rfl, hk'⟩
    replace hw := hw.call1 hk'
    clear hk'
    refine ⟨_, rfl, ?_⟩
    have c1 := (rsO (s := cv) hw).cells1
    have o1 := (rsO (s := cv) hw).one
    repeat (first | refine go_run ?_ | (refine go_newP ?_; clear hw; intro p w hw) | (refine go_newW ?_; clear hw; intro w hw) | (refine go_newSv ?_; clear hw; intro s w hw))
    refine st_buildSlice1 tVal (x1 := cv) rfl c1 rfl (Nat.le_of_ble_eq_true rfl) (Nat.zero_lt_succ _) hw ?_
    clear hw
    intro bs w hw
    refine st_append (s := ov) (s2 := bs) inferInstance rfl rfl (rsO hw) rfl rfl (fun x hx v hv => by rw [List.mem_singleton.1 hx] at hv; rw [List.mem_singleton.1 hv]; exact o1) (by simp only [List.length_cons, List.length_nil]; omega) (by unfold big; simp only [List.length_cons, List.length_nil]; omega) hw ?_
    clear hw
    intro ov2 w hw
    repeat (first | refine go_run ?_ | (refine go_newP ?_; clear hw; intro p w hw) | (refine go_newW ?_; clear hw; intro w hw) | (refine go_newS ?_; clear hw; intro s w hw))
    have hw2 : Sat w0 w [OS tInt 3 cv (Ps.getD k []), RowsAt tInt 3 os (Ps.take k), OS tVal 22 ov2 (os ++ [cv])] := hw.tail
    have hw3 := hw2.rowPush
    rw [← take_snoc [] hkl] at hw3
    exact ⟨k + 1, ov2, os ++ [cv], ⟨rfl, rfl, trivial⟩, by repeat (first | exact agree_refl | (apply agree_upd rfl) | (apply agree_mix rfl) | (apply agree_sets rfl)), ⟨by omega, by simp [hol], hw3⟩, by omega⟩
  · rw [List.take_of_length_le (by omega)] at hw
    repeat (first | refine go_run ?_ | (refine go_newP ?_; clear hw; intro p w hw) | (refine go_newW ?_; clear hw; intro w hw) | (refine go_newS ?_; clear hw; intro s w hw))
    exact res_one (v := ov) rfl rfl ⟨ov, os, rfl, hw⟩

set_option maxRecDepth 8000 in
set_option maxHeartbeats 2000000 in
theorem PValue_spec {w0 : World} {p : Addr} {t : TTask} {Ls Ds Ps : List (List Int)} {c : List Int} {sv : Value} {s : List Int} (hr : RPt w0 p t Ls Ds Ps) (hR : Run t Ls c Ds Ps) (hl : Ls.length ≤ 32) (hp : ∀ i, i < Ls.length → pErr t (Ls.getD i []) = 0) (hs : RS tInt w0 sv s) :
    Calls Try.prog 39 #[.pointer (some p), sv] w0 fun e w' => e = .returned (.int .i64 (valPt t Ls Ds s)) ∧ Sat w0 w' [] := by
  obtain ⟨vv, dv, pv, qs, ps, h1, h2, h3, h4, h5, h6⟩ := hr
  have hql := h4.1
  have hdl := hR.dl
  have hw := Sat.start w0
  refine calls_of_vc (args := [.pointer (some p), sv]) mixed Try.func39 rfl (by kernel_rfl) (Nat.le_of_ble_eq_true rfl) ?_
  repeat (first | refine go_run ?_ | (refine go_newP ?_; clear hw; intro p w hw) | (refine go_newW ?_; clear hw; intro w hw) | (refine go_newS ?_; clear hw; intro s w hw))
  refine st_call rfl (tProper_spec h2 (hs.at hw)) ?_
  rintro _ w' ⟨⟨r, rfl, hr⟩, hk'⟩
  replace hw := hw.call0 hk'
  clear hk'
  refine ⟨_, rfl, ?_⟩
  cases r
  · rw [valPt_no (fun h => by have := hr.2 h; cases this)]
    repeat (first | refine go_run ?_ | (refine go_newP ?_; clear hw; intro p w hw) | (refine go_newW ?_; clear hw; intro w hw) | (refine go_newS ?_; clear hw; intro s w hw))
    exact res_one (v := .int .i64 1125899906842624) rfl rfl ⟨rfl, hw⟩
  have hok := hr.1 rfl
  have hvr : ∀ k, k < Ls.length → 0 ≤ valK t Ls Ds s k ∧ valK t Ls Ds s k ≤ 1125899906842624 := fun k hk => dist_at (pErr_zero (hp k hk)).2.1 (hR.dist k hk) hok
  repeat (first | refine go_run ?_ | (refine go_newP ?_; clear hw; intro p w hw) | (refine go_newW ?_; clear hw; intro w hw) | (refine go_newS ?_; clear hw; intro s w hw))
  refine vc_loop [4, 5, 7, 8, 23, 24, 25, 26, 27, 28, 29, 30, 31, 32, 33, 34, 35] (G := Nat) (fun k => [(23, .int .i64 k), (5, .int .i64 (sumV (valK t Ls Ds s) k))]) (fun k w => k ≤ Ls.length ∧ (∀ i, i < k → valK t Ls Ds s i ≠ 1125899906842624) ∧ Sat w0 w []) (fun k => Ls.length - k) 0 (fun _ => rfl) ⟨rfl, rfl, trivial⟩ ⟨Nat.zero_le _, fun i hi => absurd hi (Nat.not_lt_zero _), hw⟩ ?_
  clear hw
  rintro σ k w ⟨hk, hne, hw⟩
  repeat (first | refine go_run ?_ | (refine go_newP ?_; clear hw; intro p w hw) | (refine go_newW ?_; clear hw; intro w hw) | (refine go_newS ?_; clear hw; intro s w hw))
  refine go_if (fun h7 => ?_) (fun h7 => ?_)
  · have hkl : k < Ls.length := by omega
    obtain ⟨q, hq, hdb⟩ := h4.2 k (by omega)
    have hdo := dbI_ok (hp k hkl) (hR.dist k hkl)
    have hval : valD (dbI t (Ls.getD k []) (Ds.getD k [])) s = valK t Ls Ds s k := valD_ok hok
    have hvk := hvr k hkl
    have hsb := sumV_bd (n := k) (f := valK t Ls Ds s) (B := 1125899906842624) fun i hi => hvr i (by omega)
    have hss := sumV_succ (valK t Ls Ds s) k
    repeat (first | refine go_run ?_ | (refine go_newP ?_; clear hw; intro p w hw) | (refine go_newWr ?_; clear hw; intro w hw) | (refine go_newS ?_; clear hw; intro s w hw))
    rw [hq]
    refine st_call rfl (Value_spec (hdb.at hw) hdo (hs.at hw)) ?_
    rintro _ w' ⟨rfl, hk'⟩
    replace hw := hw.call0 hk'
    clear hk'
    rw [hval]
    refine ⟨_, rfl, ?_⟩
    repeat (first | refine go_run ?_ | (refine go_newP ?_; clear hw; intro p w hw) | (refine go_newW ?_; clear hw; intro w hw) | (refine go_newS ?_; clear hw; intro s w hw))
    refine go_if (fun h8 => ?_) (fun h8 => ?_)
    · rw [valPt_inf hok hkl h8]
      repeat (first | refine go_run ?_ | (refine go_newP ?_; clear hw; intro p w hw) | (refine go_newW ?_; clear hw; intro w hw) | (refine go_newS ?_; clear hw; intro s w hw))
      exact res_one (v := .int .i64 1125899906842624) rfl rfl ⟨rfl, hw⟩
    · repeat (first | refine go_run ?_ | (refine go_newP ?_; clear hw; intro p w hw) | (refine go_newW ?_; clear hw; intro w hw) | (refine go_newS ?_; clear hw; intro s w hw))
      refine ⟨k + 1, ⟨rfl, by rw [hss]; rfl, trivial⟩, by repeat (first | exact agree_refl | (apply agree_upd rfl) | (apply agree_mix rfl) | (apply agree_sets rfl)), ⟨by omega, fun i hi => ?_, hw⟩, by omega⟩
      by_cases e : i = k
      · subst e; exact h8
      · exact hne i (by omega)
  · have hke : k = Ls.length := by omega
    subst hke
    rw [valPt_sum hok hne]
    repeat (first | refine go_run ?_ | (refine go_newP ?_; clear hw; intro p w hw) | (refine go_newW ?_; clear hw; intro w hw) | (refine go_newS ?_; clear hw; intro s w hw))
    exact res_one (v := .int .i64 (sumV (valK t Ls Ds s) Ls.length)) rfl rfl ⟨rfl, hw⟩
end Go.Proofs.Ytnoiagnmbipppaa
