
/-
  The statement 'EstimateTable' returns true.
-/
import Derived.Test.YtoddgmmkpiojlaaWLawEB
set_option linter.unusedSimpArgs false
set_option linter.unusedVariables false
namespace Go.Proofs.Ytoddgmmkpiojlaa
open Go.Sl Go
attribute [local irreducible] vc opsW opsD opV opW PureV ReadV Thn Blk
open Classical in
noncomputable def badK (T : List Int) (k : Nat) : Int := if ∃ i, i < k ∧ (T.getD i tInt.dflt < 0 ∨ inf < T.getD i tInt.dflt) then 1 else 0
theorem badK_zero (T : List Int) : badK T 0 = 0 := if_neg fun ⟨_, h, _⟩ => absurd h (Nat.not_lt_zero _)
theorem badK_bad {T : List Int} {k : Nat} (h : T.getD k tInt.dflt < 0 ∨ inf < T.getD k tInt.dflt) : badK T (k + 1) = 1 := if_pos ⟨k, Nat.lt_succ_self _, h⟩
theorem badK_ok {T : List Int} {k : Nat} (h : ¬ (T.getD k tInt.dflt < 0 ∨ inf < T.getD k tInt.dflt)) : badK T (k + 1) = badK T k := by
  unfold badK
  by_cases h2 : ∃ i, i < k ∧ (T.getD i tInt.dflt < 0 ∨ inf < T.getD i tInt.dflt)
  · obtain ⟨i, h3, h4⟩ := h2
    rw [if_pos ⟨i, by omega, h4⟩, if_pos ⟨i, h3, h4⟩]
  · rw [if_neg h2, if_neg]
    rintro ⟨i, h3, h4⟩
    by_cases e : i = k
    · rw [e] at h4; exact h h4
    · exact h2 ⟨i, by omega, h4⟩
theorem badK_end {t : TTask} {T : List Int} (h : prodL t.vars = T.length) : tErr t T = badK T T.length := by
  unfold tErr badK
  rw [if_neg (fun hh => hh h)]
  by_cases h2 : ∃ x ∈ T, x < 0 ∨ inf < x
  · obtain ⟨x, hx, h3⟩ := h2
    rw [if_pos ⟨x, hx, h3⟩]
    obtain ⟨i, hi, rfl⟩ := List.getElem_of_mem hx
    rw [if_pos ⟨i, hi, by rw [getD_at hi]; exact h3⟩]
  · rw [if_neg h2, if_neg]
    rintro ⟨i, hi, h3⟩
    exact h2 ⟨_, mem_getD tInt.dflt hi, h3⟩
set_option maxRecDepth 8000 in
set_option maxHeartbeats 8000000 in
theorem EstimateTable_walk {w0 : World} {a b c d lv : Value} {vs : List OpV} {t : TTask} {T : List Int} (ht : RTask w0 a b c d vs t) (hl : RS tInt w0 lv T) :
    Calls Try.prog 4 #[.agg #[a, b, c, d], lv] w0 fun e w' => e = .returned (.bool true) ∧ Sat w0 w' [] := by
  have hlb := hl.big
  have hw := Sat.start w0
  refine calls_of_vc (args := [.agg #[a, b, c, d], lv]) mixed Try.func4 rfl (by kernel_rfl) (Nat.le_of_ble_eq_true rfl) ?_
  repeat (first | refine go_run ?_ | (refine go_newP ?_; clear hw; intro p w hw) | (refine go_newWr ?_; clear hw; intro w hw) | (refine go_newS ?_; clear hw; intro s w hw))
  obtain ⟨pt, hpt⟩ : ∃ pt, pt = p := ⟨p, rfl⟩
  subst hpt
  refine st_call rfl (Small_spec (ht.at hw)) ?_
  rintro _ w' ⟨⟨r, rfl, hr⟩, hk'⟩
  replace hw := hw.call0 hk'
  clear hk'
  refine ⟨_, rfl, ?_⟩
  cases r
  · repeat (first | refine go_run ?_ | (refine go_newP ?_; clear hw; intro p w hw) | (refine go_newWr ?_; clear hw; intro w hw) | (refine go_newS ?_; clear hw; intro s w hw))
    refine st_call rfl awake47_spec ?_
    rintro _ w' ⟨rfl, hk'⟩
    replace hw := hw.call0 hk'
    clear hk'
    refine ⟨_, rfl, ?_⟩
    repeat (first | refine go_run ?_ | (refine go_newP ?_; clear hw; intro p w hw) | (refine go_newWr ?_; clear hw; intro w hw) | (refine go_newS ?_; clear hw; intro s w hw))
    exact res_one (v := .bool true) rfl rfl ⟨rfl, sat_none hw⟩
  have hs := hr.1 rfl
  have hg := hs.good
  have hB := hs.many
  have hvl := hg.vars
  have hsl : (statesL t.vars).length = (prodL t.vars).toNat := statesL_len hg.pos
  have hpp := prodL_pos hg.pos
  by_cases h600 : (600 : Int) < (T.length : Int)
  · have hd : decide ((600 : Int) < (T.length : Int)) = true := decide_eq_true h600
    repeat (first | refine go_run ?_ | (refine go_newP ?_; clear hw; intro p w hw) | (refine go_newWr ?_; clear hw; intro w hw) | (refine go_newS ?_; clear hw; intro s w hw))
    simp only [hd, beq_self_eq_true, beq_tfI, beq_ftI, Bool.false_and, Bool.true_and, Bool.false_or, Bool.true_or, Bool.not_true, Bool.not_false, Bool.cond_true, Bool.cond_false, gv_fI, gv_tI]
    repeat (first | refine go_run ?_ | (refine go_newP ?_; clear hw; intro p w hw) | (refine go_newWr ?_; clear hw; intro w hw) | (refine go_newS ?_; clear hw; intro s w hw))
    refine st_call rfl awake47_spec ?_
    rintro _ w' ⟨rfl, hk'⟩
    replace hw := hw.call0 hk'
    clear hk'
    refine ⟨_, rfl, ?_⟩
    repeat (first | refine go_run ?_ | (refine go_newP ?_; clear hw; intro p w hw) | (refine go_newWr ?_; clear hw; intro w hw) | (refine go_newS ?_; clear hw; intro s w hw))
    exact res_one (v := .bool true) rfl rfl ⟨rfl, sat_none hw⟩
  have hd : decide ((600 : Int) < (T.length : Int)) = false := decide_eq_false h600
  repeat (first | refine go_run ?_ | (refine go_newP ?_; clear hw; intro p w hw) | (refine go_newWr ?_; clear hw; intro w hw) | (refine go_newS ?_; clear hw; intro s w hw))
  simp only [hd, beq_self_eq_true, beq_tfI, beq_ftI, Bool.false_and, Bool.true_and, Bool.false_or, Bool.true_or, Bool.not_true, Bool.not_false, Bool.cond_true, Bool.cond_false, gv_fI, gv_tI]
  repeat (first | refine go_run ?_ | (refine go_newP ?_; clear hw; intro p w hw) | (refine go_newWr ?_; clear hw; intro w hw) | (refine go_newS ?_; clear hw; intro s w hw))
  refine st_call rfl awake47_spec ?_
  rintro _ w' ⟨rfl, hk'⟩
  replace hw := hw.call0 hk'
  clear hk'
  refine ⟨_, rfl, ?_⟩
  obtain ⟨n, hn⟩ : ∃ n : Nat, prodL t.vars = (n : Int) := ⟨(prodL t.vars).toNat, by omega⟩
  have hmany : manyL t.vars 512 = (n : Int) := by rw [manyL, if_pos (by omega), hn]
  repeat (first | refine go_run ?_ | (refine go_newP ?_; clear hw; intro p w hw) | (refine go_newWr ?_; clear hw; intro w hw) | (refine go_newS ?_; clear hw; intro s w hw))
  refine st_call rfl (eTable_spec (ht.at hw) hg (hl.at hw) (by omega)) ?_
  rintro e w' hres
  obtain ⟨E, hE⟩ : ∃ E, E = tErr t T := ⟨_, rfl⟩
  rw [← hE] at hres
  obtain ⟨po, rfl, hpo, hsat⟩ : ∃ po, e = Ending.returned (.tuple #[.pointer po, errV E]) ∧ (po.isNone = true ↔ E ≠ 0) ∧ Sat w0 w' [RdH (fun w => ∀ p, po = some p → REst w p t (tabH t T)), Box pt 26 [a, b, c, d]] := by
    rcases hres with ⟨h1, h2, h3⟩ | ⟨h1, p, h2, h3⟩
    · exact ⟨none, h2, ⟨fun _ => h1, fun _ => rfl⟩, Sat.rd0 (fun w p hp => by cases hp) (hw.call0 h3)⟩
    · refine ⟨some p, by rw [h2, errV_zero h1], ⟨fun h => by (cases h), fun h => absurd h1 h⟩, ?_⟩
      have h4 : Sat w0 w' [RdH fun w => REst w p t (tabH t T), Box pt 26 [a, b, c, d]] := hw.call1 h3
      exact Sat.rd (Δ := [RdH fun w => REst w p t (tabH t T)]) (φ := fun w => ∀ q, some p = some q → REst w q t (tabH t T)) (fun _ w h q hq => by obtain rfl := Option.some.inj hq; exact h.rdE 0 rfl) h4
  clear hw hres
  have hw := hsat
  clear hsat
  refine ⟨_, rfl, ?_⟩
  repeat (first | refine go_run ?_ | (refine go_newP ?_; clear hw; intro p w hw) | (refine go_newWr ?_; clear hw; intro w hw) | (refine go_newS ?_; clear hw; intro s w hw))
  refine st_call rfl (Many_spec (ht.vars.at hw) hg.pos (by decide) (by decide)) ?_
  rintro _ w' ⟨rfl, hk'⟩
  replace hw := hw.call0 hk'
  clear hk'
  refine ⟨_, rfl, ?_⟩
  rw [hmany]
  repeat (first | refine go_runC ?_ | (refine go_newP ?_; clear hw; intro p w hw) | (refine go_newW ?_; clear hw; intro w hw) | (refine go_newS ?_; clear hw; intro s w hw))
  refine vc_cut [7, 9, 37, 38, 39, 40, 41, 42, 43, 44, 45, 46, 47, 48, 49] (G := Unit) (fun _ => [(7, .int .i64 E)]) (fun _ w => Sat w0 w [RdH (fun w => ∀ p, po = some p → REst w p t (tabH t T)), Box pt 26 [a, b, c, d]]) (fun _ => rfl) ?_ ?_
  · by_cases heq : prodL t.vars = T.length
    rotate_left
    · have hE11 : E = 11 := by rw [hE]; unfold tErr; rw [if_pos heq]
      have hd1 : decide ((T.length : Int) = (n : Int)) = false := decide_eq_false (by omega)
      simp only [hd1, beq_self_eq_true, beq_tfI, beq_ftI, Bool.false_and, Bool.true_and, Bool.false_or, Bool.true_or, Bool.not_true, Bool.not_false, Bool.cond_true, Bool.cond_false, gv_fI, gv_tI]
      repeat (first | refine go_run ?_ | (refine go_newP ?_; clear hw; intro p w hw) | (refine go_newW ?_; clear hw; intro w hw) | (refine go_newS ?_; clear hw; intro s w hw))
      exact ⟨(), ⟨by rw [hE11]; rfl, trivial⟩, by repeat (first | exact agree_refl | (apply agree_upd rfl) | (apply agree_mix rfl) | (apply agree_sets rfl)), hw⟩
    have hEb : E = badK T T.length := by rw [hE]; exact badK_end heq
    have hd1 : decide ((T.length : Int) = (n : Int)) = true := decide_eq_true (by omega)
    have e3 : inf = 1125899906842624 := rfl
    simp only [hd1, beq_self_eq_true, beq_tfI, beq_ftI, Bool.false_and, Bool.true_and, Bool.false_or, Bool.true_or, Bool.not_true, Bool.not_false, Bool.cond_true, Bool.cond_false, gv_fI, gv_tI]
    repeat (first | refine go_run ?_ | (refine go_newP ?_; clear hw; intro p w hw) | (refine go_newWr ?_; clear hw; intro w hw) | (refine go_newS ?_; clear hw; intro s w hw))
    refine vc_loop2 [7, 9, 39, 40, 41, 42, 43, 44, 45, 46, 47, 48, 49] (G := Nat) (H := Unit) (fun k _ => [(39, .int .i64 k), (7, .int .i64 (badK T k))]) (fun k _ w => k ≤ T.length ∧ Sat w0 w [RdH (fun w => ∀ p, po = some p → REst w p t (tabH t T)), Box pt 26 [a, b, c, d]]) (fun k _ => T.length - k) 0 () (fun _ _ => rfl) ⟨rfl, by rw [badK_zero]; rfl, trivial⟩ ⟨Nat.zero_le _, hw⟩ ?_
    clear hw
    rintro σ k _ w ⟨hk, hw⟩
    repeat (first | refine go_run ?_ | (refine go_newP ?_; clear hw; intro p w hw) | (refine go_newW ?_; clear hw; intro w hw) | (refine go_newS ?_; clear hw; intro s w hw))
    refine go_if (fun h1 => ?_) (fun h1 => ?_)
    · have hkl : k < T.length := by omega
      by_cases h2 : T.getD k tInt.dflt < 0
      · have hd2 : decide (T.getD k tInt.dflt < 0) = true := decide_eq_true h2
        have hb := badK_bad (T := T) (k := k) (.inl h2)
        repeat (first | refine go_run ?_ | (refine go_newP ?_; clear hw; intro p w hw) | (refine go_newWr ?_; clear hw; intro w hw) | (refine go_newS ?_; clear hw; intro s w hw))
        simp only [hd2, beq_self_eq_true, beq_tfI, beq_ftI, Bool.false_and, Bool.true_and, Bool.false_or, Bool.true_or, Bool.not_true, Bool.not_false, Bool.cond_true, Bool.cond_false, gv_fI, gv_tI]
        repeat (first | refine go_run ?_ | (refine go_newP ?_; clear hw; intro p w hw) | (refine go_newW ?_; clear hw; intro w hw) | (refine go_newS ?_; clear hw; intro s w hw))
        exact ⟨k + 1, (), ⟨rfl, by rw [hb]; rfl, trivial⟩, by repeat (first | exact agree_refl | (apply agree_upd rfl) | (apply agree_mix rfl) | (apply agree_sets rfl)), ⟨by omega, hw⟩, by omega⟩
      · have hd2 : decide (T.getD k tInt.dflt < 0) = false := decide_eq_false h2
        by_cases h3 : (1125899906842624 : Int) < T.getD k tInt.dflt
        · have hd3 : decide ((1125899906842624 : Int) < T.getD k tInt.dflt) = true := decide_eq_true h3
          have hb := badK_bad (T := T) (k := k) (.inr h3)
          repeat (first | refine go_run ?_ | (refine go_newP ?_; clear hw; intro p w hw) | (refine go_newWr ?_; clear hw; intro w hw) | (refine go_newS ?_; clear hw; intro s w hw))
          simp only [hd2, hd3, beq_self_eq_true, beq_tfI, beq_ftI, Bool.false_and, Bool.true_and, Bool.false_or, Bool.true_or, Bool.not_true, Bool.not_false, Bool.cond_true, Bool.cond_false, gv_fI, gv_tI]
          repeat (first | refine go_run ?_ | (refine go_newP ?_; clear hw; intro p w hw) | (refine go_newW ?_; clear hw; intro w hw) | (refine go_newS ?_; clear hw; intro s w hw))
          exact ⟨k + 1, (), ⟨rfl, by rw [hb]; rfl, trivial⟩, by repeat (first | exact agree_refl | (apply agree_upd rfl) | (apply agree_mix rfl) | (apply agree_sets rfl)), ⟨by omega, hw⟩, by omega⟩
        · have hd3 : decide ((1125899906842624 : Int) < T.getD k tInt.dflt) = false := decide_eq_false h3
          have hb := badK_ok (T := T) (k := k) (fun hh => hh.elim h2 h3)
          repeat (first | refine go_run ?_ | (refine go_newP ?_; clear hw; intro p w hw) | (refine go_newWr ?_; clear hw; intro w hw) | (refine go_newS ?_; clear hw; intro s w hw))
          simp only [hd2, hd3, beq_self_eq_true, beq_tfI, beq_ftI, Bool.false_and, Bool.true_and, Bool.false_or, Bool.true_or, Bool.not_true, Bool.not_false, Bool.cond_true, Bool.cond_false, gv_fI, gv_tI]
          repeat (first | refine go_run ?_ | (refine go_newP ?_; clear hw; intro p w hw) | (refine go_newW ?_; clear hw; intro w hw) | (refine go_newS ?_; clear hw; intro s w hw))
          exact ⟨k + 1, (), ⟨rfl, by rw [hb]; rfl, trivial⟩, by repeat (first | exact agree_refl | (apply agree_upd rfl) | (apply agree_mix rfl) | (apply agree_sets rfl)), ⟨by omega, hw⟩, by omega⟩
    have hke : k = T.length := by omega
    subst hke
    repeat (first | refine go_run ?_ | (refine go_newP ?_; clear hw; intro p w hw) | (refine go_newW ?_; clear hw; intro w hw) | (refine go_newS ?_; clear hw; intro s w hw))
    exact ⟨(), ⟨by rw [hEb]; rfl, trivial⟩, by repeat (first | exact agree_refl | (apply agree_upd rfl) | (apply agree_mix rfl) | (apply agree_sets rfl)), hw⟩
  clear hw
  rintro σ0 _ w hw
  repeat (first | refine go_run ?_ | (refine go_newP ?_; clear hw; intro p w hw) | (refine go_newWr ?_; clear hw; intro w hw) | (refine go_newS ?_; clear hw; intro s w hw))
  refine st_call rfl (Num_spec E) ?_
  rintro _ w' ⟨rfl, hk'⟩
  replace hw := hw.call0 hk'
  clear hk'
  refine ⟨_, rfl, ?_⟩
  have hd1 : decide (E = E) = true := decide_eq_true rfl
  by_cases hE0 : E = 0
  rotate_left
  · have hpn : po = none := by
      cases hp : po with
      | none => rfl
      | some q => have := hpo.2 hE0; rw [hp] at this; cases this
    have hd2 : decide (E = 0) = false := decide_eq_false hE0
    rw [hpn] at hw ⊢
    repeat (first | refine go_run ?_ | (refine go_newP ?_; clear hw; intro p w hw) | (refine go_newWr ?_; clear hw; intro w hw) | (refine go_newS ?_; clear hw; intro s w hw))
    simp only [hd1, hd2, dTrueE, beq_self_eq_true, beq_tfI, beq_ftI, Bool.false_and, Bool.true_and, Bool.false_or, Bool.true_or, Bool.not_true, Bool.not_false, Bool.cond_true, Bool.cond_false, gv_fI, gv_tI]
    repeat (first | refine go_run ?_ | (refine go_newP ?_; clear hw; intro p w hw) | (refine go_newWr ?_; clear hw; intro w hw) | (refine go_newS ?_; clear hw; intro s w hw))
    simp only [hd1, hd2, dTrueE, beq_self_eq_true, beq_tfI, beq_ftI, Bool.false_and, Bool.true_and, Bool.false_or, Bool.true_or, Bool.not_true, Bool.not_false, Bool.cond_true, Bool.cond_false, gv_fI, gv_tI]
    repeat (first | refine go_run ?_ | (refine go_newP ?_; clear hw; intro p w hw) | (refine go_newWr ?_; clear hw; intro w hw) | (refine go_newS ?_; clear hw; intro s w hw))
    exact res_one (v := .bool true) rfl rfl ⟨rfl, sat_none hw⟩
  obtain ⟨pe, hpe⟩ : ∃ pe, po = some pe := by
    cases hp : po with
    | none => exact absurd hE0 (hpo.1 (by rw [hp]; rfl))
    | some q => exact ⟨q, rfl⟩
  subst hpe
  have heq : prodL t.vars = T.length := Classical.byContradiction fun hne => by
    rw [hE] at hE0; unfold tErr at hE0; rw [if_pos hne] at hE0; cases hE0
  have hT : ∀ x ∈ T, 0 ≤ x ∧ x ≤ inf := fun x hx => by
    rw [hE] at hE0; unfold tErr at hE0
    rw [if_neg (fun h => h heq)] at hE0
    by_cases h2 : ∃ x ∈ T, x < 0 ∨ inf < x
    · rw [if_pos h2] at hE0; cases hE0
    · exact ⟨Int.not_lt.1 fun h => h2 ⟨x, hx, .inl h⟩, Int.not_lt.1 fun h => h2 ⟨x, hx, .inr h⟩⟩
  have hTl : T.length = (statesL t.vars).length := by omega
  have hw1 : Sat w0 w' [RdH fun w => REst w pe t (tabH t T), Box pt 26 [a, b, c, d]] :=
    Sat.rd (Δ := [RdH fun w => ∀ p, some pe = some p → REst w p t (tabH t T)]) (φ := fun w => REst w pe t (tabH t T)) (fun _ w h => (h.rdE 0 rfl) pe rfl) hw
  clear hw
  have hw := hw1
  clear hw1
  rw [hE0]
  repeat (first | refine go_run ?_ | (refine go_newP ?_; clear hw; intro p w hw) | (refine go_newWr ?_; clear hw; intro w hw) | (refine go_newS ?_; clear hw; intro s w hw))
  refine st_call rfl (States_spec (ht.vars.at hw) hg.pos (by omega) (by omega)) ?_
  rintro _ w' ⟨sv, ss, rfl, hk'⟩
  replace hw := hw.call2 hk'
  clear hk'
  refine ⟨_, rfl, ?_⟩
  have hssl := hw.rowsLen
  have hinit := ht.init
  have oinit := ht.init.one
  repeat (first | refine go_run ?_ | (refine go_newP ?_; clear hw; intro p w hw) | (refine go_newWr ?_; clear hw; intro w hw) | (refine go_newS ?_; clear hw; intro s w hw))
  have hw1 : Sat w0 w' [RowsAt tInt 3 ss (statesL t.vars), OS tVal 22 sv ss, RdH fun w => REst w pe t (tabH t T), Box pt 26 [a, b, c, d]] := hw
  clear hw
  have hw := hw1
  clear hw1
  refine vc_loop [4, 10, 11, 67, 68, 69, 70, 71, 72, 73, 74, 75, 76, 77, 78, 79, 80, 81, 82, 83, 84, 85, 86, 87, 88, 89, 90, 91] (G := Nat) (fun i => [(67, .int .i64 i)]) (fun i w => i ≤ (statesL t.vars).length ∧ Sat w0 w [RowsAt tInt 3 ss (statesL t.vars), OS tVal 22 sv ss, RdH fun w => REst w pe t (tabH t T), Box pt 26 [a, b, c, d]]) (fun i => (statesL t.vars).length - i) 0 (fun _ => rfl) ⟨rfl, trivial⟩ ⟨Nat.zero_le _, hw⟩ ?_
  clear hw
  rintro σ1 i w ⟨hi, hw⟩
  repeat (first | refine go_run ?_ | (refine go_newP ?_; clear hw; intro p w hw) | (refine go_newW ?_; clear hw; intro w hw) | (refine go_newS ?_; clear hw; intro s w hw))
  refine go_if (fun h2 => ?_) (fun h2 => ?_)
  · have hil : i < (statesL t.vars).length := by omega
    obtain ⟨hok, hrk⟩ := statesL_at hg.pos hil
    obtain ⟨x, hx⟩ : ∃ x : List Int, x = (statesL t.vars).getD i [] := ⟨_, rfl⟩
    rw [← hx] at hok hrk
    have hev : estV t (tabH t T) x = T.getD i tInt.dflt := by
      unfold estV; rw [if_pos hok, tabH_ok hok, hrk, Int.toNat_natCast]
    have hrow : ∀ w, Sat w0 w [RowsAt tInt 3 ss (statesL t.vars), OS tVal 22 sv ss, RdH fun w => REst w pe t (tabH t T), Box pt 26 [a, b, c, d]] → RS tInt w (vget ss i) x := fun w h => by rw [hx]; exact h.row hil
    have hTl2 : i < T.length := by omega
    have hd2 : decide (T.getD i tInt.dflt = T.getD i tInt.dflt) = true := decide_eq_true rfl
    have hdd : decide (T.getD i tInt.dflt = inf) = decide (T.getD i tInt.dflt = (1125899906842624 : Int)) := rfl
    repeat (first | refine go_run ?_ | (refine go_newP ?_; clear hw; intro p w hw) | (refine go_newWr ?_; clear hw; intro w hw) | (refine go_newS ?_; clear hw; intro s w hw))
    refine vc_plan [.op 0, .op 1, .op 3, .op 4, .op 5, .op 6, .op 2, .chk 6, .op 7, .op 8, .op 9, .op 10, .op 12, .op 13, .op 14, .op 15, .op 16, .op 11, .chk 15, .op 17, .op 18] hw (by kernel_rfl) ?_; clear hw; intro w hw
    repeat (first | refine go_run ?_ | (refine go_newP ?_; clear hw; intro p w hw) | (refine go_newWr ?_; clear hw; intro w hw) | (refine go_newS ?_; clear hw; intro s w hw))
    refine st_call rfl (eValue_spec (hw.rdE 2 rfl) (hrow _ hw)) ?_
    rintro _ w' ⟨rfl, hk'⟩
    replace hw := hw.call0 hk'
    clear hk'
    refine ⟨_, rfl, ?_⟩
    rw [hev]
    repeat (first | refine go_run ?_ | (refine go_newP ?_; clear hw; intro p w hw) | (refine go_newWr ?_; clear hw; intro w hw) | (refine go_newS ?_; clear hw; intro s w hw))
    simp only [hd2, dTrueE, beq_self_eq_true, beq_tfI, beq_ftI, Bool.false_and, Bool.true_and, Bool.false_or, Bool.true_or, Bool.not_true, Bool.not_false, Bool.cond_true, Bool.cond_false, gv_fI, gv_tI]
    repeat (first | refine go_run ?_ | (refine go_newP ?_; clear hw; intro p w hw) | (refine go_newWr ?_; clear hw; intro w hw) | (refine go_newS ?_; clear hw; intro s w hw))
    refine st_call rfl (eDead_spec (hw.rdE 2 rfl) (hrow _ hw)) ?_
    rintro _ w' ⟨rfl, hk'⟩
    replace hw := hw.call0 hk'
    clear hk'
    refine ⟨_, rfl, ?_⟩
    rw [hev, hdd]
    by_cases hq : T.getD i tInt.dflt = (1125899906842624 : Int)
    · have hdq := decide_eq_true hq
      simp only [hdq]
      repeat (first | refine go_run ?_ | (refine go_newP ?_; clear hw; intro p w hw) | (refine go_newWr ?_; clear hw; intro w hw) | (refine go_newS ?_; clear hw; intro s w hw))
      simp only [hdq, bne_self_eq_false, dTrueE, beq_self_eq_true, beq_tfI, beq_ftI, Bool.false_and, Bool.true_and, Bool.false_or, Bool.true_or, Bool.not_true, Bool.not_false, Bool.cond_true, Bool.cond_false, gv_fI, gv_tI]
      repeat (first | refine go_run ?_ | (refine go_newP ?_; clear hw; intro p w hw) | (refine go_newWr ?_; clear hw; intro w hw) | (refine go_newS ?_; clear hw; intro s w hw))
      exact ⟨i + 1, ⟨rfl, trivial⟩, by repeat (first | exact agree_refl | (apply agree_upd rfl) | (apply agree_mix rfl) | (apply agree_sets rfl)), ⟨by omega, hw⟩, by omega⟩
    · have hdq := decide_eq_false hq
      simp only [hdq]
      repeat (first | refine go_run ?_ | (refine go_newP ?_; clear hw; intro p w hw) | (refine go_newWr ?_; clear hw; intro w hw) | (refine go_newS ?_; clear hw; intro s w hw))
      simp only [hdq, bne_self_eq_false, dTrueE, beq_self_eq_true, beq_tfI, beq_ftI, Bool.false_and, Bool.true_and, Bool.false_or, Bool.true_or, Bool.not_true, Bool.not_false, Bool.cond_true, Bool.cond_false, gv_fI, gv_tI]
      repeat (first | refine go_run ?_ | (refine go_newP ?_; clear hw; intro p w hw) | (refine go_newWr ?_; clear hw; intro w hw) | (refine go_newS ?_; clear hw; intro s w hw))
      exact ⟨i + 1, ⟨rfl, trivial⟩, by repeat (first | exact agree_refl | (apply agree_upd rfl) | (apply agree_mix rfl) | (apply agree_sets rfl)), ⟨by omega, hw⟩, by omega⟩
  repeat (first | refine go_run ?_ | (refine go_newP ?_; clear hw; intro p w hw) | (refine go_newWr ?_; clear hw; intro w hw) | (refine go_newS ?_; clear hw; intro s w hw))
  have hil : t.init.length = t.vars.length := hg.init.1
  refine st_append (s := s) (s2 := b) inferInstance rfl rfl (hinit.at hw) rfl rfl (fun x hx v hv => by rw [List.mem_singleton.1 hv]; rfl) (by simp only [List.length_cons, List.length_nil]; omega) (by unfold big; simp only [List.length_cons, List.length_nil]; omega) hw ?_
  clear hw
  intro s2 w hw
  have hno : estV t (tabH t T) ([0] ++ t.init) = inf := by
    unfold estV
    rw [if_neg]
    intro h
    have h5 := h.1
    simp at h5
    omega
  repeat (first | refine go_run ?_ | (refine go_newP ?_; clear hw; intro p w hw) | (refine go_newWr ?_; clear hw; intro w hw) | (refine go_newS ?_; clear hw; intro s w hw))
  refine st_call rfl (eValue_spec (hw.rdE 3 rfl) (rsO (s := s2) hw)) ?_
  rintro _ w' ⟨rfl, hk'⟩
  replace hw := hw.call0 hk'
  clear hk'
  refine ⟨_, rfl, ?_⟩
  rw [hno]
  repeat (first | refine go_run ?_ | (refine go_newP ?_; clear hw; intro p w hw) | (refine go_newWr ?_; clear hw; intro w hw) | (refine go_newS ?_; clear hw; intro s w hw))
  exact res_one (v := .bool true) rfl rfl ⟨rfl, sat_none hw⟩
end Go.Proofs.Ytoddgmmkpiojlaa
