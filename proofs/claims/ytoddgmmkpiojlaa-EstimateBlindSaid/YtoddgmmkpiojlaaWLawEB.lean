
/-
  The statement 'EstimateBlind' returns true.
-/
import Derived.Test.YtoddgmmkpiojlaaWI47
set_option linter.unusedSimpArgs false
set_option linter.unusedVariables false
namespace Go.Proofs.Ytoddgmmkpiojlaa
open Go.Sl Go
attribute [local irreducible] vc opsW opsD opV opW PureV ReadV Thn Blk
theorem dTrueE {h : Decidable True} : @decide True h = true := decide_eq_true trivial
set_option maxRecDepth 8000 in
theorem eDead_spec {w0 : World} {p : Addr} {t : TTask} {H : List Int → Int} {sv : Value} {s : List Int} (he : REst w0 p t H) (hs : RS tInt w0 sv s) :
    Calls Try.prog 13 #[.pointer (some p), sv] w0 fun e w' => e = .returned (.bool (decide (estV t H s = inf))) ∧ Sat w0 w' [] := by
  have hw := Sat.start w0
  refine calls_of_vc (args := [.pointer (some p), sv]) mixed Try.func13 rfl (by kernel_rfl) (Nat.le_of_ble_eq_true rfl) ?_
  repeat (first | refine go_run ?_ | (refine go_newP ?_; clear hw; intro p w hw) | (refine go_newW ?_; clear hw; intro w hw) | (refine go_newS ?_; clear hw; intro s w hw))
  refine st_call rfl (eValue_spec (he.at hw) (hs.at hw)) ?_
  rintro _ w' ⟨rfl, hk'⟩
  replace hw := hw.call0 hk'
  clear hk'
  refine ⟨_, rfl, ?_⟩
  repeat (first | refine go_run ?_ | (refine go_newP ?_; clear hw; intro p w hw) | (refine go_newW ?_; clear hw; intro w hw) | (refine go_newS ?_; clear hw; intro s w hw))
  exact res_one (v := .bool (decide (estV t H s = inf))) rfl rfl ⟨rfl, hw⟩
theorem leastC_le {t : TTask} (hg : GoodT t) {op : Nat} (ho : op < t.ops.length) : leastC t ≤ opC t op := by
  have key : ∀ k, k ≤ t.ops.length → op < k → leastK t k ≤ opC t op := by
    intro k
    induction k with
    | zero => intro _ h; exact absurd h (Nat.not_lt_zero _)
    | succ k ih =>
      intro h1 h2
      rw [leastK_snoc (by omega)]
      by_cases e : op = k
      · subst e; exact Int.min_le_right _ _
      · exact Int.le_trans (Int.min_le_left _ _) (ih (by omega) (by omega))
  exact key _ (Nat.le_refl _) ho
theorem pln_nn {t : TTask} (hg : GoodT t) {s p : List Int} {c : Int} (h : Pln t s p c) : 0 ≤ c := by
  induction h with
  | goal _ => exact Int.le_refl _
  | step ho _ _ ih => have := opC_rng hg ho; omega
theorem blind_least {t : TTask} (hg : GoodT t) {s : List Int} {b : Int} (h : Least t s b) : blindH t s ≤ b := by
  have h1 := leastK_rng hg t.ops.length (Nat.le_refl _)
  have hnn := h.nn
  unfold blindH
  split
  · exact hnn
  · rename_i hno
    by_cases hb : b < inf
    · obtain ⟨p, hp⟩ := h.att hb
      cases hp with
      | goal hh => exact absurd hh hno
      | step ho ha hp =>
        have := leastC_le hg ho
        have := pln_nn hg hp
        omega
    · have := h1.2
      unfold leastC; omega
set_option maxRecDepth 8000 in
set_option maxHeartbeats 8000000 in
theorem EstimateBlind_walk {w0 : World} {a b c d : Value} {vs : List OpV} {t : TTask} (ht : RTask w0 a b c d vs t) :
    Calls Try.prog 3 #[.agg #[a, b, c, d]] w0 fun e w' => e = .returned (.bool true) ∧ Sat w0 w' [] := by
  have hw := Sat.start w0
  refine calls_of_vc (args := [.agg #[a, b, c, d]]) mixed Try.func3 rfl (by kernel_rfl) (Nat.le_of_ble_eq_true rfl) ?_
  repeat (first | refine go_run ?_ | (refine go_newP ?_; clear hw; intro p w hw) | (refine go_newWr ?_; clear hw; intro w hw) | (refine go_newS ?_; clear hw; intro s w hw))
  obtain ⟨pt, hpt⟩ : ∃ pt, pt = p := ⟨p, rfl⟩
  subst hpt
  refine st_call rfl (Small_spec (ht.at hw)) ?_
  rintro _ w' ⟨⟨r, rfl, hr⟩, hk'⟩
  replace hw := hw.call0 hk'
  clear hk'
  refine ⟨_, rfl, ?_⟩
  cases r
  · repeat (first | refine go_run ?_ | (refine go_newP ?_; clear hw; intro p w hw) | (refine go_newWr ?_; clear hw; intro w hw) | (refine go_newS ?_; clear hw; intro s w hw))
    refine st_call rfl awake47_spec ?_
    rintro _ w' ⟨rfl, hk'⟩
    replace hw := hw.call0 hk'
    clear hk'
    refine ⟨_, rfl, ?_⟩
    repeat (first | refine go_run ?_ | (refine go_newP ?_; clear hw; intro p w hw) | (refine go_newWr ?_; clear hw; intro w hw) | (refine go_newS ?_; clear hw; intro s w hw))
    exact res_one (v := .bool true) rfl rfl ⟨rfl, sat_none hw⟩
  have hs := hr.1 rfl
  have hg := hs.good
  have hB := hs.many
  have hvl := hg.vars
  have hol := hg.ops
  have hsl : (statesL t.vars).length = (prodL t.vars).toNat := statesL_len hg.pos
  have hpp := prodL_pos hg.pos
  have hdr := ht.ops.rs
  have hdl := ht.ops.len
  repeat (first | refine go_run ?_ | (refine go_newP ?_; clear hw; intro p w hw) | (refine go_newWr ?_; clear hw; intro w hw) | (refine go_newS ?_; clear hw; intro s w hw))
  refine st_call rfl awake47_spec ?_
  rintro _ w' ⟨rfl, hk'⟩
  replace hw := hw.call0 hk'
  clear hk'
  refine ⟨_, rfl, ?_⟩
  repeat (first | refine go_run ?_ | (refine go_newP ?_; clear hw; intro p w hw) | (refine go_newWr ?_; clear hw; intro w hw) | (refine go_newS ?_; clear hw; intro s w hw))
  refine st_call rfl (Blind_spec (ht.at hw) hg) ?_
  rintro _ w' ⟨pe, rfl, hk'⟩
  replace hw := hw.call1 hk'
  clear hk'
  refine ⟨_, rfl, ?_⟩
  repeat (first | refine go_run ?_ | (refine go_newP ?_; clear hw; intro p w hw) | (refine go_newWr ?_; clear hw; intro w hw) | (refine go_newS ?_; clear hw; intro s w hw))
  have hw1 : Sat w0 w' [RdH fun w => REst w pe t (blindH t), Box pt 26 [a, b, c, d]] := hw
  clear hw
  have hw := hw1
  clear hw1
  refine vc_loop [5, 7, 34, 35, 36, 37, 38, 39, 40, 41, 42] (G := Nat) (fun k => [(34, .int .i64 k), (5, .int .i64 (leastK t k))]) (fun k w => k ≤ t.ops.length ∧ Sat w0 w [RdH fun w => REst w pe t (blindH t), Box pt 26 [a, b, c, d]]) (fun k => t.ops.length - k) 0 (fun _ => rfl) ⟨rfl, rfl, trivial⟩ ⟨Nat.zero_le _, hw⟩ ?_
  clear hw
  rintro σ k w ⟨hk, hw⟩
  repeat (first | refine go_run ?_ | (refine go_newP ?_; clear hw; intro p w hw) | (refine go_newW ?_; clear hw; intro w hw) | (refine go_newS ?_; clear hw; intro s w hw))
  refine go_if (fun h1 => ?_) (fun h1 => ?_)
  · have hkl : k < t.ops.length := by omega
    have hop := ht.ops.at_ k hkl
    have hone := hop.one
    have hco := hop.cost
    have e : (if (eget tOp vs k).cost < leastK t k then (eget tOp vs k).cost else leastK t k) = leastK t (k + 1) := by rw [leastK_snoc hkl, ← hco]; split <;> omega
    repeat (first | refine go_run ?_ | (refine go_newP ?_; clear hw; intro p w hw) | (refine go_newW ?_; clear hw; intro w hw) | (refine go_newS ?_; clear hw; intro s w hw))
    exact ⟨k + 1, ⟨rfl, by rw [← e]; rfl, trivial⟩, by repeat (first | exact agree_refl | (apply agree_upd rfl) | (apply agree_mix rfl) | (apply agree_sets rfl)), ⟨by omega, hw.sel⟩, by omega⟩
  have hke : k = t.ops.length := by omega
  subst hke
  repeat (first | refine go_run ?_ | (refine go_newP ?_; clear hw; intro p w hw) | (refine go_newWr ?_; clear hw; intro w hw) | (refine go_newS ?_; clear hw; intro s w hw))
  refine st_call rfl (Distances_spec (kv := .slice none 0 0) (ht.at hw) (.own rfl rfl) hg (by omega)) ?_
  rintro _ w' ⟨dv, D, rfl, hD, hk'⟩
  replace hw := hw.call1 hk'
  clear hk'
  refine ⟨_, rfl, ?_⟩
  have hDl := hD.len
  repeat (first | refine go_run ?_ | (refine go_newP ?_; clear hw; intro p w hw) | (refine go_newWr ?_; clear hw; intro w hw) | (refine go_newS ?_; clear hw; intro s w hw))
  refine st_call rfl (States_spec (ht.vars.at hw) hg.pos (by omega) (by omega)) ?_
  rintro _ w' ⟨sv, ss, rfl, hk'⟩
  replace hw := hw.call2 hk'
  clear hk'
  refine ⟨_, rfl, ?_⟩
  have hssl := hw.rowsLen
  repeat (first | refine go_run ?_ | (refine go_newP ?_; clear hw; intro p w hw) | (refine go_newWr ?_; clear hw; intro w hw) | (refine go_newS ?_; clear hw; intro s w hw))
  have hw1 : Sat w0 w' [RowsAt tInt 3 ss (statesL t.vars), OS tVal 22 sv ss, OS tInt 3 dv D, RdH fun w => REst w pe t (blindH t), Box pt 26 [a, b, c, d]] := hw
  clear hw
  have hw := hw1
  clear hw1
  refine vc_loop [2, 9, 10, 11, 49, 50, 51, 52, 53, 54, 55, 56, 57, 58, 59, 60, 61, 62, 63, 64, 65, 66, 67, 68, 69, 70, 71, 72, 73, 74, 75, 76, 77, 78, 79, 80] (G := Nat) (fun i => [(49, .int .i64 i)]) (fun i w => i ≤ (statesL t.vars).length ∧ Sat w0 w [RowsAt tInt 3 ss (statesL t.vars), OS tVal 22 sv ss, OS tInt 3 dv D, RdH fun w => REst w pe t (blindH t), Box pt 26 [a, b, c, d]]) (fun i => (statesL t.vars).length - i) 0 (fun _ => rfl) ⟨rfl, trivial⟩ ⟨Nat.zero_le _, hw⟩ ?_
  clear hw
  rintro σ1 i w ⟨hi, hw⟩
  repeat (first | refine go_run ?_ | (refine go_newP ?_; clear hw; intro p w hw) | (refine go_newW ?_; clear hw; intro w hw) | (refine go_newS ?_; clear hw; intro s w hw))
  refine go_if (fun h2 => ?_) (fun h2 => ?_)
  · have hil : i < (statesL t.vars).length := by omega
    obtain ⟨hok, hrk⟩ := statesL_at hg.pos hil
    obtain ⟨x, hx⟩ : ∃ x : List Int, x = (statesL t.vars).getD i [] := ⟨_, rfl⟩
    rw [← hx] at hok hrk
    have hL := least_of hg (by omega) hD hok
    rw [hrk, Int.toNat_natCast] at hL
    have hbl := blind_least hg hL
    have hev : estV t (blindH t) x = blindH t x := by unfold estV; rw [if_pos hok]
    have hrow : ∀ w, Sat w0 w [RowsAt tInt 3 ss (statesL t.vars), OS tVal 22 sv ss, OS tInt 3 dv D, RdH fun w => REst w pe t (blindH t), Box pt 26 [a, b, c, d]] → RS tInt w (vget ss i) x := fun w h => by rw [hx]; exact h.row hil
    have hDl2 : i < D.length := by omega
    repeat (first | refine go_run ?_ | (refine go_newP ?_; clear hw; intro p w hw) | (refine go_newWr ?_; clear hw; intro w hw) | (refine go_newS ?_; clear hw; intro s w hw))
    refine st_call rfl (Holds_spec (ht.goal.at hw) (hrow _ hw)) ?_
    rintro _ w' ⟨⟨r, rfl, hr⟩, hk'⟩
    replace hw := hw.call0 hk'
    clear hk'
    refine ⟨_, rfl, ?_⟩
    repeat (first | refine go_runC ?_ | (refine go_newP ?_; clear hw; intro p w hw) | (refine go_newW ?_; clear hw; intro w hw) | (refine go_newS ?_; clear hw; intro s w hw))
    refine vc_cut [11] (G := Unit) (fun _ => [(11, .int .i64 (blindH t x))]) (fun _ w => Sat w0 w [RowsAt tInt 3 ss (statesL t.vars), OS tVal 22 sv ss, OS tInt 3 dv D, RdH fun w => REst w pe t (blindH t), Box pt 26 [a, b, c, d]]) (fun _ => rfl) ?_ ?_
    · cases r
      · have hb : blindH t x = leastC t := by unfold blindH; rw [if_neg (fun h => by cases hr.2 h)]
        repeat (first | refine go_run ?_ | (refine go_newP ?_; clear hw; intro p w hw) | (refine go_newW ?_; clear hw; intro w hw) | (refine go_newS ?_; clear hw; intro s w hw))
        exact ⟨(), ⟨by rw [hb]; rfl, trivial⟩, by repeat (first | exact agree_refl | (apply agree_upd rfl) | (apply agree_mix rfl) | (apply agree_sets rfl)), hw⟩
      · have hb : blindH t x = 0 := by unfold blindH; rw [if_pos (hr.1 rfl)]
        repeat (first | refine go_run ?_ | (refine go_newP ?_; clear hw; intro p w hw) | (refine go_newW ?_; clear hw; intro w hw) | (refine go_newS ?_; clear hw; intro s w hw))
        exact ⟨(), ⟨by rw [hb]; rfl, trivial⟩, by repeat (first | exact agree_refl | (apply agree_upd rfl) | (apply agree_mix rfl) | (apply agree_sets rfl)), hw⟩
    clear hw
    rintro σ2 _ w hw
    have hE : REst w pe t (blindH t) := hw.rdE 3 rfl
    have hd1 : decide (blindH t x = blindH t x) = true := decide_eq_true rfl
    repeat (first | refine go_run ?_ | (refine go_newP ?_; clear hw; intro p w hw) | (refine go_newWr ?_; clear hw; intro w hw) | (refine go_newS ?_; clear hw; intro s w hw))
    refine st_call rfl (eValue_spec hE (hrow _ hw)) ?_
    rintro _ w' ⟨rfl, hk'⟩
    replace hw := hw.call0 hk'
    clear hk' hE
    refine ⟨_, rfl, ?_⟩
    rw [hev]
    have hE : REst w' pe t (blindH t) := hw.rdE 3 rfl
    repeat (first | refine go_run ?_ | (refine go_newP ?_; clear hw; intro p w hw) | (refine go_newWr ?_; clear hw; intro w hw) | (refine go_newS ?_; clear hw; intro s w hw))
    simp only [hd1, dTrueE, beq_self_eq_true, beq_tfI, beq_ftI, Bool.false_and, Bool.true_and, Bool.false_or, Bool.true_or, Bool.not_true, Bool.not_false, Bool.cond_true, Bool.cond_false, gv_fI, gv_tI]
    repeat (first | refine go_run ?_ | (refine go_newP ?_; clear hw; intro p w hw) | (refine go_newWr ?_; clear hw; intro w hw) | (refine go_newS ?_; clear hw; intro s w hw))
    refine st_call rfl (eDead_spec hE (hrow _ hw)) ?_
    rintro _ w' ⟨rfl, hk'⟩
    replace hw := hw.call0 hk'
    clear hk' hE
    refine ⟨_, rfl, ?_⟩
    have hd3 : decide (D.getD i tInt.dflt < blindH t x) = false := decide_eq_false (by omega)
    have hub := (blind_ok hg).le x
    have e3 : inf = 1125899906842624 := rfl
    have hdd : decide (blindH t x = inf) = decide ((1125899906842624 : Int) ≤ blindH t x) := decide_eq_decide.2 (by omega)
    rw [hev, hdd]
    by_cases hq : (1125899906842624 : Int) ≤ blindH t x
    · have hdq := decide_eq_true hq
      simp only [hdq]
      repeat (first | refine go_run ?_ | (refine go_newP ?_; clear hw; intro p w hw) | (refine go_newWr ?_; clear hw; intro w hw) | (refine go_newS ?_; clear hw; intro s w hw))
      simp only [hdq, bne_self_eq_false, dTrueE, beq_self_eq_true, beq_tfI, beq_ftI, Bool.false_and, Bool.true_and, Bool.false_or, Bool.true_or, Bool.not_true, Bool.not_false, Bool.cond_true, Bool.cond_false, gv_fI, gv_tI]
      repeat (first | refine go_run ?_ | (refine go_newP ?_; clear hw; intro p w hw) | (refine go_newWr ?_; clear hw; intro w hw) | (refine go_newS ?_; clear hw; intro s w hw))
      simp only [hd3, beq_self_eq_true, beq_tfI, beq_ftI, Bool.false_and, Bool.true_and, Bool.false_or, Bool.true_or, Bool.not_true, Bool.not_false, Bool.cond_true, Bool.cond_false, gv_fI, gv_tI]
      repeat (first | refine go_run ?_ | (refine go_newP ?_; clear hw; intro p w hw) | (refine go_newWr ?_; clear hw; intro w hw) | (refine go_newS ?_; clear hw; intro s w hw))
      exact ⟨i + 1, ⟨rfl, trivial⟩, by repeat (first | exact agree_refl | (apply agree_upd rfl) | (apply agree_mix rfl) | (apply agree_sets rfl)), ⟨by omega, hw⟩, by omega⟩
    · have hdq := decide_eq_false hq
      simp only [hdq]
      repeat (first | refine go_run ?_ | (refine go_newP ?_; clear hw; intro p w hw) | (refine go_newWr ?_; clear hw; intro w hw) | (refine go_newS ?_; clear hw; intro s w hw))
      simp only [hdq, bne_self_eq_false, dTrueE, beq_self_eq_true, beq_tfI, beq_ftI, Bool.false_and, Bool.true_and, Bool.false_or, Bool.true_or, Bool.not_true, Bool.not_false, Bool.cond_true, Bool.cond_false, gv_fI, gv_tI]
      repeat (first | refine go_run ?_ | (refine go_newP ?_; clear hw; intro p w hw) | (refine go_newWr ?_; clear hw; intro w hw) | (refine go_newS ?_; clear hw; intro s w hw))
      simp only [hd3, beq_self_eq_true, beq_tfI, beq_ftI, Bool.false_and, Bool.true_and, Bool.false_or, Bool.true_or, Bool.not_true, Bool.not_false, Bool.cond_true, Bool.cond_false, gv_fI, gv_tI]
      repeat (first | refine go_run ?_ | (refine go_newP ?_; clear hw; intro p w hw) | (refine go_newWr ?_; clear hw; intro w hw) | (refine go_newS ?_; clear hw; intro s w hw))
      exact ⟨i + 1, ⟨rfl, trivial⟩, by repeat (first | exact agree_refl | (apply agree_upd rfl) | (apply agree_mix rfl) | (apply agree_sets rfl)), ⟨by omega, hw⟩, by omega⟩
  repeat (first | refine go_run ?_ | (refine go_newP ?_; clear hw; intro p w hw) | (refine go_newW ?_; clear hw; intro w hw) | (refine go_newS ?_; clear hw; intro s w hw))
  exact res_one (v := .bool true) rfl rfl ⟨rfl, sat_none hw⟩
end Go.Proofs.Ytoddgmmkpiojlaa
