
/-
  The beginning of each statement of layer 50; 'fits' and 'below'.
-/
import Derived.Test.YtkmbenhffledpaaGreatWI50
import Derived.Test.YtkmbenhffledpaaGreatWIBase
import Derived.Test.YtkmbenhffledpaaGreatMSlB
set_option linter.unusedSimpArgs false
set_option linter.unusedVariables false
namespace Go.Proofs.YtkmbenhffledpaaGreat
open Go.Sl Go
attribute [local irreducible] vc opsW opsD opV opW PureV ReadV Thn Blk
theorem leastK_rng {t : TTask} (hg : GoodT t) : ∀ k, k ≤ t.ops.length → 0 ≤ leastK t k ∧ leastK t k ≤ inf
  | 0, _ => by simp [leastK]
  | k + 1, h => by
    have ih := leastK_rng hg k (by omega)
    have hc := (hg.op k (by omega)).cost0
    rw [leastK_snoc (by omega)]
    omega
theorem blind_ok {t : TTask} (hg : GoodT t) : HOk t (blindH t) := by
  have h := leastK_rng hg t.ops.length (Nat.le_refl _)
  refine ⟨hg, fun y => ?_, fun y => ?_⟩
  · unfold blindH leastC; split
    · exact Int.le_refl _
    · exact h.1
  · unfold blindH leastC; split
    · decide
    · exact h.2
theorem exIT_good : GoodT exIT := by
  refine ⟨by decide, by decide, by decide, by decide, by decide, fun i hi => ?_⟩
  have h0 : i = 0 ∨ i = 1 ∨ i = 2 := by simp [exIT] at hi; omega
  rcases h0 with rfl | rfl | rfl
  all_goals
    refine ⟨by decide, by decide, by decide, ⟨Nat.le_of_ble_eq_true rfl, fun i hi => absurd hi (Nat.not_lt_zero _)⟩, by decide, fun j hj => ?_⟩
    have h1 : j = 0 := by simp [exIT, exOpI] at hj; omega
    subst h1
    exact ⟨by decide, by decide⟩
theorem ex_run : vdC (runR exIT (blindH exIT) 100).1 = 1 ∧ coR exIT (runR exIT (blindH exIT) 100) = 6 ∧ (runR exIT (blindH exIT) 100).2.1.exp = 6 ∧ plR (runR exIT (blindH exIT) 100) = [0, 1, 2] ∧ (runR exIT (blindH exIT) 100).2.2 = [2, 4, 6] ∧ (runR exIT (blindH exIT) 100).1 ≠ .unknown := by decide +kernel
theorem ex_pln : Pln exIT exIT.init [0, 1, 2] 6 := by
  have h3 : Pln exIT [3] [] 0 := .goal (by decide)
  have h2 : Pln exIT [2] [2] (2 + 0) := .step (op := 2) (by decide) (by decide) h3
  have h1 : Pln exIT [1] [1, 2] (2 + (2 + 0)) := .step (op := 1) (by decide) (by decide) h2
  have h0 : Pln exIT [0] [0, 1, 2] (2 + (2 + (2 + 0))) := .step (t := exIT) (s := [0]) (op := 0) (by decide) (by decide) h1
  exact h0
set_option maxRecDepth 8000 in
set_option maxHeartbeats 4000000 in
theorem iawake_spec {w0 : World} :
    Calls Tryz.prog 18 #[] w0 fun e w' => e = .returned (.bool true) ∧ Sat w0 w' [] := by
  obtain ⟨r1, r2, r3, r4, r5, r6⟩ := ex_run
  have hw := Sat.start w0
  refine calls_of_vc (args := []) mixed Tryz.func18 rfl (by kernel_rfl) (Nat.le_of_ble_eq_true rfl) ?_
  repeat (first | refine go_run ?_ | (refine go_newP ?_; clear hw; intro p w hw) | (refine go_newWr ?_; clear hw; intro w hw) | (refine go_newS ?_; clear hw; intro s w hw))
  refine st_call rfl iexample_spec ?_
  rintro _ w' ⟨a, b, c, d, vs, rfl, ht0, hk'⟩
  have ht : RTask w' a b c d vs exIT := ht0
  replace hw := hw.call0 hk'
  clear hk'
  refine ⟨_, rfl, ?_⟩
  repeat (first | refine go_run ?_ | (refine go_newP ?_; clear hw; intro p w hw) | (refine go_newWr ?_; clear hw; intro w hw) | (refine go_newS ?_; clear hw; intro s w hw))
  refine st_call rfl (Search_spec (ev := .pointer none) (L := 100) ht (blind_ok exIT_good) (.inl ⟨rfl, rfl⟩) (by decide)) ?_
  rintro _ w2 ⟨pv, rfl, hk'⟩
  have ht2 := ht.at hk'
  replace hw := hw.call1 hk'
  clear hk'
  refine ⟨_, rfl, ?_⟩
  rw [show ((100 : Int).toNat) = 100 from rfl, r1, r2, r3]
  rw [show ((100 : Int).toNat) = 100 from rfl, r4] at hw
  have opv := (rsO (s := pv) hw).one
  repeat (first | refine go_run ?_ | (refine go_newP ?_; clear hw; intro p w hw) | (refine go_newS ?_; clear hw; intro s w hw))
  obtain ⟨p1, hp1⟩ : ∃ p1, p1 = p := ⟨p, rfl⟩
  subst hp1
  refine st_boxAgg (n := 4) (p := p1) (vs := [.int .i64 1, pv, .int .i64 6, .int .i64 6]) rfl rfl hw inferInstance rfl rfl (by simp only [List.all_cons, List.all_nil, opv]; rfl) ?_
  clear hw
  intro w hw
  repeat (first | refine go_run ?_ | (refine go_newP ?_; clear hw; intro p w hw) | (refine go_newWr ?_; clear hw; intro w hw) | (refine go_newS ?_; clear hw; intro s w hw))
  refine st_call rfl iexample_spec ?_
  rintro _ w3 ⟨a2, b2, c2, d2, vs2, rfl, ht3, hk'⟩
  replace hw := hw.call0 hk'
  clear hk'
  refine ⟨_, rfl, ?_⟩
  repeat (first | refine go_run ?_ | (refine go_newP ?_; clear hw; intro p w hw) | (refine go_newWr ?_; clear hw; intro w hw) | (refine go_newS ?_; clear hw; intro s w hw))
  refine st_call rfl (Rounds_spec (ev := .pointer none) (L := 100) ht3 (blind_ok exIT_good) (.inl ⟨rfl, rfl⟩) (by decide)) ?_
  rintro _ w4 (⟨h1, _⟩ | ⟨_, bv, rfl, hk'⟩)
  · exact absurd h1 r6
  replace hw := hw.call1 hk'
  clear hk'
  refine ⟨_, rfl, ?_⟩
  rw [show ((100 : Int).toNat) = 100 from rfl, r5] at hw
  repeat (first | refine go_run ?_ | (refine go_newP ?_; clear hw; intro p w hw) | (refine go_newWr ?_; clear hw; intro w hw) | (refine go_newS ?_; clear hw; intro s w hw))
  refine vc_plan [.op 0, .op 1, .op 2, .op 3, .op 4, .op 5, .op 6, .op 8, .op 7, .chk 8, .op 9, .op 10, .op 11, .op 12, .op 13, .op 14, .op 15, .op 16, .op 17, .op 18, .op 19, .op 20, .op 21] hw (by kernel_rfl) ?_; clear hw; intro w hw
  repeat (first | refine go_run ?_ | (refine go_newP ?_; clear hw; intro p w hw) | (refine go_newWr ?_; clear hw; intro w hw) | (refine go_newS ?_; clear hw; intro s w hw))
  refine st_call rfl iexample_spec ?_
  rintro _ w5 ⟨a3, b3, c3, d3, vs3, rfl, ht5, hk'⟩
  replace hw := hw.call0 hk'
  clear hk'
  refine ⟨_, rfl, ?_⟩
  repeat (first | refine go_run ?_ | (refine go_newP ?_; clear hw; intro p w hw) | (refine go_newWr ?_; clear hw; intro w hw) | (refine go_newS ?_; clear hw; intro s w hw))
  refine st_call rfl (Result_spec (pv := pv) (p := [0, 1, 2]) (vd := 1) (co := 6) (ex := 6) (best := 6) ht5 exIT_good (rsO (s := pv) hw) (by decide) (.inr ⟨by decide, rfl, ex_pln, rfl⟩)) ?_
  rintro _ w' ⟨rfl, hk'⟩
  replace hw := hw.call0 hk'
  clear hk'
  refine ⟨_, rfl, ?_⟩
  repeat (first | refine go_run ?_ | (refine go_newP ?_; clear hw; intro p w hw) | (refine go_newWr ?_; clear hw; intro w hw) | (refine go_newS ?_; clear hw; intro s w hw))
  refine st_buildSlice (T := tInt) [2, 4, 6] [.int .i64 2, .int .i64 4, .int .i64 6] rfl rfl rfl rfl rfl (Nat.le_of_ble_eq_true rfl) (Nat.zero_lt_succ _) (Nat.le_of_ble_eq_true rfl) hw ?_
  clear hw
  intro ls w hw
  repeat (first | refine go_run ?_ | (refine go_newP ?_; clear hw; intro p w hw) | (refine go_newWr ?_; clear hw; intro w hw) | (refine go_newS ?_; clear hw; intro s w hw))
  refine st_call rfl (Ints_spec (a := bv) (b := ls) (rsO (s := bv) hw) (rsO (s := ls) hw)) ?_
  rintro _ w' ⟨⟨r, rfl, hr⟩, hk'⟩
  replace hw := hw.call0 hk'
  clear hk'
  refine ⟨_, rfl, ?_⟩
  obtain rfl : r = true := hr.2 rfl
  repeat (first | refine go_run ?_ | (refine go_newP ?_; clear hw; intro p w hw) | (refine go_newWr ?_; clear hw; intro w hw) | (refine go_newS ?_; clear hw; intro s w hw))
  exact res_one (v := .bool true) rfl rfl ⟨rfl, sat_none hw⟩
set_option maxRecDepth 8000 in
set_option maxHeartbeats 4000000 in
theorem ifits_spec {w0 : World} {a b c d : Value} {vs : List OpV} {t : TTask} (ht : RTask w0 a b c d vs t) :
    Calls Tryz.prog 17 #[.agg #[a, b, c, d]] w0 fun e w' => (∃ r, e = .returned (.bool r) ∧ (r = true ↔ SmallT t ∧ manyL t.vars 512 ≤ 100)) ∧ Sat w0 w' [] := by
  have hw := Sat.start w0
  refine calls_of_vc (args := [.agg #[a, b, c, d]]) mixed Tryz.func17 rfl (by kernel_rfl) (Nat.le_of_ble_eq_true rfl) ?_
  repeat (first | refine go_run ?_ | (refine go_newP ?_; clear hw; intro p w hw) | (refine go_newWr ?_; clear hw; intro w hw) | (refine go_newS ?_; clear hw; intro s w hw))
  refine st_call rfl (Small_spec (ht.at hw)) ?_
  rintro _ w' ⟨⟨r, rfl, hr⟩, hk'⟩
  replace hw := hw.call0 hk'
  clear hk'
  refine ⟨_, rfl, ?_⟩
  cases r
  · repeat (first | refine go_run ?_ | (refine go_newP ?_; clear hw; intro p w hw) | (refine go_newWr ?_; clear hw; intro w hw) | (refine go_newS ?_; clear hw; intro s w hw))
    exact res_one (v := .bool false) rfl rfl ⟨⟨false, rfl, iffF fun h => by cases hr.2 h.1⟩, sat_none hw⟩
  have hs := hr.1 rfl
  repeat (first | refine go_run ?_ | (refine go_newP ?_; clear hw; intro p w hw) | (refine go_newWr ?_; clear hw; intro w hw) | (refine go_newS ?_; clear hw; intro s w hw))
  refine st_call rfl (Many_spec (ht.vars.at hw) hs.good.pos (by decide) (by decide)) ?_
  rintro _ w' ⟨rfl, hk'⟩
  replace hw := hw.call0 hk'
  clear hk'
  refine ⟨_, rfl, ?_⟩
  repeat (first | refine go_run ?_ | (refine go_newP ?_; clear hw; intro p w hw) | (refine go_newWr ?_; clear hw; intro w hw) | (refine go_newS ?_; clear hw; intro s w hw))
  exact res_one (v := .bool (decide (manyL t.vars 512 ≤ 100))) rfl rfl ⟨⟨_, rfl, by rw [decide_eq_true_eq]; exact ⟨fun h => ⟨hs, h⟩, fun h => h.2⟩⟩, sat_none hw⟩
end Go.Proofs.YtkmbenhffledpaaGreat
