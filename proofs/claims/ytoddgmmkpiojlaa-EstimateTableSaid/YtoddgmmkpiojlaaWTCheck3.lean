
/-
  Contract of 'task.Check'.
-/
import Derived.Test.YtoddgmmkpiojlaaMW2
set_option linter.unusedSimpArgs false
set_option linter.unusedVariables false
namespace Go.Proofs.Ytoddgmmkpiojlaa
open Go.Sl
attribute [local irreducible] vc opsW opsD opV opW PureV ReadV Thn Blk

theorem checkT_large {t : TTask} (h : LargeT t) : checkT t = 5 := by simp [checkT, h]
theorem checkT_dom {t : TTask} (h1 : ¬ LargeT t) (h2 : ¬ DomT t) : checkT t = 1 := by simp [checkT, h1, h2]
theorem checkT_cost {t : TTask} (h1 : ¬ LargeT t) (h2 : DomT t) (h3 : ¬ CostT t) : checkT t = 1 := by simp [checkT, h1, h2, h3]
theorem checkT_init {t : TTask} (h1 : ¬ LargeT t) (h2 : DomT t) (h3 : CostT t) (h4 : ¬ StateOk t.vars t.init) : checkT t = 2 := by simp [checkT, h1, h2, h3, h4]
theorem checkT_cond {t : TTask} (h1 : ¬ LargeT t) (h2 : DomT t) (h3 : CostT t) (h4 : StateOk t.vars t.init) (h5 : ¬ CondT t) : checkT t = 2 := by simp [checkT, h1, h2, h3, h4, h5]
theorem checkT_eff {t : TTask} (h1 : ¬ LargeT t) (h2 : DomT t) (h3 : CostT t) (h4 : StateOk t.vars t.init) (h5 : CondT t) (h6 : ¬ EffT t) : checkT t = 2 := by simp [checkT, h1, h2, h3, h4, h5, h6]
theorem checkT_name {t : TTask} (h1 : ¬ LargeT t) (h2 : DomT t) (h3 : CostT t) (h4 : StateOk t.vars t.init) (h5 : CondT t) (h6 : EffT t) (h7 : ¬ NamesT t) : checkT t = 8 := by simp [checkT, h1, h2, h3, h4, h5, h6, h7]
theorem checkT_ok {t : TTask} (h1 : ¬ LargeT t) (h2 : DomT t) (h3 : CostT t) (h4 : StateOk t.vars t.init) (h5 : CondT t) (h6 : EffT t) (h7 : NamesT t) : checkT t = 0 := by simp [checkT, h1, h2, h3, h4, h5, h6, h7]

set_option maxRecDepth 8000 in
set_option maxHeartbeats 4000000 in
theorem Check_spec {w0 : World} {a b c d : Value} {vs : List OpV} {t : TTask} (ht : RTask w0 a b c d vs t) :
    Calls Try.prog 31 #[.agg #[a, b, c, d]] w0 fun e w' => e = .returned (errV (checkT t)) ∧ Sat w0 w' [] := by
  have ht' := ht
  obtain ⟨ha, hb, hc, hd⟩ := ht
  have hrs := hd.rs
  have hdl := hd.len
  have hla := ha.big
  have hll := hrs.big
  have hw := Sat.start w0
  refine calls_of_vc (args := [.agg #[a, b, c, d]]) mixed Try.func31 rfl (by kernel_rfl) (Nat.le_of_ble_eq_true rfl) ?_
  repeat (first | refine go_run ?_ | (refine go_newP ?_; clear hw; intro p w hw) | (refine go_newW ?_; clear hw; intro w hw) | (refine go_newS ?_; clear hw; intro s w hw))
  obtain ⟨pt, hpt⟩ : ∃ pt, pt = p := ⟨p, rfl⟩
  subst hpt
  refine st_call rfl (large_spec (ht'.at hw)) ?_
  rintro _ w' ⟨⟨r, rfl, hr⟩, hk'⟩
  replace hw := hw.call0 hk'
  clear hk'
  refine ⟨_, rfl, ?_⟩
  cases r with
  | true =>
    repeat (first | refine go_run ?_ | (refine go_newP ?_; clear hw; intro p w hw) | (refine go_newW ?_; clear hw; intro w hw) | (refine go_newS ?_; clear hw; intro s w hw))
    exact res_one (v := .iface 56 (.int .i64 5)) rfl rfl ⟨by rw [checkT_large (hr.1 rfl)]; rfl, hw.tail⟩
  | false =>
    have h1 : ¬ LargeT t := fun h => by have := hr.2 h; cases this
    have h1a : t.ops.length ≤ 4096 := Nat.le_of_not_lt fun h => h1 (.inr (.inl h))
    have h1b : ∀ i, i < t.ops.length → (t.ops.getD i dOp).effs.length ≤ 64 := fun i hi => Nat.le_of_not_lt fun h => h1 (.inr (.inr (.inl ⟨i, hi, h⟩)))
    repeat (first | refine go_run ?_ | (refine go_newP ?_; clear hw; intro p w hw) | (refine go_newW ?_; clear hw; intro w hw) | (refine go_newS ?_; clear hw; intro s w hw))
    refine vc_loop [2, 4, 21, 22, 23, 24, 25, 26, 27, 28, 29, 30, 31, 32] (G := Nat) (fun k => [(21, .int .i64 k)]) (fun k w => k ≤ t.vars.length ∧ (∀ i, i < k → 1 ≤ t.vars.getD i tInt.dflt ∧ t.vars.getD i tInt.dflt ≤ 64) ∧ Sat w0 w [Box pt 26 [a, b, c, d]]) (fun k => t.vars.length - k) 0 (fun _ => rfl) ⟨rfl, trivial⟩ ⟨Nat.zero_le _, fun i hi => absurd hi (Nat.not_lt_zero _), hw⟩ ?_
    clear hw
    rintro σ k w ⟨hk, hdm, hw⟩
    repeat (first | refine go_run ?_ | (refine go_newP ?_; clear hw; intro p w hw) | (refine go_newW ?_; clear hw; intro w hw) | (refine go_newS ?_; clear hw; intro s w hw))
    refine go_if (fun h2 => ?_) (fun h2 => ?_)
    · repeat (first | refine go_run ?_ | (refine go_newP ?_; clear hw; intro p w hw) | (refine go_newW ?_; clear hw; intro w hw) | (refine go_newS ?_; clear hw; intro s w hw))
      refine go_if (fun h3 => ?_) (fun h3 => ?_)
      · repeat (first | refine go_run ?_ | (refine go_newP ?_; clear hw; intro p w hw) | (refine go_newW ?_; clear hw; intro w hw) | (refine go_newS ?_; clear hw; intro s w hw))
        have hno : ¬ DomT t := fun h => by have := h k (by omega); omega
        exact res_one (v := .iface 56 (.int .i64 1)) rfl rfl ⟨by rw [checkT_dom h1 hno]; rfl, hw.tail⟩
      · repeat (first | refine go_run ?_ | (refine go_newP ?_; clear hw; intro p w hw) | (refine go_newW ?_; clear hw; intro w hw) | (refine go_newS ?_; clear hw; intro s w hw))
        refine ⟨k + 1, ⟨rfl, trivial⟩, by repeat (first | exact agree_refl | (apply agree_upd rfl) | (apply agree_mix rfl) | (apply agree_sets rfl)), ⟨by omega, fun i hi => ?_, hw⟩, by omega⟩
        by_cases h : i = k
        · subst h; omega
        · exact hdm i (by omega)
    · have hD : DomT t := fun i hi => hdm i (by omega)
      clear hdm h2 hk
      repeat (first | refine go_run ?_ | (refine go_newP ?_; clear hw; intro p w hw) | (refine go_newW ?_; clear hw; intro w hw) | (refine go_newS ?_; clear hw; intro s w hw))
      refine vc_loop [2, 6, 36, 37, 38, 39, 40, 41, 42, 43, 44, 45, 46, 47, 48, 49] (G := Nat) (fun k => [(36, .int .i64 k)]) (fun k w => k ≤ t.ops.length ∧ (∀ i, i < k → 0 ≤ (t.ops.getD i dOp).cost ∧ (t.ops.getD i dOp).cost ≤ 1048576) ∧ Sat w0 w [Box pt 26 [a, b, c, d]]) (fun k => t.ops.length - k) 0 (fun _ => rfl) ⟨rfl, trivial⟩ ⟨Nat.zero_le _, fun i hi => absurd hi (Nat.not_lt_zero _), hw⟩ ?_
      clear hw
      rintro σ1 k w ⟨hk, hco, hw⟩
      repeat (first | refine go_run ?_ | (refine go_newP ?_; clear hw; intro p w hw) | (refine go_newW ?_; clear hw; intro w hw) | (refine go_newS ?_; clear hw; intro s w hw))
      refine go_if (fun h2 => ?_) (fun h2 => ?_)
      · have hop := hd.at_ k (by omega)
        have hone := hop.one
        have hcost := hop.cost
        repeat (first | refine go_run ?_ | (refine go_newP ?_; clear hw; intro p w hw) | (refine go_newW ?_; clear hw; intro w hw) | (refine go_newS ?_; clear hw; intro s w hw))
        refine go_if (fun h3 => ?_) (fun h3 => ?_)
        · repeat (first | refine go_run ?_ | (refine go_newP ?_; clear hw; intro p w hw) | (refine go_newW ?_; clear hw; intro w hw) | (refine go_newS ?_; clear hw; intro s w hw))
          have hno : ¬ CostT t := fun h => by have := h k (by omega); omega
          exact res_one (v := .iface 56 (.int .i64 1)) rfl rfl ⟨by rw [checkT_cost h1 hD hno]; rfl, hw.tail.tail⟩
        · repeat (first | refine go_run ?_ | (refine go_newP ?_; clear hw; intro p w hw) | (refine go_newW ?_; clear hw; intro w hw) | (refine go_newS ?_; clear hw; intro s w hw))
          refine ⟨k + 1, ⟨rfl, trivial⟩, by repeat (first | exact agree_refl | (apply agree_upd rfl) | (apply agree_mix rfl) | (apply agree_sets rfl)), ⟨by omega, fun i hi => ?_, hw.tail⟩, by omega⟩
          by_cases h : i = k
          · subst h; omega
          · exact hco i (by omega)
      · have hC : CostT t := fun i hi => hco i (by omega)
        clear hco h2 hk
        repeat (first | refine go_run ?_ | (refine go_newP ?_; clear hw; intro p w hw) | (refine go_newW ?_; clear hw; intro w hw) | (refine go_newS ?_; clear hw; intro s w hw))
        refine st_call rfl (tProper_spec (a := a) (b := b) (ha.at hw) (hb.at hw)) ?_
        rintro _ w' ⟨⟨r, rfl, hr2⟩, hk'⟩
        replace hw := hw.call0 hk'
        clear hk'
        refine ⟨_, rfl, ?_⟩
        cases r with
        | false =>
          repeat (first | refine go_run ?_ | (refine go_newP ?_; clear hw; intro p w hw) | (refine go_newW ?_; clear hw; intro w hw) | (refine go_newS ?_; clear hw; intro s w hw))
          have hno : ¬ StateOk t.vars t.init := fun h => by have := hr2.2 h; cases this
          exact res_one (v := .iface 56 (.int .i64 2)) rfl rfl ⟨by rw [checkT_init h1 hD hC hno]; rfl, hw.tail⟩
        | true =>
          have hS := hr2.1 rfl
          repeat (first | refine go_run ?_ | (refine go_newP ?_; clear hw; intro p w hw) | (refine go_newW ?_; clear hw; intro w hw) | (refine go_newS ?_; clear hw; intro s w hw))
          refine st_call rfl (conditions_spec ht' hw h1a h1b) ?_
          rintro _ w' ⟨s, cs, rfl, hcs, hk'⟩
          replace hw := hw.call1 hk'
          clear hk'
          have hcl := hcs.1
          have hcb := condsK_len t t.ops.length (Nat.le_refl _) h1b
          have hcd : (conds t).length = (condsK t t.ops.length).length := rfl
          refine ⟨_, rfl, ?_⟩
          repeat (first | refine go_run ?_ | (refine go_newP ?_; clear hw; intro p w hw) | (refine go_newW ?_; clear hw; intro w hw) | (refine go_newS ?_; clear hw; intro s w hw))
          refine vc_loop [2, 8, 60, 61, 62, 63, 64, 65, 66, 67, 68, 69, 70] (G := Nat) (fun k => [(60, .int .i64 k)]) (fun k w => k ≤ (conds t).length ∧ (∀ i, i < k → FactsOk t.vars ((conds t).getD i [])) ∧ Sat w0 w [OS tVal 23 s cs, Box pt 26 [a, b, c, d]]) (fun k => (conds t).length - k) 0 (fun _ => rfl) ⟨rfl, trivial⟩ ⟨Nat.zero_le _, fun i hi => absurd hi (Nat.not_lt_zero _), hw⟩ ?_
          clear hw
          rintro σ2 k w ⟨hk, hcn, hw⟩
          repeat (first | refine go_run ?_ | (refine go_newP ?_; clear hw; intro p w hw) | (refine go_newW ?_; clear hw; intro w hw) | (refine go_newS ?_; clear hw; intro s w hw))
          refine go_if (fun h2 => ?_) (fun h2 => ?_)
          · repeat (first | refine go_run ?_ | (refine go_newP ?_; clear hw; intro p w hw) | (refine go_newW ?_; clear hw; intro w hw) | (refine go_newS ?_; clear hw; intro s w hw))
            refine st_call rfl (tFacts_spec (a := a) (b := vget cs k) (ha.at hw) ((hcs.2 k (by omega)).at hw)) ?_
            rintro _ w' ⟨⟨r, rfl, hr3⟩, hk'⟩
            replace hw := hw.call0 hk'
            clear hk'
            refine ⟨_, rfl, ?_⟩
            cases r with
            | false =>
              repeat (first | refine go_run ?_ | (refine go_newP ?_; clear hw; intro p w hw) | (refine go_newW ?_; clear hw; intro w hw) | (refine go_newS ?_; clear hw; intro s w hw))
              have hno : ¬ CondT t := fun h => by have := hr3.2 (h k (by omega)); cases this
              exact res_one (v := .iface 56 (.int .i64 2)) rfl rfl ⟨by rw [checkT_cond h1 hD hC hS hno]; rfl, hw.tail.tail⟩
            | true =>
              repeat (first | refine go_run ?_ | (refine go_newP ?_; clear hw; intro p w hw) | (refine go_newW ?_; clear hw; intro w hw) | (refine go_newS ?_; clear hw; intro s w hw))
              refine ⟨k + 1, ⟨rfl, trivial⟩, by repeat (first | exact agree_refl | (apply agree_upd rfl) | (apply agree_mix rfl) | (apply agree_sets rfl)), ⟨by omega, fun i hi => ?_, hw⟩, by omega⟩
              by_cases h : i = k
              · subst h; exact hr3.1 rfl
              · exact hcn i (by omega)
          · have hK : CondT t := fun i hi => hcn i (by omega)
            replace hw := hw.tail
            clear hcn h2 hk hcl hcs
            repeat (first | refine go_run ?_ | (refine go_newP ?_; clear hw; intro p w hw) | (refine go_newW ?_; clear hw; intro w hw) | (refine go_newS ?_; clear hw; intro s w hw))
            refine vc_loop [2, 10, 12, 74, 75, 76, 77, 78, 79, 80, 81, 82, 83, 84, 85, 86, 87, 88, 89, 90, 91, 92, 93, 94, 95, 96, 97] (G := Nat) (fun k => [(74, .int .i64 k)]) (fun k w => k ≤ t.ops.length ∧ (∀ i, i < k → ∀ j, j < (t.ops.getD i dOp).effs.length → FactsOk t.vars [⟨((t.ops.getD i dOp).effs.getD j dEff).var, ((t.ops.getD i dOp).effs.getD j dEff).val⟩]) ∧ Sat w0 w [Box pt 26 [a, b, c, d]]) (fun k => t.ops.length - k) 0 (fun _ => rfl) ⟨rfl, trivial⟩ ⟨Nat.zero_le _, fun i hi => absurd hi (Nat.not_lt_zero _), hw⟩ ?_
            clear hw
            rintro σ3 k w ⟨hk, hef, hw⟩
            repeat (first | refine go_run ?_ | (refine go_newP ?_; clear hw; intro p w hw) | (refine go_newW ?_; clear hw; intro w hw) | (refine go_newS ?_; clear hw; intro s w hw))
            refine go_if (fun h2 => ?_) (fun h2 => ?_)
            · have hop := hd.at_ k (by omega)
              have hone := hop.one
              obtain ⟨es, hes⟩ := hop.effs
              have hers := hes.rs
              have hel := hes.len
              have heb := hers.big
              repeat (first | refine go_run ?_ | (refine go_newP ?_; clear hw; intro p w hw) | (refine go_newW ?_; clear hw; intro w hw) | (refine go_newS ?_; clear hw; intro s w hw))
              refine vc_loop [2, 12, 81, 82, 83, 84, 85, 86, 87, 88, 89, 90, 91, 92, 93, 94, 95, 96] (G := Nat) (fun j => [(81, .int .i64 j)]) (fun j w => j ≤ (t.ops.getD k dOp).effs.length ∧ (∀ i, i < j → FactsOk t.vars [⟨((t.ops.getD k dOp).effs.getD i dEff).var, ((t.ops.getD k dOp).effs.getD i dEff).val⟩]) ∧ Sat w0 w [Box pt 26 [a, b, c, d]]) (fun j => (t.ops.getD k dOp).effs.length - j) 0 (fun _ => rfl) ⟨rfl, trivial⟩ ⟨Nat.zero_le _, fun i hi => absurd hi (Nat.not_lt_zero _), hw.tail⟩ ?_
              clear hw
              rintro σ4 j w ⟨hj, hjf, hw⟩
              repeat (first | refine go_run ?_ | (refine go_newP ?_; clear hw; intro p w hw) | (refine go_newW ?_; clear hw; intro w hw) | (refine go_newS ?_; clear hw; intro s w hw))
              refine go_if (fun h3 => ?_) (fun h3 => ?_)
              · have hej := hes.at_ j (by omega)
                have hone2 := hej.one
                repeat (first | refine go_run ?_ | (refine go_newP ?_; clear hw; intro p w hw) | (refine go_newW ?_; clear hw; intro w hw) | (refine go_newS ?_; clear hw; intro s w hw))
                refine st_buildSlice1 tFact (x1 := ⟨(eget tEff es j).var, (eget tEff es j).val⟩) rfl rfl rfl (Nat.le_of_ble_eq_true rfl) (Nat.zero_lt_succ _) hw ?_
                clear hw
                intro s w hw
                repeat (first | refine go_run ?_ | (refine go_newP ?_; clear hw; intro p w hw) | (refine go_newW ?_; clear hw; intro w hw) | (refine go_newS ?_; clear hw; intro s w hw))
                refine st_call rfl (tFacts_spec (a := a) (b := s) (ha.at hw) (rsO hw)) ?_
                rintro _ w' ⟨⟨r, rfl, hr3⟩, hk'⟩
                replace hw := hw.call0 hk'
                clear hk'
                rw [hej.var, hej.val] at hr3
                refine ⟨_, rfl, ?_⟩
                cases r with
                | false =>
                  repeat (first | refine go_run ?_ | (refine go_newP ?_; clear hw; intro p w hw) | (refine go_newW ?_; clear hw; intro w hw) | (refine go_newS ?_; clear hw; intro s w hw))
                  have hno : ¬ EffT t := fun h => by have := hr3.2 (h k (by omega) j (by omega)); cases this
                  exact res_one (v := .iface 56 (.int .i64 2)) rfl rfl ⟨by rw [checkT_eff h1 hD hC hS hK hno]; rfl, hw.tail.tail.tail⟩
                | true =>
                  repeat (first | refine go_run ?_ | (refine go_newP ?_; clear hw; intro p w hw) | (refine go_newW ?_; clear hw; intro w hw) | (refine go_newS ?_; clear hw; intro s w hw))
                  refine ⟨j + 1, ⟨rfl, trivial⟩, by repeat (first | exact agree_refl | (apply agree_upd rfl) | (apply agree_mix rfl) | (apply agree_sets rfl)), ⟨by omega, fun i hi => ?_, hw.tail.tail⟩, by omega⟩
                  by_cases h : i = j
                  · subst h; exact hr3.1 rfl
                  · exact hjf i (by omega)
              · repeat (first | refine go_run ?_ | (refine go_newP ?_; clear hw; intro p w hw) | (refine go_newW ?_; clear hw; intro w hw) | (refine go_newS ?_; clear hw; intro s w hw))
                refine ⟨k + 1, ⟨rfl, trivial⟩, by repeat (first | exact agree_refl | (apply agree_upd rfl) | (apply agree_mix rfl) | (apply agree_sets rfl)), ⟨by omega, fun i hi => ?_, hw⟩, by omega⟩
                by_cases h : i = k
                · subst h; exact fun i' hi' => hjf i' (by omega)
                · exact hef i (by omega)
            · have hE : EffT t := fun i hi => hef i (by omega)
              clear hef h2 hk
              repeat (first | refine go_run ?_ | (refine go_newP ?_; clear hw; intro p w hw) | (refine go_newW ?_; clear hw; intro w hw) | (refine go_newS ?_; clear hw; intro s w hw))
              refine vc_loop [2, 14, 101, 102, 103, 104, 105, 106, 107, 108, 109, 110] (G := Nat) (fun k => [(101, .int .i64 k)]) (fun k w => k ≤ t.ops.length ∧ (∀ i, i < k → NameOk (t.ops.getD i dOp).name) ∧ Sat w0 w [Box pt 26 [a, b, c, d]]) (fun k => t.ops.length - k) 0 (fun _ => rfl) ⟨rfl, trivial⟩ ⟨Nat.zero_le _, fun i hi => absurd hi (Nat.not_lt_zero _), hw⟩ ?_
              clear hw
              rintro σ4 k w ⟨hk, hnm, hw⟩
              repeat (first | refine go_run ?_ | (refine go_newP ?_; clear hw; intro p w hw) | (refine go_newW ?_; clear hw; intro w hw) | (refine go_newS ?_; clear hw; intro s w hw))
              refine go_if (fun h2 => ?_) (fun h2 => ?_)
              · have hop := hd.at_ k (by omega)
                have hone := hop.one
                repeat (first | refine go_run ?_ | (refine go_newP ?_; clear hw; intro p w hw) | (refine go_newW ?_; clear hw; intro w hw) | (refine go_newS ?_; clear hw; intro s w hw))
                refine st_call rfl (named_spec (b := (eget tOp vs k).name) (by rw [hop.name]; exact hop.size)) ?_
                rintro _ w' ⟨⟨r, rfl, hr3⟩, hk'⟩
                replace hw := hw.call0 hk'
                clear hk'
                rw [hop.name] at hr3
                refine ⟨_, rfl, ?_⟩
                cases r with
                | false =>
                  repeat (first | refine go_run ?_ | (refine go_newP ?_; clear hw; intro p w hw) | (refine go_newW ?_; clear hw; intro w hw) | (refine go_newS ?_; clear hw; intro s w hw))
                  have hno : ¬ NamesT t := fun h => by have := hr3.2 (h k (by omega)); cases this
                  exact res_one (v := .iface 56 (.int .i64 8)) rfl rfl ⟨by rw [checkT_name h1 hD hC hS hK hE hno]; rfl, hw.tail.tail⟩
                | true =>
                  repeat (first | refine go_run ?_ | (refine go_newP ?_; clear hw; intro p w hw) | (refine go_newW ?_; clear hw; intro w hw) | (refine go_newS ?_; clear hw; intro s w hw))
                  refine ⟨k + 1, ⟨rfl, trivial⟩, by repeat (first | exact agree_refl | (apply agree_upd rfl) | (apply agree_mix rfl) | (apply agree_sets rfl)), ⟨by omega, fun i hi => ?_, hw.tail⟩, by omega⟩
                  by_cases h : i = k
                  · subst h; exact hr3.1 rfl
                  · exact hnm i (by omega)
              · repeat (first | refine go_run ?_ | (refine go_newP ?_; clear hw; intro p w hw) | (refine go_newW ?_; clear hw; intro w hw) | (refine go_newS ?_; clear hw; intro s w hw))
                exact res_one (v := .nilIface) rfl rfl ⟨by rw [checkT_ok h1 hD hC hS hK hE fun i hi => hnm i (by omega)]; rfl, hw.tail⟩
end Go.Proofs.Ytoddgmmkpiojlaa
