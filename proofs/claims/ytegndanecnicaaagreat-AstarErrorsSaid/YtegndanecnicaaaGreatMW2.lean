/-
  Several texts as one: WTCheck3, WEq, WSameT, WTState.
-/
import Derived.Test.YtegndanecnicaaaGreatMW1
import Derived.Test.YtegndanecnicaaaGreatMTA
set_option linter.unusedSimpArgs false
set_option linter.unusedVariables false

/-
  Contract of 'task.Check'.
-/
namespace Go.Proofs.YtegndanecnicaaaGreat
open Go.Sl
attribute [local irreducible] vc opsW opsD opV opW PureV ReadV Thn Blk

theorem checkT_large {t : TTask} (h : LargeT t) : checkT t = 5 := by simp [checkT, h]
theorem checkT_dom {t : TTask} (h1 : ¬ LargeT t) (h2 : ¬ DomT t) : checkT t = 1 := by simp [checkT, h1, h2]
theorem checkT_cost {t : TTask} (h1 : ¬ LargeT t) (h2 : DomT t) (h3 : ¬ CostT t) : checkT t = 1 := by simp [checkT, h1, h2, h3]
theorem checkT_init {t : TTask} (h1 : ¬ LargeT t) (h2 : DomT t) (h3 : CostT t) (h4 : ¬ StateOk t.vars t.init) : checkT t = 2 := by simp [checkT, h1, h2, h3, h4]
theorem checkT_cond {t : TTask} (h1 : ¬ LargeT t) (h2 : DomT t) (h3 : CostT t) (h4 : StateOk t.vars t.init) (h5 : ¬ CondT t) : checkT t = 2 := by simp [checkT, h1, h2, h3, h4, h5]
theorem checkT_eff {t : TTask} (h1 : ¬ LargeT t) (h2 : DomT t) (h3 : CostT t) (h4 : StateOk t.vars t.init) (h5 : CondT t) (h6 : ¬ EffT t) : checkT t = 2 := by simp [checkT, h1, h2, h3, h4, h5, h6]
theorem checkT_name {t : TTask} (h1 : ¬ LargeT t) (h2 : DomT t) (h3 : CostT t) (h4 : StateOk t.vars t.init) (h5 : CondT t) (h6 : EffT t) (h7 : ¬ NamesT t) : checkT t = 8 := by simp [checkT, h1, h2, h3, h4, h5, h6, h7]
theorem checkT_ok {t : TTask} (h1 : ¬ LargeT t) (h2 : DomT t) (h3 : CostT t) (h4 : StateOk t.vars t.init) (h5 : CondT t) (h6 : EffT t) (h7 : NamesT t) : checkT t = 0 := by simp [checkT, h1, h2, h3, h4, h5, h6, h7]

set_option maxRecDepth 8000 in
set_option maxHeartbeats 4000000 in
theorem Check_spec {w0 : World} {a b c d : Value} {vs : List OpV} {t : TTask} (ht : RTask w0 a b c d vs t) :
    Calls Tryz.prog 16 #[.agg #[a, b, c, d]] w0 fun e w' => e = .returned (errV (checkT t)) ∧ Sat w0 w' [] := by
  have ht' := ht
  obtain ⟨ha, hb, hc, hd⟩ := ht
  have hrs := hd.rs
  have hdl := hd.len
  have hla := ha.big
  have hll := hrs.big
  have hw := Sat.start w0
  refine calls_of_vc (args := [.agg #[a, b, c, d]]) mixed Tryz.func16 rfl (by kernel_rfl) (Nat.le_of_ble_eq_true rfl) ?_
  repeat (first | refine go_run ?_ | (refine go_newP ?_; clear hw; intro p w hw) | (refine go_newW ?_; clear hw; intro w hw) | (refine go_newS ?_; clear hw; intro s w hw))
  obtain ⟨pt, hpt⟩ : ∃ pt, pt = p := ⟨p, rfl⟩
  subst hpt
  refine st_call rfl (large_spec (ht'.at hw)) ?_
  rintro _ w' ⟨⟨r, rfl, hr⟩, hk'⟩
  replace hw := hw.call0 hk'
  clear hk'
  refine ⟨_, rfl, ?_⟩
  cases r with
  | true =>
    repeat (first | refine go_run ?_ | (refine go_newP ?_; clear hw; intro p w hw) | (refine go_newW ?_; clear hw; intro w hw) | (refine go_newS ?_; clear hw; intro s w hw))
    exact res_one (v := .iface 85 (.int .i64 5)) rfl rfl ⟨by rw [checkT_large (hr.1 rfl)]; rfl, hw.tail⟩
  | false =>
    have h1 : ¬ LargeT t := fun h => by have := hr.2 h; cases this
    have h1a : t.ops.length ≤ 4096 := Nat.le_of_not_lt fun h => h1 (.inr (.inl h))
    have h1b : ∀ i, i < t.ops.length → (t.ops.getD i dOp).effs.length ≤ 64 := fun i hi => Nat.le_of_not_lt fun h => h1 (.inr (.inr (.inl ⟨i, hi, h⟩)))
    repeat (first | refine go_run ?_ | (refine go_newP ?_; clear hw; intro p w hw) | (refine go_newW ?_; clear hw; intro w hw) | (refine go_newS ?_; clear hw; intro s w hw))
    refine vc_loop [2, 4, 21, 22, 23, 24, 25, 26, 27, 28, 29, 30, 31, 32] (G := Nat) (fun k => [(21, .int .i64 k)]) (fun k w => k ≤ t.vars.length ∧ (∀ i, i < k → 1 ≤ t.vars.getD i tInt.dflt ∧ t.vars.getD i tInt.dflt ≤ 64) ∧ Sat w0 w [Box pt 26 [a, b, c, d]]) (fun k => t.vars.length - k) 0 (fun _ => rfl) ⟨rfl, trivial⟩ ⟨Nat.zero_le _, fun i hi => absurd hi (Nat.not_lt_zero _), hw⟩ ?_
    clear hw
    rintro σ k w ⟨hk, hdm, hw⟩
    repeat (first | refine go_run ?_ | (refine go_newP ?_; clear hw; intro p w hw) | (refine go_newW ?_; clear hw; intro w hw) | (refine go_newS ?_; clear hw; intro s w hw))
    refine go_if (fun h2 => ?_) (fun h2 => ?_)
    · repeat (first | refine go_run ?_ | (refine go_newP ?_; clear hw; intro p w hw) | (refine go_newW ?_; clear hw; intro w hw) | (refine go_newS ?_; clear hw; intro s w hw))
      refine go_if (fun h3 => ?_) (fun h3 => ?_)
      · repeat (first | refine go_run ?_ | (refine go_newP ?_; clear hw; intro p w hw) | (refine go_newW ?_; clear hw; intro w hw) | (refine go_newS ?_; clear hw; intro s w hw))
        have hno : ¬ DomT t := fun h => by have := h k (by omega); omega
        exact res_one (v := .iface 85 (.int .i64 1)) rfl rfl ⟨by rw [checkT_dom h1 hno]; rfl, hw.tail⟩
      · repeat (first | refine go_run ?_ | (refine go_newP ?_; clear hw; intro p w hw) | (refine go_newW ?_; clear hw; intro w hw) | (refine go_newS ?_; clear hw; intro s w hw))
        refine ⟨k + 1, ⟨rfl, trivial⟩, by repeat (first | exact agree_refl | (apply agree_upd rfl) | (apply agree_mix rfl) | (apply agree_sets rfl)), ⟨by omega, fun i hi => ?_, hw⟩, by omega⟩
        by_cases h : i = k
        · subst h; omega
        · exact hdm i (by omega)
    · have hD : DomT t := fun i hi => hdm i (by omega)
      clear hdm h2 hk
      repeat (first | refine go_run ?_ | (refine go_newP ?_; clear hw; intro p w hw) | (refine go_newW ?_; clear hw; intro w hw) | (refine go_newS ?_; clear hw; intro s w hw))
      refine vc_loop [2, 6, 36, 37, 38, 39, 40, 41, 42, 43, 44, 45, 46, 47, 48, 49] (G := Nat) (fun k => [(36, .int .i64 k)]) (fun k w => k ≤ t.ops.length ∧ (∀ i, i < k → 0 ≤ (t.ops.getD i dOp).cost ∧ (t.ops.getD i dOp).cost ≤ 1048576) ∧ Sat w0 w [Box pt 26 [a, b, c, d]]) (fun k => t.ops.length - k) 0 (fun _ => rfl) ⟨rfl, trivial⟩ ⟨Nat.zero_le _, fun i hi => absurd hi (Nat.not_lt_zero _), hw⟩ ?_
      clear hw
      rintro σ1 k w ⟨hk, hco, hw⟩
      repeat (first | refine go_run ?_ | (refine go_newP ?_; clear hw; intro p w hw) | (refine go_newW ?_; clear hw; intro w hw) | (refine go_newS ?_; clear hw; intro s w hw))
      refine go_if (fun h2 => ?_) (fun h2 => ?_)
      · have hop := hd.at_ k (by omega)
        have hone := hop.one
        have hcost := hop.cost
        repeat (first | refine go_run ?_ | (refine go_newP ?_; clear hw; intro p w hw) | (refine go_newW ?_; clear hw; intro w hw) | (refine go_newS ?_; clear hw; intro s w hw))
        refine go_if (fun h3 => ?_) (fun h3 => ?_)
        · repeat (first | refine go_run ?_ | (refine go_newP ?_; clear hw; intro p w hw) | (refine go_newW ?_; clear hw; intro w hw) | (refine go_newS ?_; clear hw; intro s w hw))
          have hno : ¬ CostT t := fun h => by have := h k (by omega); omega
          exact res_one (v := .iface 85 (.int .i64 1)) rfl rfl ⟨by rw [checkT_cost h1 hD hno]; rfl, hw.tail.tail⟩
        · repeat (first | refine go_run ?_ | (refine go_newP ?_; clear hw; intro p w hw) | (refine go_newW ?_; clear hw; intro w hw) | (refine go_newS ?_; clear hw; intro s w hw))
          refine ⟨k + 1, ⟨rfl, trivial⟩, by repeat (first | exact agree_refl | (apply agree_upd rfl) | (apply agree_mix rfl) | (apply agree_sets rfl)), ⟨by omega, fun i hi => ?_, hw.tail⟩, by omega⟩
          by_cases h : i = k
          · subst h; omega
          · exact hco i (by omega)
      · have hC : CostT t := fun i hi => hco i (by omega)
        clear hco h2 hk
        repeat (first | refine go_run ?_ | (refine go_newP ?_; clear hw; intro p w hw) | (refine go_newW ?_; clear hw; intro w hw) | (refine go_newS ?_; clear hw; intro s w hw))
        refine st_call rfl (tProper_spec (a := a) (b := b) (ha.at hw) (hb.at hw)) ?_
        rintro _ w' ⟨⟨r, rfl, hr2⟩, hk'⟩
        replace hw := hw.call0 hk'
        clear hk'
        refine ⟨_, rfl, ?_⟩
        cases r with
        | false =>
          repeat (first | refine go_run ?_ | (refine go_newP ?_; clear hw; intro p w hw) | (refine go_newW ?_; clear hw; intro w hw) | (refine go_newS ?_; clear hw; intro s w hw))
          have hno : ¬ StateOk t.vars t.init := fun h => by have := hr2.2 h; cases this
          exact res_one (v := .iface 85 (.int .i64 2)) rfl rfl ⟨by rw [checkT_init h1 hD hC hno]; rfl, hw.tail⟩
        | true =>
          have hS := hr2.1 rfl
          repeat (first | refine go_run ?_ | (refine go_newP ?_; clear hw; intro p w hw) | (refine go_newW ?_; clear hw; intro w hw) | (refine go_newS ?_; clear hw; intro s w hw))
          refine st_call rfl (conditions_spec ht' hw h1a h1b) ?_
          rintro _ w' ⟨s, cs, rfl, hcs, hk'⟩
          replace hw := hw.call1 hk'
          clear hk'
          have hcl := hcs.1
          have hcb := condsK_len t t.ops.length (Nat.le_refl _) h1b
          have hcd : (conds t).length = (condsK t t.ops.length).length := rfl
          refine ⟨_, rfl, ?_⟩
          repeat (first | refine go_run ?_ | (refine go_newP ?_; clear hw; intro p w hw) | (refine go_newW ?_; clear hw; intro w hw) | (refine go_newS ?_; clear hw; intro s w hw))
          refine vc_loop [2, 8, 60, 61, 62, 63, 64, 65, 66, 67, 68, 69, 70] (G := Nat) (fun k => [(60, .int .i64 k)]) (fun k w => k ≤ (conds t).length ∧ (∀ i, i < k → FactsOk t.vars ((conds t).getD i [])) ∧ Sat w0 w [OS tVal 23 s cs, Box pt 26 [a, b, c, d]]) (fun k => (conds t).length - k) 0 (fun _ => rfl) ⟨rfl, trivial⟩ ⟨Nat.zero_le _, fun i hi => absurd hi (Nat.not_lt_zero _), hw⟩ ?_
          clear hw
          rintro σ2 k w ⟨hk, hcn, hw⟩
          repeat (first | refine go_run ?_ | (refine go_newP ?_; clear hw; intro p w hw) | (refine go_newW ?_; clear hw; intro w hw) | (refine go_newS ?_; clear hw; intro s w hw))
          refine go_if (fun h2 => ?_) (fun h2 => ?_)
          · repeat (first | refine go_run ?_ | (refine go_newP ?_; clear hw; intro p w hw) | (refine go_newW ?_; clear hw; intro w hw) | (refine go_newS ?_; clear hw; intro s w hw))
            refine st_call rfl (tFacts_spec (a := a) (b := vget cs k) (ha.at hw) ((hcs.2 k (by omega)).at hw)) ?_
            rintro _ w' ⟨⟨r, rfl, hr3⟩, hk'⟩
            replace hw := hw.call0 hk'
            clear hk'
            refine ⟨_, rfl, ?_⟩
            cases r with
            | false =>
              repeat (first | refine go_run ?_ | (refine go_newP ?_; clear hw; intro p w hw) | (refine go_newW ?_; clear hw; intro w hw) | (refine go_newS ?_; clear hw; intro s w hw))
              have hno : ¬ CondT t := fun h => by have := hr3.2 (h k (by omega)); cases this
              exact res_one (v := .iface 85 (.int .i64 2)) rfl rfl ⟨by rw [checkT_cond h1 hD hC hS hno]; rfl, hw.tail.tail⟩
            | true =>
              repeat (first | refine go_run ?_ | (refine go_newP ?_; clear hw; intro p w hw) | (refine go_newW ?_; clear hw; intro w hw) | (refine go_newS ?_; clear hw; intro s w hw))
              refine ⟨k + 1, ⟨rfl, trivial⟩, by repeat (first | exact agree_refl | (apply agree_upd rfl) | (apply agree_mix rfl) | (apply agree_sets rfl)), ⟨by omega, fun i hi => ?_, hw⟩, by omega⟩
              by_cases h : i = k
              · subst h; exact hr3.1 rfl
              · exact hcn i (by omega)
          · have hK : CondT t := fun i hi => hcn i (by omega)
            replace hw := hw.tail
            clear hcn h2 hk hcl hcs
            repeat (first | refine go_run ?_ | (refine go_newP ?_; clear hw; intro p w hw) | (refine go_newW ?_; clear hw; intro w hw) | (refine go_newS ?_; clear hw; intro s w hw))
            refine vc_loop [2, 10, 12, 74, 75, 76, 77, 78, 79, 80, 81, 82, 83, 84, 85, 86, 87, 88, 89, 90, 91, 92, 93, 94, 95, 96, 97] (G := Nat) (fun k => [(74, .int .i64 k)]) (fun k w => k ≤ t.ops.length ∧ (∀ i, i < k → ∀ j, j < (t.ops.getD i dOp).effs.length → FactsOk t.vars [⟨((t.ops.getD i dOp).effs.getD j dEff).var, ((t.ops.getD i dOp).effs.getD j dEff).val⟩]) ∧ Sat w0 w [Box pt 26 [a, b, c, d]]) (fun k => t.ops.length - k) 0 (fun _ => rfl) ⟨rfl, trivial⟩ ⟨Nat.zero_le _, fun i hi => absurd hi (Nat.not_lt_zero _), hw⟩ ?_
            clear hw
            rintro σ3 k w ⟨hk, hef, hw⟩
            repeat (first | refine go_run ?_ | (refine go_newP ?_; clear hw; intro p w hw) | (refine go_newW ?_; clear hw; intro w hw) | (refine go_newS ?_; clear hw; intro s w hw))
            refine go_if (fun h2 => ?_) (fun h2 => ?_)
            · have hop := hd.at_ k (by omega)
              have hone := hop.one
              obtain ⟨es, hes⟩ := hop.effs
              have hers := hes.rs
              have hel := hes.len
              have heb := hers.big
              repeat (first | refine go_run ?_ | (refine go_newP ?_; clear hw; intro p w hw) | (refine go_newW ?_; clear hw; intro w hw) | (refine go_newS ?_; clear hw; intro s w hw))
              refine vc_loop [2, 12, 81, 82, 83, 84, 85, 86, 87, 88, 89, 90, 91, 92, 93, 94, 95, 96] (G := Nat) (fun j => [(81, .int .i64 j)]) (fun j w => j ≤ (t.ops.getD k dOp).effs.length ∧ (∀ i, i < j → FactsOk t.vars [⟨((t.ops.getD k dOp).effs.getD i dEff).var, ((t.ops.getD k dOp).effs.getD i dEff).val⟩]) ∧ Sat w0 w [Box pt 26 [a, b, c, d]]) (fun j => (t.ops.getD k dOp).effs.length - j) 0 (fun _ => rfl) ⟨rfl, trivial⟩ ⟨Nat.zero_le _, fun i hi => absurd hi (Nat.not_lt_zero _), hw.tail⟩ ?_
              clear hw
              rintro σ4 j w ⟨hj, hjf, hw⟩
              repeat (first | refine go_run ?_ | (refine go_newP ?_; clear hw; intro p w hw) | (refine go_newW ?_; clear hw; intro w hw) | (refine go_newS ?_; clear hw; intro s w hw))
              refine go_if (fun h3 => ?_) (fun h3 => ?_)
              · have hej := hes.at_ j (by omega)
                have hone2 := hej.one
                repeat (first | refine go_run ?_ | (refine go_newP ?_; clear hw; intro p w hw) | (refine go_newW ?_; clear hw; intro w hw) | (refine go_newS ?_; clear hw; intro s w hw))
                refine st_buildSlice1 tFact (x1 := ⟨(eget tEff es j).var, (eget tEff es j).val⟩) rfl rfl rfl (Nat.le_of_ble_eq_true rfl) (Nat.zero_lt_succ _) hw ?_
                clear hw
                intro s w hw
                repeat (first | refine go_run ?_ | (refine go_newP ?_; clear hw; intro p w hw) | (refine go_newW ?_; clear hw; intro w hw) | (refine go_newS ?_; clear hw; intro s w hw))
                refine st_call rfl (tFacts_spec (a := a) (b := s) (ha.at hw) (rsO hw)) ?_
                rintro _ w' ⟨⟨r, rfl, hr3⟩, hk'⟩
                replace hw := hw.call0 hk'
                clear hk'
                rw [hej.var, hej.val] at hr3
                refine ⟨_, rfl, ?_⟩
                cases r with
                | false =>
                  repeat (first | refine go_run ?_ | (refine go_newP ?_; clear hw; intro p w hw) | (refine go_newW ?_; clear hw; intro w hw) | (refine go_newS ?_; clear hw; intro s w hw))
                  have hno : ¬ EffT t := fun h => by have := hr3.2 (h k (by omega) j (by omega)); cases this
                  exact res_one (v := .iface 85 (.int .i64 2)) rfl rfl ⟨by rw [checkT_eff h1 hD hC hS hK hno]; rfl, hw.tail.tail.tail⟩
                | true =>
                  repeat (first | refine go_run ?_ | (refine go_newP ?_; clear hw; intro p w hw) | (refine go_newW ?_; clear hw; intro w hw) | (refine go_newS ?_; clear hw; intro s w hw))
                  refine ⟨j + 1, ⟨rfl, trivial⟩, by repeat (first | exact agree_refl | (apply agree_upd rfl) | (apply agree_mix rfl) | (apply agree_sets rfl)), ⟨by omega, fun i hi => ?_, hw.tail.tail⟩, by omega⟩
                  by_cases h : i = j
                  · subst h; exact hr3.1 rfl
                  · exact hjf i (by omega)
              · repeat (first | refine go_run ?_ | (refine go_newP ?_; clear hw; intro p w hw) | (refine go_newW ?_; clear hw; intro w hw) | (refine go_newS ?_; clear hw; intro s w hw))
                refine ⟨k + 1, ⟨rfl, trivial⟩, by repeat (first | exact agree_refl | (apply agree_upd rfl) | (apply agree_mix rfl) | (apply agree_sets rfl)), ⟨by omega, fun i hi => ?_, hw⟩, by omega⟩
                by_cases h : i = k
                · subst h; exact fun i' hi' => hjf i' (by omega)
                · exact hef i (by omega)
            · have hE : EffT t := fun i hi => hef i (by omega)
              clear hef h2 hk
              repeat (first | refine go_run ?_ | (refine go_newP ?_; clear hw; intro p w hw) | (refine go_newW ?_; clear hw; intro w hw) | (refine go_newS ?_; clear hw; intro s w hw))
              refine vc_loop [2, 14, 101, 102, 103, 104, 105, 106, 107, 108, 109, 110] (G := Nat) (fun k => [(101, .int .i64 k)]) (fun k w => k ≤ t.ops.length ∧ (∀ i, i < k → NameOk (t.ops.getD i dOp).name) ∧ Sat w0 w [Box pt 26 [a, b, c, d]]) (fun k => t.ops.length - k) 0 (fun _ => rfl) ⟨rfl, trivial⟩ ⟨Nat.zero_le _, fun i hi => absurd hi (Nat.not_lt_zero _), hw⟩ ?_
              clear hw
              rintro σ4 k w ⟨hk, hnm, hw⟩
              repeat (first | refine go_run ?_ | (refine go_newP ?_; clear hw; intro p w hw) | (refine go_newW ?_; clear hw; intro w hw) | (refine go_newS ?_; clear hw; intro s w hw))
              refine go_if (fun h2 => ?_) (fun h2 => ?_)
              · have hop := hd.at_ k (by omega)
                have hone := hop.one
                repeat (first | refine go_run ?_ | (refine go_newP ?_; clear hw; intro p w hw) | (refine go_newW ?_; clear hw; intro w hw) | (refine go_newS ?_; clear hw; intro s w hw))
                refine st_call rfl (named_spec (b := (eget tOp vs k).name) (by rw [hop.name]; exact hop.size)) ?_
                rintro _ w' ⟨⟨r, rfl, hr3⟩, hk'⟩
                replace hw := hw.call0 hk'
                clear hk'
                rw [hop.name] at hr3
                refine ⟨_, rfl, ?_⟩
                cases r with
                | false =>
                  repeat (first | refine go_run ?_ | (refine go_newP ?_; clear hw; intro p w hw) | (refine go_newW ?_; clear hw; intro w hw) | (refine go_newS ?_; clear hw; intro s w hw))
                  have hno : ¬ NamesT t := fun h => by have := hr3.2 (h k (by omega)); cases this
                  exact res_one (v := .iface 85 (.int .i64 8)) rfl rfl ⟨by rw [checkT_name h1 hD hC hS hK hE hno]; rfl, hw.tail.tail⟩
                | true =>
                  repeat (first | refine go_run ?_ | (refine go_newP ?_; clear hw; intro p w hw) | (refine go_newW ?_; clear hw; intro w hw) | (refine go_newS ?_; clear hw; intro s w hw))
                  refine ⟨k + 1, ⟨rfl, trivial⟩, by repeat (first | exact agree_refl | (apply agree_upd rfl) | (apply agree_mix rfl) | (apply agree_sets rfl)), ⟨by omega, fun i hi => ?_, hw.tail⟩, by omega⟩
                  by_cases h : i = k
                  · subst h; exact hr3.1 rfl
                  · exact hnm i (by omega)
              · repeat (first | refine go_run ?_ | (refine go_newP ?_; clear hw; intro p w hw) | (refine go_newW ?_; clear hw; intro w hw) | (refine go_newS ?_; clear hw; intro s w hw))
                exact res_one (v := .nilIface) rfl rfl ⟨by rw [checkT_ok h1 hD hC hS hK hE fun i hi => hnm i (by omega)]; rfl, hw.tail⟩
end Go.Proofs.YtegndanecnicaaaGreat

/-
  Contracts of 'slices.Equal' over ints and facts, and of 'idastar.key'.
-/
namespace Go.Proofs.YtegndanecnicaaaGreat
open Go.Sl Go
attribute [local irreducible] vc opsW opsD opV opW PureV ReadV Thn Blk
theorem list_eq {α : Type} {d : α} {A B : List α} (hl : A.length = B.length) (h : ∀ i, i < A.length → A.getD i d = B.getD i d) : A = B := by
  apply List.ext_getElem hl
  intro i h1 h2
  have := h i h1
  rwa [getD_at h1, getD_at h2] at this
instance : IntT Tryz.prog 5 .u8 := ⟨by kernel_rfl⟩
instance : IntT Tryz.prog 3 .i64 := ⟨by kernel_rfl⟩
theorem fact_ext {x y : Fact} (h1 : x.var = y.var) (h2 : x.val = y.val) : x = y := by cases x; cases y; simp_all
instance : EqIntsT Tryz.prog 92 2 := ⟨by kernel_rfl⟩
set_option maxRecDepth 8000 in
set_option maxHeartbeats 2000000 in
theorem EqualF_spec {w0 : World} {xa xb : Value} {A B : List Fact} (hA : RS tFact w0 xa A) (hB : RS tFact w0 xb B) :
    Calls Tryz.prog 92 #[xa, xb] w0 fun e w' => (∃ r, e = .returned (.bool r) ∧ (r = true ↔ A = B)) ∧ Sat w0 w' [] := by
  have hAb := hA.big
  have hBb := hB.big
  have hw := Sat.start w0
  refine calls_of_vc (args := [xa, xb]) mixed Tryz.func92 rfl (by kernel_rfl) (Nat.le_of_ble_eq_true rfl) ?_
  repeat (first | refine go_run ?_ | (refine go_newP ?_; clear hw; intro p w hw) | (refine go_newW ?_; clear hw; intro w hw) | (refine go_newS ?_; clear hw; intro s w hw))
  refine go_if (fun h1 => ?_) (fun h1 => ?_)
  · repeat (first | refine go_run ?_ | (refine go_newP ?_; clear hw; intro p w hw) | (refine go_newW ?_; clear hw; intro w hw) | (refine go_newS ?_; clear hw; intro s w hw))
    exact res_one (v := .bool false) rfl rfl ⟨⟨false, rfl, iffF fun e => by rw [e] at h1; omega⟩, hw.sel⟩
  repeat (first | refine go_run ?_ | (refine go_newP ?_; clear hw; intro p w hw) | (refine go_newW ?_; clear hw; intro w hw) | (refine go_newS ?_; clear hw; intro s w hw))
  refine vc_loop [4, 5, 13, 14, 15, 16, 17, 18, 19, 20, 21, 22, 23, 24, 25] (G := Nat) (fun i => [(13, .int .i64 i)]) (fun i w => i ≤ A.length ∧ (∀ m, m < i → A.getD m tFact.dflt = B.getD m tFact.dflt) ∧ Sat w0 w []) (fun i => A.length - i) 0 (fun _ => rfl) ⟨rfl, trivial⟩ ⟨Nat.zero_le _, fun i hi => absurd hi (Nat.not_lt_zero _), hw.sel⟩ ?_
  clear hw
  rintro σ i w ⟨hi, hno, hw⟩
  repeat (first | refine go_run ?_ | (refine go_newP ?_; clear hw; intro p w hw) | (refine go_newW ?_; clear hw; intro w hw) | (refine go_newS ?_; clear hw; intro s w hw))
  refine go_if (fun h2 => ?_) (fun h2 => ?_)
  · have hil : i < A.length := by omega
    repeat (first | refine go_run ?_ | (refine go_newP ?_; clear hw; intro p w hw) | (refine go_newW ?_; clear hw; intro w hw) | (refine go_newS ?_; clear hw; intro s w hw))
    refine step_pure rfl (pv_neqInts (us := [(A.getD i tFact.dflt).var, (A.getD i tFact.dflt).val]) (zs := [(B.getD i tFact.dflt).var, (B.getD i tFact.dflt).val]) rfl rfl rfl rfl) ?_
    by_cases h3 : A.getD i tFact.dflt = B.getD i tFact.dflt
    · have hd : decide ([(A.getD i tFact.dflt).var, (A.getD i tFact.dflt).val] = [(B.getD i tFact.dflt).var, (B.getD i tFact.dflt).val]) = true := decide_eq_true (by rw [h3])
      repeat (first | refine go_runC ?_ | (refine go_newP ?_; clear hw; intro p w hw) | (refine go_newW ?_; clear hw; intro w hw) | (refine go_newS ?_; clear hw; intro s w hw))
      simp only [hd, Bool.not_true]
      repeat (first | refine go_run ?_ | (refine go_newP ?_; clear hw; intro p w hw) | (refine go_newW ?_; clear hw; intro w hw) | (refine go_newS ?_; clear hw; intro s w hw))
      refine ⟨i + 1, ⟨rfl, trivial⟩, by repeat (first | exact agree_refl | (apply agree_upd rfl) | (apply agree_mix rfl) | (apply agree_sets rfl)), ⟨by omega, fun m hm => ?_, hw.sel⟩, by omega⟩
      by_cases e : m = i
      · subst e; exact h3
      · exact hno m (by omega)
    · have hd : decide ([(A.getD i tFact.dflt).var, (A.getD i tFact.dflt).val] = [(B.getD i tFact.dflt).var, (B.getD i tFact.dflt).val]) = false := decide_eq_false fun e => h3 (by
        injection e with e1 e2
        injection e2 with e2 _
        exact fact_ext e1 e2)
      repeat (first | refine go_runC ?_ | (refine go_newP ?_; clear hw; intro p w hw) | (refine go_newW ?_; clear hw; intro w hw) | (refine go_newS ?_; clear hw; intro s w hw))
      simp only [hd, Bool.not_false]
      repeat (first | refine go_run ?_ | (refine go_newP ?_; clear hw; intro p w hw) | (refine go_newW ?_; clear hw; intro w hw) | (refine go_newS ?_; clear hw; intro s w hw))
      exact res_one (v := .bool false) rfl rfl ⟨⟨false, rfl, iffF fun e => h3 (by rw [e])⟩, hw.sel⟩
  have hie : i = A.length := by omega
  subst hie
  repeat (first | refine go_run ?_ | (refine go_newP ?_; clear hw; intro p w hw) | (refine go_newW ?_; clear hw; intro w hw) | (refine go_newS ?_; clear hw; intro s w hw))
  exact res_one (v := .bool true) rfl rfl ⟨⟨true, rfl, iffT (list_eq (by omega) hno)⟩, hw.sel⟩
set_option maxRecDepth 8000 in
set_option maxHeartbeats 2000000 in
theorem EqualI_spec {w0 : World} {xa xb : Value} {A B : List Int} (hA : RS tInt w0 xa A) (hB : RS tInt w0 xb B) :
    Calls Tryz.prog 91 #[xa, xb] w0 fun e w' => (∃ r, e = .returned (.bool r) ∧ (r = true ↔ A = B)) ∧ Sat w0 w' [] := by
  have hAb := hA.big
  have hBb := hB.big
  have hw := Sat.start w0
  refine calls_of_vc (args := [xa, xb]) mixed Tryz.func91 rfl (by kernel_rfl) (Nat.le_of_ble_eq_true rfl) ?_
  repeat (first | refine go_run ?_ | (refine go_newP ?_; clear hw; intro p w hw) | (refine go_newW ?_; clear hw; intro w hw) | (refine go_newS ?_; clear hw; intro s w hw))
  refine go_if (fun h1 => ?_) (fun h1 => ?_)
  · repeat (first | refine go_run ?_ | (refine go_newP ?_; clear hw; intro p w hw) | (refine go_newW ?_; clear hw; intro w hw) | (refine go_newS ?_; clear hw; intro s w hw))
    exact res_one (v := .bool false) rfl rfl ⟨⟨false, rfl, iffF fun e => by rw [e] at h1; omega⟩, hw.sel⟩
  repeat (first | refine go_run ?_ | (refine go_newP ?_; clear hw; intro p w hw) | (refine go_newW ?_; clear hw; intro w hw) | (refine go_newS ?_; clear hw; intro s w hw))
  refine vc_loop [4, 5, 13, 14, 15, 16, 17, 18, 19, 20, 21, 22, 23, 24, 25] (G := Nat) (fun i => [(13, .int .i64 i)]) (fun i w => i ≤ A.length ∧ (∀ m, m < i → A.getD m tInt.dflt = B.getD m tInt.dflt) ∧ Sat w0 w []) (fun i => A.length - i) 0 (fun _ => rfl) ⟨rfl, trivial⟩ ⟨Nat.zero_le _, fun i hi => absurd hi (Nat.not_lt_zero _), hw.sel⟩ ?_
  clear hw
  rintro σ i w ⟨hi, hno, hw⟩
  repeat (first | refine go_run ?_ | (refine go_newP ?_; clear hw; intro p w hw) | (refine go_newW ?_; clear hw; intro w hw) | (refine go_newS ?_; clear hw; intro s w hw))
  refine go_if (fun h2 => ?_) (fun h2 => ?_)
  · have hil : i < A.length := by omega
    repeat (first | refine go_run ?_ | (refine go_newP ?_; clear hw; intro p w hw) | (refine go_newW ?_; clear hw; intro w hw) | (refine go_newS ?_; clear hw; intro s w hw))
    refine go_if (fun h3 => ?_) (fun h3 => ?_)
    · repeat (first | refine go_run ?_ | (refine go_newP ?_; clear hw; intro p w hw) | (refine go_newW ?_; clear hw; intro w hw) | (refine go_newS ?_; clear hw; intro s w hw))
      exact res_one (v := .bool false) rfl rfl ⟨⟨false, rfl, iffF fun e => by rw [e] at h3; exact h3 rfl⟩, hw.sel⟩
    · repeat (first | refine go_run ?_ | (refine go_newP ?_; clear hw; intro p w hw) | (refine go_newW ?_; clear hw; intro w hw) | (refine go_newS ?_; clear hw; intro s w hw))
      refine ⟨i + 1, ⟨rfl, trivial⟩, by repeat (first | exact agree_refl | (apply agree_upd rfl) | (apply agree_mix rfl) | (apply agree_sets rfl)), ⟨by omega, fun m hm => ?_, hw.sel⟩, by omega⟩
      by_cases e : m = i
      · subst e; exact h3
      · exact hno m (by omega)
  have hie : i = A.length := by omega
  subst hie
  repeat (first | refine go_run ?_ | (refine go_newP ?_; clear hw; intro p w hw) | (refine go_newW ?_; clear hw; intro w hw) | (refine go_newS ?_; clear hw; intro s w hw))
  exact res_one (v := .bool true) rfl rfl ⟨⟨true, rfl, iffT (list_eq (by omega) hno)⟩, hw.sel⟩
end Go.Proofs.YtegndanecnicaaaGreat

/-
  Contracts of 'estimate.sameEffect' and what compares lists of them.
-/
namespace Go.Proofs.YtegndanecnicaaaGreat
open Go.Sl Go
attribute [local irreducible] vc opsW opsD opV opW PureV ReadV Thn Blk
theorem beq_tfI : (true == false) = false := rfl
theorem beq_ftI : (false == true) = false := rfl
theorem gv_fI (v : Value) : gv false v = undef := by unfold gv; rfl
theorem gv_tI (v : Value) : gv true v = v := gv_true rfl
theorem reff_at {w0 w : World} {Γ : List HP} {v : EffV} {e : Eff} (h : REff w0 v e) (hw : Sat w0 w Γ) : REff w v e := ⟨h.var, h.val, h.when.at hw⟩
theorem reffs_at {w0 w : World} {Γ : List HP} {s : Value} {vs : List EffV} {es : List Eff} (h : REffs w0 s vs es) (hw : Sat w0 w Γ) : REffs w s vs es := ⟨h.rs.at hw, h.len, fun i hi => reff_at (h.at_ i hi) hw⟩
theorem eff_ext {x y : Eff} (h1 : x.var = y.var) (h2 : x.val = y.val) (h3 : x.when = y.when) : x = y := by cases x; cases y; simp_all
set_option maxRecDepth 8000 in
set_option maxHeartbeats 2000000 in
theorem sameEffect_spec {w0 : World} {x y : EffV} {ex ey : Eff} (hx : REff w0 x ex) (hy : REff w0 y ey) :
    Calls Tryz.prog 106 #[.agg (tEff.enc x).toArray, .agg (tEff.enc y).toArray] w0 fun e w' => (∃ r, e = .returned (.bool r) ∧ (r = true ↔ ex = ey)) ∧ Sat w0 w' [] := by
  have ox := hx.one
  have oy := hy.one
  have vx := hx.var
  have vy := hy.var
  have lx := hx.val
  have ly := hy.val
  have hwx := hx.when
  have hwy := hy.when
  have hw := Sat.start w0
  refine calls_of_vc (args := [.agg (tEff.enc x).toArray, .agg (tEff.enc y).toArray]) mixed Tryz.func106 rfl (by kernel_rfl) (Nat.le_of_ble_eq_true rfl) ?_
  by_cases h1 : x.var = y.var
  rotate_left
  · have hd1 : decide (x.var = y.var) = false := decide_eq_false h1
    repeat (first | refine go_run ?_ | (refine go_newP ?_; clear hw; intro p w hw) | (refine go_newWr ?_; clear hw; intro w hw) | (refine go_newS ?_; clear hw; intro s w hw))
    simp only [hd1, beq_self_eq_true, beq_tfI, beq_ftI, Bool.false_and, Bool.true_and, Bool.not_true, Bool.not_false, Bool.cond_true, Bool.cond_false, gv_fI, gv_tI]
    repeat (first | refine go_run ?_ | (refine go_newP ?_; clear hw; intro p w hw) | (refine go_newWr ?_; clear hw; intro w hw) | (refine go_newS ?_; clear hw; intro s w hw))
    exact res_one (v := .bool false) rfl rfl ⟨⟨false, rfl, iffF fun e => h1 (by rw [vx, vy, e])⟩, hw.sel⟩
  have hd1 : decide (x.var = y.var) = true := decide_eq_true h1
  by_cases h2 : x.val = y.val
  rotate_left
  · have hd2 : decide (x.val = y.val) = false := decide_eq_false h2
    repeat (first | refine go_run ?_ | (refine go_newP ?_; clear hw; intro p w hw) | (refine go_newWr ?_; clear hw; intro w hw) | (refine go_newS ?_; clear hw; intro s w hw))
    simp only [hd1, hd2, beq_self_eq_true, beq_tfI, beq_ftI, Bool.false_and, Bool.true_and, Bool.not_true, Bool.not_false, Bool.cond_true, Bool.cond_false, gv_fI, gv_tI]
    repeat (first | refine go_run ?_ | (refine go_newP ?_; clear hw; intro p w hw) | (refine go_newWr ?_; clear hw; intro w hw) | (refine go_newS ?_; clear hw; intro s w hw))
    exact res_one (v := .bool false) rfl rfl ⟨⟨false, rfl, iffF fun e => h2 (by rw [lx, ly, e])⟩, hw.sel⟩
  have hd2 : decide (x.val = y.val) = true := decide_eq_true h2
  repeat (first | refine go_run ?_ | (refine go_newP ?_; clear hw; intro p w hw) | (refine go_newWr ?_; clear hw; intro w hw) | (refine go_newS ?_; clear hw; intro s w hw))
  simp only [hd1, hd2, beq_self_eq_true, beq_tfI, beq_ftI, Bool.false_and, Bool.true_and, Bool.not_true, Bool.not_false, Bool.cond_true, Bool.cond_false, gv_fI, gv_tI]
  repeat (first | refine go_run ?_ | (refine go_newP ?_; clear hw; intro p w hw) | (refine go_newWr ?_; clear hw; intro w hw) | (refine go_newS ?_; clear hw; intro s w hw))
  refine st_call rfl (EqualF_spec (hwx.at hw) (hwy.at hw)) ?_
  rintro _ w' ⟨⟨r, rfl, hr⟩, hk'⟩
  replace hw := hw.call0 hk'
  clear hk'
  refine ⟨_, rfl, ?_⟩
  repeat (first | refine go_run ?_ | (refine go_newP ?_; clear hw; intro p w hw) | (refine go_newWr ?_; clear hw; intro w hw) | (refine go_newS ?_; clear hw; intro s w hw))
  exact res_one (v := .bool r) rfl rfl ⟨⟨r, rfl, hr.trans ⟨fun h => eff_ext (by rw [← vx, ← vy, h1]) (by rw [← lx, ← ly, h2]) h, fun h => by rw [h]⟩⟩, hw.sel⟩
set_option maxRecDepth 8000 in
set_option maxHeartbeats 2000000 in
theorem EqEffs_spec {w0 : World} {xa xb : Value} {va vb : List EffV} {A B : List Eff} (hA : REffs w0 xa va A) (hB : REffs w0 xb vb B) :
    Calls Tryz.prog 105 #[xa, xb, .func (.func 106) #[] #[]] w0 fun e w' => (∃ r, e = .returned (.bool r) ∧ (r = true ↔ A = B)) ∧ Sat w0 w' [] := by
  have hAr := hA.rs
  have hBr := hB.rs
  have hAl := hA.len
  have hBl := hB.len
  have hAb := hAr.big
  have hBb := hBr.big
  have hw := Sat.start w0
  refine calls_of_vc (args := [xa, xb, .func (.func 106) #[] #[]]) mixed Tryz.func105 rfl (by kernel_rfl) (Nat.le_of_ble_eq_true rfl) ?_
  repeat (first | refine go_run ?_ | (refine go_newP ?_; clear hw; intro p w hw) | (refine go_newW ?_; clear hw; intro w hw) | (refine go_newS ?_; clear hw; intro s w hw))
  refine go_if (fun h1 => ?_) (fun h1 => ?_)
  · repeat (first | refine go_run ?_ | (refine go_newP ?_; clear hw; intro p w hw) | (refine go_newW ?_; clear hw; intro w hw) | (refine go_newS ?_; clear hw; intro s w hw))
    exact res_one (v := .bool false) rfl rfl ⟨⟨false, rfl, iffF fun e => by rw [e] at hAl; omega⟩, hw.sel⟩
  repeat (first | refine go_run ?_ | (refine go_newP ?_; clear hw; intro p w hw) | (refine go_newW ?_; clear hw; intro w hw) | (refine go_newS ?_; clear hw; intro s w hw))
  refine vc_loop [6, 7, 8, 9, 17, 18, 19, 20, 21, 22, 23, 24, 25, 26, 27, 28, 29, 30, 31] (G := Nat) (fun i => [(17, .int .i64 i)]) (fun i w => i ≤ A.length ∧ (∀ m, m < i → A.getD m dEff = B.getD m dEff) ∧ Sat w0 w []) (fun i => A.length - i) 0 (fun _ => rfl) ⟨rfl, trivial⟩ ⟨Nat.zero_le _, fun i hi => absurd hi (Nat.not_lt_zero _), hw.sel⟩ ?_
  clear hw
  rintro σ i w ⟨hi, hno, hw⟩
  repeat (first | refine go_run ?_ | (refine go_newP ?_; clear hw; intro p w hw) | (refine go_newW ?_; clear hw; intro w hw) | (refine go_newS ?_; clear hw; intro s w hw))
  refine go_if (fun h2 => ?_) (fun h2 => ?_)
  · have hil : i < A.length := by omega
    have hea := hA.at_ i hil
    have heb := hB.at_ i (by omega)
    have oa := hea.one
    have ob := heb.one
    repeat (first | refine go_run ?_ | (refine go_newP ?_; clear hw; intro p w hw) | (refine go_newW ?_; clear hw; intro w hw) | (refine go_newS ?_; clear hw; intro s w hw))
    refine st_callF (cs := []) rfl rfl (sameEffect_spec (reff_at hea hw) (reff_at heb hw)) ?_
    rintro _ w' ⟨⟨r, rfl, hr⟩, hk'⟩
    replace hw := hw.call0 hk'
    clear hk'
    refine ⟨_, rfl, ?_⟩
    cases r
    · repeat (first | refine go_run ?_ | (refine go_newP ?_; clear hw; intro p w hw) | (refine go_newW ?_; clear hw; intro w hw) | (refine go_newS ?_; clear hw; intro s w hw))
      exact res_one (v := .bool false) rfl rfl ⟨⟨false, rfl, iffF fun e => by have := hr.2 (by rw [e]); cases this⟩, hw.sel⟩
    · repeat (first | refine go_run ?_ | (refine go_newP ?_; clear hw; intro p w hw) | (refine go_newW ?_; clear hw; intro w hw) | (refine go_newS ?_; clear hw; intro s w hw))
      refine ⟨i + 1, ⟨rfl, trivial⟩, by repeat (first | exact agree_refl | (apply agree_upd rfl) | (apply agree_mix rfl) | (apply agree_sets rfl)), ⟨by omega, fun m hm => ?_, hw.sel⟩, by omega⟩
      by_cases e : m = i
      · subst e; exact hr.1 rfl
      · exact hno m (by omega)
  have hie : i = A.length := by omega
  subst hie
  repeat (first | refine go_run ?_ | (refine go_newP ?_; clear hw; intro p w hw) | (refine go_newW ?_; clear hw; intro w hw) | (refine go_newS ?_; clear hw; intro s w hw))
  exact res_one (v := .bool true) rfl rfl ⟨⟨true, rfl, iffT (list_eq (by omega) hno)⟩, hw.sel⟩
theorem op_ext {x y : TOp} (h1 : x.name = y.name) (h2 : x.cost = y.cost) (h3 : x.pre = y.pre) (h4 : x.effs = y.effs) : x = y := by cases x; cases y; simp_all
set_option maxRecDepth 8000 in
set_option maxHeartbeats 2000000 in
theorem sameOp_spec {w0 : World} {x y : OpV} {ox oy : TOp} (hx : ROp w0 x ox) (hy : ROp w0 y oy) :
    Calls Tryz.prog 94 #[.agg (tOp.enc x).toArray, .agg (tOp.enc y).toArray] w0 fun e w' => (∃ r, e = .returned (.bool r) ∧ (r = true ↔ ox = oy)) ∧ Sat w0 w' [] := by
  have ax := hx.one
  have ay := hy.one
  have hw := Sat.start w0
  refine calls_of_vc (args := [.agg (tOp.enc x).toArray, .agg (tOp.enc y).toArray]) mixed Tryz.func94 rfl (by kernel_rfl) (Nat.le_of_ble_eq_true rfl) ?_
  have nx := hx.name
  have ny := hy.name
  have kx := hx.cost
  have ky := hy.cost
  have px := hx.pre
  have py := hy.pre
  obtain ⟨ex, hex⟩ := hx.effs
  obtain ⟨ey, hey⟩ := hy.effs
  repeat (first | refine go_run ?_ | (refine go_newP ?_; clear hw; intro p w hw) | (refine go_newWr ?_; clear hw; intro w hw) | (refine go_newS ?_; clear hw; intro s w hw))
  refine step_pure rfl (pv_eqlStr (a := x.name) (b := y.name) rfl rfl) ?_
  by_cases h1 : x.name = y.name
  rotate_left
  · have hd1 : decide (x.name = y.name) = false := decide_eq_false h1
    repeat (first | refine go_run ?_ | (refine go_newP ?_; clear hw; intro p w hw) | (refine go_newWr ?_; clear hw; intro w hw) | (refine go_newS ?_; clear hw; intro s w hw))
    simp only [hd1, beq_self_eq_true, beq_tfI, beq_ftI, Bool.false_and, Bool.true_and, Bool.not_true, Bool.not_false, Bool.cond_true, Bool.cond_false, gv_fI, gv_tI]
    repeat (first | refine go_run ?_ | (refine go_newP ?_; clear hw; intro p w hw) | (refine go_newWr ?_; clear hw; intro w hw) | (refine go_newS ?_; clear hw; intro s w hw))
    exact res_one (v := .bool false) rfl rfl ⟨⟨false, rfl, iffF fun e => h1 (by rw [nx, ny, e])⟩, hw.sel⟩
  have hd1 : decide (x.name = y.name) = true := decide_eq_true h1
  by_cases h2 : x.cost = y.cost
  rotate_left
  · have hd2 : decide (x.cost = y.cost) = false := decide_eq_false h2
    repeat (first | refine go_run ?_ | (refine go_newP ?_; clear hw; intro p w hw) | (refine go_newWr ?_; clear hw; intro w hw) | (refine go_newS ?_; clear hw; intro s w hw))
    simp only [hd1, hd2, beq_self_eq_true, beq_tfI, beq_ftI, Bool.false_and, Bool.true_and, Bool.not_true, Bool.not_false, Bool.cond_true, Bool.cond_false, gv_fI, gv_tI]
    repeat (first | refine go_run ?_ | (refine go_newP ?_; clear hw; intro p w hw) | (refine go_newWr ?_; clear hw; intro w hw) | (refine go_newS ?_; clear hw; intro s w hw))
    exact res_one (v := .bool false) rfl rfl ⟨⟨false, rfl, iffF fun e => h2 (by rw [kx, ky, e])⟩, hw.sel⟩
  have hd2 : decide (x.cost = y.cost) = true := decide_eq_true h2
  repeat (first | refine go_run ?_ | (refine go_newP ?_; clear hw; intro p w hw) | (refine go_newWr ?_; clear hw; intro w hw) | (refine go_newS ?_; clear hw; intro s w hw))
  simp only [hd1, hd2, beq_self_eq_true, beq_tfI, beq_ftI, Bool.false_and, Bool.true_and, Bool.not_true, Bool.not_false, Bool.cond_true, Bool.cond_false, gv_fI, gv_tI]
  repeat (first | refine go_run ?_ | (refine go_newP ?_; clear hw; intro p w hw) | (refine go_newWr ?_; clear hw; intro w hw) | (refine go_newS ?_; clear hw; intro s w hw))
  refine st_call rfl (EqualF_spec (px.at hw) (py.at hw)) ?_
  rintro _ w' ⟨⟨r, rfl, hr⟩, hk'⟩
  replace hw := hw.call0 hk'
  clear hk'
  refine ⟨_, rfl, ?_⟩
  cases r
  · repeat (first | refine go_run ?_ | (refine go_newP ?_; clear hw; intro p w hw) | (refine go_newWr ?_; clear hw; intro w hw) | (refine go_newS ?_; clear hw; intro s w hw))
    exact res_one (v := .bool false) rfl rfl ⟨⟨false, rfl, iffF fun e => by have := hr.2 (by rw [e]); cases this⟩, hw.sel⟩
  repeat (first | refine go_run ?_ | (refine go_newP ?_; clear hw; intro p w hw) | (refine go_newWr ?_; clear hw; intro w hw) | (refine go_newS ?_; clear hw; intro s w hw))
  refine st_call rfl (EqEffs_spec (reffs_at hex hw) (reffs_at hey hw)) ?_
  rintro _ w' ⟨⟨r2, rfl, hr2⟩, hk'⟩
  replace hw := hw.call0 hk'
  clear hk'
  refine ⟨_, rfl, ?_⟩
  repeat (first | refine go_run ?_ | (refine go_newP ?_; clear hw; intro p w hw) | (refine go_newWr ?_; clear hw; intro w hw) | (refine go_newS ?_; clear hw; intro s w hw))
  exact res_one (v := .bool r2) rfl rfl ⟨⟨r2, rfl, hr2.trans ⟨fun h => op_ext (by rw [← nx, ← ny, h1]) (by rw [← kx, ← ky, h2]) (hr.1 rfl) h, fun h => by rw [h]⟩⟩, hw.sel⟩
set_option maxRecDepth 8000 in
set_option maxHeartbeats 2000000 in
theorem EqOps_spec {w0 : World} {xa xb : Value} {va vb : List OpV} {A B : List TOp} (hA : ROps w0 xa va A) (hB : ROps w0 xb vb B) :
    Calls Tryz.prog 93 #[xa, xb, .func (.func 94) #[] #[]] w0 fun e w' => (∃ r, e = .returned (.bool r) ∧ (r = true ↔ A = B)) ∧ Sat w0 w' [] := by
  have hAr := hA.rs
  have hBr := hB.rs
  have hAl := hA.len
  have hBl := hB.len
  have hAb := hAr.big
  have hBb := hBr.big
  have hw := Sat.start w0
  refine calls_of_vc (args := [xa, xb, .func (.func 94) #[] #[]]) mixed Tryz.func93 rfl (by kernel_rfl) (Nat.le_of_ble_eq_true rfl) ?_
  repeat (first | refine go_run ?_ | (refine go_newP ?_; clear hw; intro p w hw) | (refine go_newW ?_; clear hw; intro w hw) | (refine go_newS ?_; clear hw; intro s w hw))
  refine go_if (fun h1 => ?_) (fun h1 => ?_)
  · repeat (first | refine go_run ?_ | (refine go_newP ?_; clear hw; intro p w hw) | (refine go_newW ?_; clear hw; intro w hw) | (refine go_newS ?_; clear hw; intro s w hw))
    exact res_one (v := .bool false) rfl rfl ⟨⟨false, rfl, iffF fun e => by rw [e] at hAl; omega⟩, hw.sel⟩
  repeat (first | refine go_run ?_ | (refine go_newP ?_; clear hw; intro p w hw) | (refine go_newW ?_; clear hw; intro w hw) | (refine go_newS ?_; clear hw; intro s w hw))
  refine vc_loop [6, 7, 8, 9, 17, 18, 19, 20, 21, 22, 23, 24, 25, 26, 27, 28, 29, 30, 31] (G := Nat) (fun i => [(17, .int .i64 i)]) (fun i w => i ≤ A.length ∧ (∀ m, m < i → A.getD m dOp = B.getD m dOp) ∧ Sat w0 w []) (fun i => A.length - i) 0 (fun _ => rfl) ⟨rfl, trivial⟩ ⟨Nat.zero_le _, fun i hi => absurd hi (Nat.not_lt_zero _), hw.sel⟩ ?_
  clear hw
  rintro σ i w ⟨hi, hno, hw⟩
  repeat (first | refine go_run ?_ | (refine go_newP ?_; clear hw; intro p w hw) | (refine go_newW ?_; clear hw; intro w hw) | (refine go_newS ?_; clear hw; intro s w hw))
  refine go_if (fun h2 => ?_) (fun h2 => ?_)
  · have hil : i < A.length := by omega
    have hea := hA.at_ i hil
    have heb := hB.at_ i (by omega)
    have oa := hea.one
    have ob := heb.one
    repeat (first | refine go_run ?_ | (refine go_newP ?_; clear hw; intro p w hw) | (refine go_newW ?_; clear hw; intro w hw) | (refine go_newS ?_; clear hw; intro s w hw))
    refine st_callF (cs := []) rfl rfl (sameOp_spec (hea.at hw) (heb.at hw)) ?_
    rintro _ w' ⟨⟨r, rfl, hr⟩, hk'⟩
    replace hw := hw.call0 hk'
    clear hk'
    refine ⟨_, rfl, ?_⟩
    cases r
    · repeat (first | refine go_run ?_ | (refine go_newP ?_; clear hw; intro p w hw) | (refine go_newW ?_; clear hw; intro w hw) | (refine go_newS ?_; clear hw; intro s w hw))
      exact res_one (v := .bool false) rfl rfl ⟨⟨false, rfl, iffF fun e => by have := hr.2 (by rw [e]); cases this⟩, hw.sel⟩
    · repeat (first | refine go_run ?_ | (refine go_newP ?_; clear hw; intro p w hw) | (refine go_newW ?_; clear hw; intro w hw) | (refine go_newS ?_; clear hw; intro s w hw))
      refine ⟨i + 1, ⟨rfl, trivial⟩, by repeat (first | exact agree_refl | (apply agree_upd rfl) | (apply agree_mix rfl) | (apply agree_sets rfl)), ⟨by omega, fun m hm => ?_, hw.sel⟩, by omega⟩
      by_cases e : m = i
      · subst e; exact hr.1 rfl
      · exact hno m (by omega)
  have hie : i = A.length := by omega
  subst hie
  repeat (first | refine go_run ?_ | (refine go_newP ?_; clear hw; intro p w hw) | (refine go_newW ?_; clear hw; intro w hw) | (refine go_newS ?_; clear hw; intro s w hw))
  exact res_one (v := .bool true) rfl rfl ⟨⟨true, rfl, iffT (list_eq (by omega) hno)⟩, hw.sel⟩
theorem task_ext {x y : TTask} (h1 : x.vars = y.vars) (h2 : x.init = y.init) (h3 : x.goal = y.goal) (h4 : x.ops = y.ops) : x = y := by cases x; cases y; simp_all
set_option maxRecDepth 8000 in
set_option maxHeartbeats 2000000 in
theorem same_spec {w0 : World} {a b c d a2 b2 c2 d2 : Value} {vs us : List OpV} {t u : TTask} (ht : RTask w0 a b c d vs t) (hu : RTask w0 a2 b2 c2 d2 us u) :
    Calls Tryz.prog 77 #[.agg #[a, b, c, d], .agg #[a2, b2, c2, d2]] w0 fun e w' => (∃ r, e = .returned (.bool r) ∧ (r = true ↔ t = u)) ∧ Sat w0 w' [] := by
  have ht' := ht
  have hu' := hu
  obtain ⟨ha, hb, hc, hd⟩ := ht
  obtain ⟨ha2, hb2, hc2, hd2⟩ := hu
  have hw := Sat.start w0
  refine calls_of_vc (args := [.agg #[a, b, c, d], .agg #[a2, b2, c2, d2]]) mixed Tryz.func77 rfl (by kernel_rfl) (Nat.le_of_ble_eq_true rfl) ?_
  repeat (first | refine go_run ?_ | (refine go_newP ?_; clear hw; intro p w hw) | (refine go_newWr ?_; clear hw; intro w hw) | (refine go_newS ?_; clear hw; intro s w hw))
  refine st_call rfl (EqualI_spec (ha.at hw) (ha2.at hw)) ?_
  rintro _ w' ⟨⟨r, rfl, hr⟩, hk'⟩
  replace hw := hw.call0 hk'
  clear hk'
  refine ⟨_, rfl, ?_⟩
  cases r
  · repeat (first | refine go_run ?_ | (refine go_newP ?_; clear hw; intro p w hw) | (refine go_newWr ?_; clear hw; intro w hw) | (refine go_newS ?_; clear hw; intro s w hw))
    exact res_one (v := .bool false) rfl rfl ⟨⟨false, rfl, iffF fun e => by have := hr.2 (by rw [e]); cases this⟩, hw.sel⟩
  repeat (first | refine go_run ?_ | (refine go_newP ?_; clear hw; intro p w hw) | (refine go_newWr ?_; clear hw; intro w hw) | (refine go_newS ?_; clear hw; intro s w hw))
  refine st_call rfl (EqualI_spec (hb.at hw) (hb2.at hw)) ?_
  rintro _ w' ⟨⟨r2, rfl, hr2⟩, hk'⟩
  replace hw := hw.call0 hk'
  clear hk'
  refine ⟨_, rfl, ?_⟩
  cases r2
  · repeat (first | refine go_run ?_ | (refine go_newP ?_; clear hw; intro p w hw) | (refine go_newWr ?_; clear hw; intro w hw) | (refine go_newS ?_; clear hw; intro s w hw))
    exact res_one (v := .bool false) rfl rfl ⟨⟨false, rfl, iffF fun e => by have := hr2.2 (by rw [e]); cases this⟩, hw.sel⟩
  repeat (first | refine go_run ?_ | (refine go_newP ?_; clear hw; intro p w hw) | (refine go_newWr ?_; clear hw; intro w hw) | (refine go_newS ?_; clear hw; intro s w hw))
  refine st_call rfl (EqualF_spec (hc.at hw) (hc2.at hw)) ?_
  rintro _ w' ⟨⟨r3, rfl, hr3⟩, hk'⟩
  replace hw := hw.call0 hk'
  clear hk'
  refine ⟨_, rfl, ?_⟩
  cases r3
  · repeat (first | refine go_run ?_ | (refine go_newP ?_; clear hw; intro p w hw) | (refine go_newWr ?_; clear hw; intro w hw) | (refine go_newS ?_; clear hw; intro s w hw))
    exact res_one (v := .bool false) rfl rfl ⟨⟨false, rfl, iffF fun e => by have := hr3.2 (by rw [e]); cases this⟩, hw.sel⟩
  repeat (first | refine go_run ?_ | (refine go_newP ?_; clear hw; intro p w hw) | (refine go_newWr ?_; clear hw; intro w hw) | (refine go_newS ?_; clear hw; intro s w hw))
  refine st_call rfl (EqOps_spec (hd.at hw) (hd2.at hw)) ?_
  rintro _ w' ⟨⟨r4, rfl, hr4⟩, hk'⟩
  replace hw := hw.call0 hk'
  clear hk'
  refine ⟨_, rfl, ?_⟩
  repeat (first | refine go_run ?_ | (refine go_newP ?_; clear hw; intro p w hw) | (refine go_newWr ?_; clear hw; intro w hw) | (refine go_newS ?_; clear hw; intro s w hw))
  exact res_one (v := .bool r4) rfl rfl ⟨⟨r4, rfl, hr4.trans ⟨fun h => task_ext (hr.1 rfl) (hr2.1 rfl) (hr3.1 rfl) h, fun h => by rw [h]⟩⟩, hw.sel⟩
end Go.Proofs.YtegndanecnicaaaGreat

/-
  Contracts of the helpers 'Ints', 'Is', 'Many', 'Small', 'Apply', 'Rank'.
-/
namespace Go.Proofs.YtegndanecnicaaaGreat
open Go.Sl
attribute [local irreducible] vc opsW opsD opV opW PureV ReadV Thn Blk

theorem list_eq_of {xs ys : List Int} (hl : xs.length = ys.length) (h : ∀ i, i < xs.length → xs.getD i tInt.dflt = ys.getD i tInt.dflt) : xs = ys := by
  apply List.ext_getElem hl
  intro i h1 h2
  have := h i h1
  rwa [getD_at h1, getD_at h2] at this

set_option maxRecDepth 8000 in
theorem Ints_spec {w0 : World} {a b : Value} {xs ys : List Int} (ha : RS tInt w0 a xs) (hb : RS tInt w0 b ys) :
    Calls Tryz.prog 32 #[a, b] w0 fun e w' => (∃ r, e = .returned (.bool r) ∧ (r = true ↔ xs = ys)) ∧ Sat w0 w' [] := by
  have hla := ha.big
  have hlb := hb.big
  have hw := Sat.start w0
  refine calls_of_vc (args := [a, b]) mixed Tryz.func32 rfl (by kernel_rfl) (Nat.le_of_ble_eq_true rfl) ?_
  repeat (first | refine go_run ?_ | (refine go_newP ?_; clear hw; intro p w hw) | (refine go_newW ?_; clear hw; intro w hw) | (refine go_newS ?_; clear hw; intro s w hw))
  refine go_if (fun h0 => ?_) (fun h0 => ?_)
  · repeat (first | refine go_run ?_ | (refine go_newP ?_; clear hw; intro p w hw) | (refine go_newW ?_; clear hw; intro w hw) | (refine go_newS ?_; clear hw; intro s w hw))
    refine res_one (v := .bool false) rfl rfl ⟨⟨false, rfl, iffF fun h => ?_⟩, hw⟩
    subst h
    omega
  · repeat (first | refine go_run ?_ | (refine go_newP ?_; clear hw; intro p w hw) | (refine go_newW ?_; clear hw; intro w hw) | (refine go_newS ?_; clear hw; intro s w hw))
    refine vc_loop [4, 5, 13, 14, 15, 16, 17, 18, 19, 20, 21, 22, 23, 24, 25] (G := Nat) (fun k => [(13, .int .i64 k)]) (fun k w => k ≤ xs.length ∧ (∀ i, i < k → xs.getD i tInt.dflt = ys.getD i tInt.dflt) ∧ Sat w0 w []) (fun k => xs.length - k) 0 (fun _ => rfl) ⟨rfl, trivial⟩ ⟨Nat.zero_le _, fun i hi => absurd hi (Nat.not_lt_zero _), hw⟩ ?_
    clear hw
    rintro σ k w ⟨hk, hpre, hw⟩
    repeat (first | refine go_run ?_ | (refine go_newP ?_; clear hw; intro p w hw) | (refine go_newW ?_; clear hw; intro w hw) | (refine go_newS ?_; clear hw; intro s w hw))
    refine go_if (fun h1 => ?_) (fun h1 => ?_)
    · repeat (first | refine go_run ?_ | (refine go_newP ?_; clear hw; intro p w hw) | (refine go_newW ?_; clear hw; intro w hw) | (refine go_newS ?_; clear hw; intro s w hw))
      refine go_if (fun h2 => ?_) (fun h2 => ?_)
      · repeat (first | refine go_run ?_ | (refine go_newP ?_; clear hw; intro p w hw) | (refine go_newW ?_; clear hw; intro w hw) | (refine go_newS ?_; clear hw; intro s w hw))
        refine res_one (v := .bool false) rfl rfl ⟨⟨false, rfl, iffF fun h => ?_⟩, hw⟩
        subst h
        exact h2 rfl
      · repeat (first | refine go_run ?_ | (refine go_newP ?_; clear hw; intro p w hw) | (refine go_newW ?_; clear hw; intro w hw) | (refine go_newS ?_; clear hw; intro s w hw))
        refine ⟨k + 1, ⟨rfl, trivial⟩, by repeat (first | exact agree_refl | (apply agree_upd rfl) | (apply agree_mix rfl) | (apply agree_sets rfl)), ⟨by omega, fun i hi => ?_, hw⟩, by omega⟩
        by_cases h : i = k
        · subst h; omega
        · exact hpre i (by omega)
    · repeat (first | refine go_run ?_ | (refine go_newP ?_; clear hw; intro p w hw) | (refine go_newW ?_; clear hw; intro w hw) | (refine go_newS ?_; clear hw; intro s w hw))
      exact res_one (v := .bool true) rfl rfl ⟨⟨true, rfl, iffT (list_eq_of (by omega) fun i hi => hpre i (by omega))⟩, hw⟩

theorem many_step {n k m : Int} (hn : 1 ≤ n) (hk : 1 ≤ k) (hm : n ≤ m) (h0 : m ≤ 65536) : let x := n * (if m + 1 < (if 0 > k then 0 else k) then m + 1 else (if 0 > k then 0 else k))
    0 ≤ x ∧ x ≤ 4295098368 ∧ (x ≤ m → x = n * k) ∧ (m < x → m < n * k) := by
  intro x
  have e : x = n * min k (m + 1) := by
    show n * (if m + 1 < (if 0 > k then 0 else k) then m + 1 else (if 0 > k then 0 else k)) = _
    have hk0 : (if 0 > k then 0 else k) = k := if_neg (by omega)
    rw [hk0]
    congr 1
    split <;> omega
  have h2 : n * min k (m + 1) ≤ 65536 * 65537 := Int.mul_le_mul (by omega) (by omega) (by omega) (by omega)
  have h3 : 0 ≤ n * min k (m + 1) := Int.mul_nonneg (by omega) (by omega)
  refine ⟨by omega, by omega, fun h => ?_, fun h => ?_⟩
  · rw [e] at h ⊢
    by_cases hh : k ≤ m + 1
    · rw [Int.min_eq_left hh]
    · rw [Int.min_eq_right (by omega)] at h
      have : 1 * (m + 1) ≤ n * (m + 1) := Int.mul_le_mul_of_nonneg_right hn (by omega)
      omega
  · rw [e] at h
    have : n * min k (m + 1) ≤ n * k := Int.mul_le_mul_of_nonneg_left (by omega) (by omega)
    omega
def manyL (vars : List Int) (m : Int) : Int := if prodL vars ≤ m then prodL vars else m + 1
set_option maxRecDepth 8000 in
theorem Many_spec {w0 : World} {a : Value} {vars : List Int} {m : Int} (ha : RS tInt w0 a vars) (hp : ∀ x ∈ vars, 1 ≤ x) (hm1 : 1 ≤ m) (hm2 : m ≤ 65536) :
    Calls Tryz.prog 25 #[a, .int .i64 m] w0 fun e w' => e = .returned (.int .i64 (manyL vars m)) ∧ Sat w0 w' [] := by
  have hla := ha.big
  have hw := Sat.start w0
  refine calls_of_vc (args := [a, .int .i64 m]) mixed Tryz.func25 rfl (by kernel_rfl) (Nat.le_of_ble_eq_true rfl) ?_
  repeat (first | refine go_run ?_ | (refine go_newP ?_; clear hw; intro p w hw) | (refine go_newW ?_; clear hw; intro w hw) | (refine go_newS ?_; clear hw; intro s w hw))
  refine vc_loop2 [4, 5, 7, 10, 11, 12, 13, 14, 15, 16, 17, 18, 19, 20, 21, 22, 23, 24, 25, 26] (G := Nat) (H := Int) (fun k n => [(10, .int .i64 k), (5, .int .i64 n)]) (fun k n w => k ≤ vars.length ∧ n = prodL (vars.take k) ∧ n ≤ m ∧ Sat w0 w []) (fun k _ => vars.length - k) 0 1 (fun _ _ => rfl) ⟨rfl, rfl, trivial⟩ ⟨Nat.zero_le _, rfl, hm1, hw⟩ ?_
  clear hw
  rintro σ k n w ⟨hk, hn, hnm, hw⟩
  repeat (first | refine go_run ?_ | (refine go_newP ?_; clear hw; intro p w hw) | (refine go_newW ?_; clear hw; intro w hw) | (refine go_newS ?_; clear hw; intro s w hw))
  refine go_if (fun h1 => ?_) (fun h1 => ?_)
  · have hkl : k < vars.length := by omega
    have hx := hp _ (mem_getD tInt.dflt hkl)
    have hpos : 1 ≤ n := by rw [hn]; exact prodL_pos fun x hx => hp x (List.mem_of_mem_take hx)
    obtain ⟨b0, b1, b2, b3⟩ := many_step hpos hx hnm hm2
    have hs : prodL (vars.take (k + 1)) = n * vars.getD k tInt.dflt := by rw [take_snoc tInt.dflt hkl, prodL_snoc, hn]
    repeat (first | refine go_run ?_ | (refine go_newP ?_; clear hw; intro p w hw) | (refine go_newW ?_; clear hw; intro w hw) | (refine go_newS ?_; clear hw; intro s w hw))
    refine go_if (fun h2 => ?_) (fun h2 => ?_)
    · repeat (first | refine go_run ?_ | (refine go_newP ?_; clear hw; intro p w hw) | (refine go_newW ?_; clear hw; intro w hw) | (refine go_newS ?_; clear hw; intro s w hw))
      refine res_one (v := .int .i64 (m + 1)) rfl rfl ⟨?_, hw⟩
      have h3 := b3 (by omega)
      have h4 : prodL (vars.take (k + 1)) ≤ prodL vars := by
        have := prodL_mono (l := vars.take (k + 1)) (m := vars.drop (k + 1)) (fun x hx => hp x (List.mem_of_mem_drop hx)) (fun x hx => hp x (List.mem_of_mem_take hx))
        rwa [List.take_append_drop] at this
      rw [manyL, if_neg (by omega)]
    · repeat (first | refine go_run ?_ | (refine go_newP ?_; clear hw; intro p w hw) | (refine go_newW ?_; clear hw; intro w hw) | (refine go_newS ?_; clear hw; intro s w hw))
      refine ⟨k + 1, _, ⟨rfl, rfl, trivial⟩, by repeat (first | exact agree_refl | (apply agree_upd rfl) | (apply agree_mix rfl) | (apply agree_sets rfl)), ⟨by omega, ?_, by omega, hw⟩, by omega⟩
      rw [hs]; exact b2 (by omega)
  · repeat (first | refine go_run ?_ | (refine go_newP ?_; clear hw; intro p w hw) | (refine go_newW ?_; clear hw; intro w hw) | (refine go_newS ?_; clear hw; intro s w hw))
    refine res_one (v := .int .i64 n) rfl rfl ⟨?_, hw⟩
    rw [List.take_of_length_le (by omega)] at hn
    rw [manyL, ← hn, if_pos hnm]

set_option maxRecDepth 8000 in
set_option maxHeartbeats 2000000 in
theorem Small_spec {w0 : World} {a b c d : Value} {vs : List OpV} {t : TTask} (ht : RTask w0 a b c d vs t) :
    Calls Tryz.prog 23 #[.agg #[a, b, c, d]] w0 fun e w' => (∃ r, e = .returned (.bool r) ∧ (r = true ↔ SmallT t)) ∧ Sat w0 w' [] := by
  have ht' := ht
  obtain ⟨ha, hb, hc, hd⟩ := ht
  have hrs := hd.rs
  have hdl := hd.len
  have hla := ha.big
  have hll := hrs.big
  have hw := Sat.start w0
  refine calls_of_vc (args := [.agg #[a, b, c, d]]) mixed Tryz.func23 rfl (by kernel_rfl) (Nat.le_of_ble_eq_true rfl) ?_
  repeat (first | refine go_run ?_ | (refine go_newP ?_; clear hw; intro p w hw) | (refine go_newW ?_; clear hw; intro w hw) | (refine go_newS ?_; clear hw; intro s w hw))
  refine go_if (fun h1 => ?_) (fun h1 => ?_)
  · repeat (first | refine go_run ?_ | (refine go_newP ?_; clear hw; intro p w hw) | (refine go_newW ?_; clear hw; intro w hw) | (refine go_newS ?_; clear hw; intro s w hw))
    refine res_one (v := .bool false) rfl rfl ⟨⟨false, rfl, iffF fun h => ?_⟩, hw.tail⟩
    have := h.vars
    have := h.ops
    omega
  · repeat (first | refine go_run ?_ | (refine go_newP ?_; clear hw; intro p w hw) | (refine go_newW ?_; clear hw; intro w hw) | (refine go_newS ?_; clear hw; intro s w hw))
    obtain ⟨pt, hpt⟩ : ∃ pt, pt = p := ⟨p, rfl⟩
    subst hpt
    refine vc_loop [2, 4, 18, 19, 20, 21, 22, 23, 24, 25, 26] (G := Nat) (fun k => [(18, .int .i64 k)]) (fun k w => k ≤ t.ops.length ∧ (∀ i, i < k → (t.ops.getD i dOp).effs.length ≤ 8) ∧ Sat w0 w [Box pt 26 [a, b, c, d]]) (fun k => t.ops.length - k) 0 (fun _ => rfl) ⟨rfl, trivial⟩ ⟨Nat.zero_le _, fun i hi => absurd hi (Nat.not_lt_zero _), hw⟩ ?_
    clear hw
    rintro σ k w ⟨hk, hef, hw⟩
    repeat (first | refine go_run ?_ | (refine go_newP ?_; clear hw; intro p w hw) | (refine go_newW ?_; clear hw; intro w hw) | (refine go_newS ?_; clear hw; intro s w hw))
    refine go_if (fun h2 => ?_) (fun h2 => ?_)
    · have hop := hd.at_ k (by omega)
      have hone := hop.one
      obtain ⟨es, hes⟩ := hop.effs
      have hers := hes.rs
      have hel := hes.len
      have heb := hers.big
      repeat (first | refine go_run ?_ | (refine go_newP ?_; clear hw; intro p w hw) | (refine go_newW ?_; clear hw; intro w hw) | (refine go_newS ?_; clear hw; intro s w hw))
      refine go_if (fun h3 => ?_) (fun h3 => ?_)
      · repeat (first | refine go_run ?_ | (refine go_newP ?_; clear hw; intro p w hw) | (refine go_newW ?_; clear hw; intro w hw) | (refine go_newS ?_; clear hw; intro s w hw))
        refine res_one (v := .bool false) rfl rfl ⟨⟨false, rfl, iffF fun h => ?_⟩, hw.tail.tail⟩
        have := h.effs k (by omega)
        omega
      · repeat (first | refine go_run ?_ | (refine go_newP ?_; clear hw; intro p w hw) | (refine go_newW ?_; clear hw; intro w hw) | (refine go_newS ?_; clear hw; intro s w hw))
        refine ⟨k + 1, ⟨rfl, trivial⟩, by repeat (first | exact agree_refl | (apply agree_upd rfl) | (apply agree_mix rfl) | (apply agree_sets rfl)), ⟨by omega, fun i hi => ?_, hw.tail⟩, by omega⟩
        by_cases h : i = k
        · subst h; omega
        · exact hef i (by omega)
    · repeat (first | refine go_run ?_ | (refine go_newP ?_; clear hw; intro p w hw) | (refine go_newW ?_; clear hw; intro w hw) | (refine go_newS ?_; clear hw; intro s w hw))
      refine st_call rfl (Good_spec (ht'.at hw)) ?_
      rintro _ w' ⟨⟨r, rfl, hr⟩, hk'⟩
      replace hw := hw.call0 hk'
      clear hk'
      refine ⟨_, rfl, ?_⟩
      cases r with
      | false =>
        repeat (first | refine go_run ?_ | (refine go_newP ?_; clear hw; intro p w hw) | (refine go_newW ?_; clear hw; intro w hw) | (refine go_newS ?_; clear hw; intro s w hw))
        refine res_one (v := .bool false) rfl rfl ⟨⟨false, rfl, iffF fun h => ?_⟩, hw.tail⟩
        have := hr.2 h.good
        cases this
      | true =>
        have hg := hr.1 rfl
        repeat (first | refine go_run ?_ | (refine go_newP ?_; clear hw; intro p w hw) | (refine go_newW ?_; clear hw; intro w hw) | (refine go_newS ?_; clear hw; intro s w hw))
        refine st_call rfl (Many_spec (m := 512) (ha.at hw) hg.pos (by decide) (by decide)) ?_
        rintro _ w' ⟨rfl, hk'⟩
        replace hw := hw.call0 hk'
        clear hk'
        refine ⟨_, rfl, ?_⟩
        repeat (first | refine go_run ?_ | (refine go_newP ?_; clear hw; intro p w hw) | (refine go_newW ?_; clear hw; intro w hw) | (refine go_newS ?_; clear hw; intro s w hw))
        refine res_one (v := .bool (decide (manyL t.vars 512 ≤ 512))) rfl rfl ⟨⟨_, rfl, ?_⟩, hw.tail⟩
        rw [decide_eq_true_eq, manyL]
        constructor
        · intro h
          exact ⟨hg, by omega, by omega, fun i hi => hef i (by omega), by split at h <;> omega⟩
        · intro h
          rw [if_pos h.many]; exact h.many

set_option maxRecDepth 8000 in
set_option maxHeartbeats 2000000 in
theorem Apply_spec {w0 : World} {a b c d sv : Value} {vs : List OpV} {t : TTask} {st : List Int} {op : Int} (ht : RTask w0 a b c d vs t) (hs : RS tInt w0 sv st) (hg : GoodT t) (hok : StateOk t.vars st) :
    Calls Tryz.prog 73 #[.agg #[a, b, c, d], sv, .int .i64 op] w0 fun e w' => ∃ r rv, e = .returned (.tuple #[rv, .bool r]) ∧ (r = true ↔ 0 ≤ op ∧ op < t.ops.length ∧ AppT t st op.toNat) ∧ Sat w0 w' [OS tInt 3 rv (if r then succT t st op.toNat else [])] := by
  have ht' := ht
  obtain ⟨ha, hb, hc, hd⟩ := ht
  have hrs := hd.rs
  have hdl := hd.len
  have hla := ha.big
  have hll := hrs.big
  have hsl := hok.1
  have hvl := hg.vars
  have hw := Sat.start w0
  refine calls_of_vc (args := [.agg #[a, b, c, d], sv, .int .i64 op]) mixed Tryz.func73 rfl (by kernel_rfl) (Nat.le_of_ble_eq_true rfl) ?_
  repeat (first | refine go_run ?_ | (refine go_newP ?_; clear hw; intro p w hw) | (refine go_newW ?_; clear hw; intro w hw) | (refine go_newS ?_; clear hw; intro s w hw))
  obtain ⟨pt, hpt⟩ : ∃ pt, pt = p := ⟨p, rfl⟩
  subst hpt
  refine go_case (fun h1 => ?_) (fun h1 => ?_)
  · simp only [h1, gvff, gvtt]; (try simp only [beq_iff_eq, Bool.and_eq_true, Bool.or_eq_true, decide_eq_true_eq, decide_eq_false_iff_not, Bool.not_eq_true, Bool.not_eq_false, Bool.not_eq_eq_eq_not, Bool.not_true, Bool.not_false, Bool.and_eq_false_iff, Bool.or_eq_false_iff, bne_iff_ne, ne_eq, Int.not_lt, Int.not_le, Nat.not_lt, Nat.not_le] at h1)
    repeat (first | refine go_run ?_ | (refine go_newP ?_; clear hw; intro p w hw) | (refine go_newW ?_; clear hw; intro w hw) | (refine go_newS ?_; clear hw; intro s w hw))
    refine res_two (v := .slice none 0 0) (v' := .bool false) rfl rfl rfl ⟨false, _, rfl, iffF fun h => ?_, hw.tail.nil⟩
    omega
  · simp only [h1, gvff, gvtt]; (try simp only [beq_iff_eq, Bool.and_eq_true, Bool.or_eq_true, decide_eq_true_eq, decide_eq_false_iff_not, Bool.not_eq_true, Bool.not_eq_false, Bool.not_eq_eq_eq_not, Bool.not_true, Bool.not_false, Bool.and_eq_false_iff, Bool.or_eq_false_iff, bne_iff_ne, ne_eq, Int.not_lt, Int.not_le, Nat.not_lt, Nat.not_le] at h1)
    have hop := hd.at_ op.toNat (by omega)
    have hone := hop.one
    obtain ⟨es, hes⟩ := hop.effs
    have hers := hes.rs
    have hel := hes.len
    have heb := hers.big
    have hpre := hop.pre
    have hgo := hg.op op.toNat (by omega)
    have he64 := hgo.effs
    repeat (first | refine go_run ?_ | (refine go_newP ?_; clear hw; intro p w hw) | (refine go_newW ?_; clear hw; intro w hw) | (refine go_newS ?_; clear hw; intro s w hw))
    refine st_call rfl (Holds_spec (hpre.at hw) (hs.at hw)) ?_
    rintro _ w' ⟨⟨r, rfl, hr⟩, hk'⟩
    replace hw := hw.call0 hk'
    clear hk'
    refine ⟨_, rfl, ?_⟩
    cases r with
    | false =>
      repeat (first | refine go_run ?_ | (refine go_newP ?_; clear hw; intro p w hw) | (refine go_newW ?_; clear hw; intro w hw) | (refine go_newS ?_; clear hw; intro s w hw))
      refine res_two (v := .slice none 0 0) (v' := .bool false) rfl rfl rfl ⟨false, _, rfl, iffF fun h => ?_, hw.tail.nil⟩
      have := hr.2 h.2.2
      cases this
    | true =>
      have happ := hr.1 rfl
      repeat (first | refine go_run ?_ | (refine go_newP ?_; clear hw; intro p w hw) | (refine go_newW ?_; clear hw; intro w hw) | (refine go_newS ?_; clear hw; intro s w hw))
      refine st_buildSlice0 tInt hw ?_
      clear hw
      intro s1 w hw
      repeat (first | refine go_run ?_ | (refine go_newP ?_; clear hw; intro p w hw) | (refine go_newW ?_; clear hw; intro w hw) | (refine go_newS ?_; clear hw; intro s w hw))
      obtain ⟨out, hout⟩ : ∃ out, out = s := ⟨s, rfl⟩
      subst hout
      rw [List.nil_append] at hw
      refine vc_loop [10, 41, 42, 43, 44, 45, 46, 47, 48, 49, 50, 51, 52, 53, 54, 55] (G := Nat) (fun k => [(41, .int .i64 k)]) (fun k w => k ≤ (t.ops.getD op.toNat dOp).effs.length ∧ Sat w0 w [OS tInt 3 out (effsL st ((t.ops.getD op.toNat dOp).effs.take k)), Box pt 26 [a, b, c, d]]) (fun k => (t.ops.getD op.toNat dOp).effs.length - k) 0 (fun _ => rfl) ⟨rfl, trivial⟩ ⟨Nat.zero_le _, hw⟩ ?_
      clear hw
      rintro σ k w ⟨hk, hw⟩
      repeat (first | refine go_run ?_ | (refine go_newP ?_; clear hw; intro p w hw) | (refine go_newW ?_; clear hw; intro w hw) | (refine go_newS ?_; clear hw; intro s w hw))
      refine go_if (fun h2 => ?_) (fun h2 => ?_)
      · have hek := hes.at_ k (by omega)
        have hwh := hek.when
        have hone2 := hek.one
        have hv1 := hek.var
        have hv2 := hek.val
        obtain ⟨r1, r2, r3, r4⟩ := effOk_range (hgo.eff k (by omega))
        have hsn := effsL_snoc st ((t.ops.getD op.toNat dOp).effs.take k) ((t.ops.getD op.toNat dOp).effs.getD k dEff)
        rw [← take_snoc dEff (by omega)] at hsn
        have hln := effsL_len st ((t.ops.getD op.toNat dOp).effs.take k)
        repeat (first | refine go_run ?_ | (refine go_newP ?_; clear hw; intro p w hw) | (refine go_newW ?_; clear hw; intro w hw) | (refine go_newS ?_; clear hw; intro s w hw))
        refine st_call rfl (Holds_spec (hwh.at hw) (hs.at hw)) ?_
        rintro _ w' ⟨⟨r, rfl, hr2⟩, hk'⟩
        replace hw := hw.call0 hk'
        clear hk'
        refine ⟨_, rfl, ?_⟩
        cases r with
        | false =>
          repeat (first | refine go_run ?_ | (refine go_newP ?_; clear hw; intro p w hw) | (refine go_newW ?_; clear hw; intro w hw) | (refine go_newS ?_; clear hw; intro s w hw))
          refine ⟨k + 1, ⟨rfl, trivial⟩, by repeat (first | exact agree_refl | (apply agree_upd rfl) | (apply agree_mix rfl) | (apply agree_sets rfl)), ⟨by omega, ?_⟩, by omega⟩
          rw [hsn, if_neg fun h => by have := hr2.2 h; cases this]
          exact hw.tail
        | true =>
          repeat (first | refine go_run ?_ | (refine go_newP ?_; clear hw; intro p w hw) | (refine go_newW ?_; clear hw; intro w hw) | (refine go_newS ?_; clear hw; intro s w hw))
          refine ⟨k + 1, ⟨rfl, trivial⟩, by repeat (first | exact agree_refl | (apply agree_upd rfl) | (apply agree_mix rfl) | (apply agree_sets rfl)), ⟨by omega, ?_⟩, by omega⟩
          rw [hsn, if_pos (hr2.1 rfl), ← hv1, ← hv2]
          exact hw.tail
      · rw [List.take_of_length_le (by omega)] at hw
        repeat (first | refine go_run ?_ | (refine go_newP ?_; clear hw; intro p w hw) | (refine go_newW ?_; clear hw; intro w hw) | (refine go_newS ?_; clear hw; intro s w hw))
        exact res_two (v := out) (v' := .bool true) rfl rfl rfl ⟨true, _, rfl, iffT ⟨by omega, by omega, happ⟩, hw.only⟩

theorem StateOk.take {vars s : List Int} (h : StateOk vars s) (k : Nat) : StateOk (vars.take k) (s.take k) := by
  refine ⟨by simp [h.1], fun i hi => ?_⟩
  simp only [List.length_take] at hi
  have := h.2 i (by omega)
  simp only [List.getD_eq_getElem?_getD] at this ⊢
  rwa [List.getElem?_take_of_lt (by omega), List.getElem?_take_of_lt (by omega)]
end Go.Proofs.YtegndanecnicaaaGreat
