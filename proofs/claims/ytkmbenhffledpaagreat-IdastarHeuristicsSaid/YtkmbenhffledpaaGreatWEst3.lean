
/-
  Contracts of 'slices.ContainsFunc' over ints for any predicate, and of 'estimate.Blind' and 'estimate.Table'.
-/
import Derived.Test.YtkmbenhffledpaaGreatMW4
import Derived.Test.YtkmbenhffledpaaGreatTIda4
set_option linter.unusedSimpArgs false
set_option linter.unusedVariables false
namespace Go.Proofs.YtkmbenhffledpaaGreat
open Go.Sl Go
attribute [local irreducible] vc opsW opsD opV opW PureV ReadV Thn Blk
/-- A function value answers a question about ints. -/
def AskF (w0 : World) (f : Nat) (cs : List Value) (P : Int → Prop) (xs : List Int) : Prop := ∀ (w : World) (Γ : List HP), Sat w0 w Γ → ∀ x ∈ xs, Calls Tryz.prog f ([Value.int .i64 x] ++ cs).toArray w fun e w' => (∃ r, e = .returned (.bool r) ∧ (r = true ↔ P x)) ∧ Sat w w' []
theorem AskF.at {w0 w : World} {Γ : List HP} {f : Nat} {cs : List Value} {P : Int → Prop} {xs : List Int} (h : AskF w0 f cs P xs) (hw : Sat w0 w Γ) : AskF w f cs P xs := fun w1 Δ hs x hx => h w1 (Δ ++ Γ) (hw.call hs) x hx
set_option maxRecDepth 8000 in
theorem AnyIdx_spec {w0 : World} {a : Value} {xs : List Int} {f : Nat} {cs : List Value} {P : Int → Prop} [CallT Tryz.prog f] (ha : RS tInt w0 a xs) (hf : AskF w0 f cs P xs) :
    Calls Tryz.prog 150 #[a, .func (.func f) #[] cs.toArray] w0 fun e w' => (∃ r : Int, e = .returned (.int .i64 r) ∧ (0 ≤ r ↔ ∃ x ∈ xs, P x)) ∧ Sat w0 w' [] := by
  have hla := ha.big
  have hw := Sat.start w0
  refine calls_of_vc (args := [a, .func (.func f) #[] cs.toArray]) mixed Tryz.func150 rfl (by kernel_rfl) (Nat.le_of_ble_eq_true rfl) ?_
  repeat (first | refine go_run ?_ | (refine go_newP ?_; clear hw; intro p w hw) | (refine go_newW ?_; clear hw; intro w hw) | (refine go_newS ?_; clear hw; intro s w hw))
  refine vc_loop [4, 5, 8, 9, 10, 11, 12, 13, 14, 15, 16, 17, 18] (G := Nat) (fun k => [(8, .int .i64 k)]) (fun k w => k ≤ xs.length ∧ (∀ i, i < k → ¬ P (xs.getD i tInt.dflt)) ∧ Sat w0 w []) (fun k => xs.length - k) 0 (fun _ => rfl) ⟨rfl, trivial⟩ ⟨Nat.zero_le _, fun i hi => absurd hi (Nat.not_lt_zero _), hw⟩ ?_
  clear hw
  rintro σ k w ⟨hk, hpre, hw⟩
  repeat (first | refine go_run ?_ | (refine go_newP ?_; clear hw; intro p w hw) | (refine go_newW ?_; clear hw; intro w hw) | (refine go_newS ?_; clear hw; intro s w hw))
  refine go_if (fun h1 => ?_) (fun h1 => ?_)
  · have hkl : k < xs.length := by omega
    repeat (first | refine go_run ?_ | (refine go_newP ?_; clear hw; intro p w hw) | (refine go_newW ?_; clear hw; intro w hw) | (refine go_newS ?_; clear hw; intro s w hw))
    refine st_callF (cs := cs) rfl rfl (hf _ _ hw _ (mem_getD tInt.dflt hkl)) ?_
    rintro _ w' ⟨⟨r, rfl, hr⟩, hk'⟩
    replace hw := hw.call0 hk'
    clear hk'
    refine ⟨_, rfl, ?_⟩
    cases r
    · have h2 : ¬ P (xs.getD k tInt.dflt) := fun h => by cases hr.2 h
      repeat (first | refine go_run ?_ | (refine go_newP ?_; clear hw; intro p w hw) | (refine go_newW ?_; clear hw; intro w hw) | (refine go_newS ?_; clear hw; intro s w hw))
      refine ⟨k + 1, ⟨rfl, trivial⟩, by repeat (first | exact agree_refl | (apply agree_upd rfl) | (apply agree_mix rfl) | (apply agree_sets rfl)), ⟨by omega, fun i hi => ?_, hw⟩, by omega⟩
      by_cases h : i = k
      · subst h; exact h2
      · exact hpre i (by omega)
    · repeat (first | refine go_run ?_ | (refine go_newP ?_; clear hw; intro p w hw) | (refine go_newW ?_; clear hw; intro w hw) | (refine go_newS ?_; clear hw; intro s w hw))
      exact res_one (v := .int .i64 k) rfl rfl ⟨⟨k, rfl, ⟨fun _ => ⟨_, mem_getD tInt.dflt hkl, hr.1 rfl⟩, fun _ => by omega⟩⟩, hw⟩
  · repeat (first | refine go_run ?_ | (refine go_newP ?_; clear hw; intro p w hw) | (refine go_newW ?_; clear hw; intro w hw) | (refine go_newS ?_; clear hw; intro s w hw))
    refine res_one (v := .int .i64 (-1)) rfl rfl ⟨⟨-1, rfl, ⟨fun h => by omega, ?_⟩⟩, hw⟩
    rintro ⟨x, hx, he⟩
    obtain ⟨i, hi, rfl⟩ := List.mem_iff_getElem.1 hx
    exact absurd (by rw [getD_at hi]; exact he) (hpre i (by omega))
set_option maxRecDepth 8000 in
theorem AnyC_spec {w0 : World} {a : Value} {xs : List Int} {f : Nat} {cs : List Value} {P : Int → Prop} [CallT Tryz.prog f] (ha : RS tInt w0 a xs) (hf : AskF w0 f cs P xs) :
    Calls Tryz.prog 117 #[a, .func (.func f) #[] cs.toArray] w0 fun e w' => (∃ r, e = .returned (.bool r) ∧ (r = true ↔ ∃ x ∈ xs, P x)) ∧ Sat w0 w' [] := by
  have hw := Sat.start w0
  refine calls_of_vc (args := [a, .func (.func f) #[] cs.toArray]) mixed Tryz.func117 rfl (by kernel_rfl) (Nat.le_of_ble_eq_true rfl) ?_
  repeat (first | refine go_run ?_ | (refine go_newP ?_; clear hw; intro p w hw) | (refine go_newW ?_; clear hw; intro w hw) | (refine go_newS ?_; clear hw; intro s w hw))
  refine st_call rfl (AnyIdx_spec ha hf) ?_
  rintro _ w' ⟨⟨r, rfl, hr⟩, hk'⟩
  replace hw := hw.call0 hk'
  clear hk'
  refine ⟨_, rfl, ?_⟩
  repeat (first | refine go_run ?_ | (refine go_newP ?_; clear hw; intro p w hw) | (refine go_newW ?_; clear hw; intro w hw) | (refine go_newS ?_; clear hw; intro s w hw))
  exact res_one (v := .bool (decide (0 ≤ r))) rfl rfl ⟨⟨_, rfl, by rw [decide_eq_true_eq]; exact hr⟩, hw⟩
theorem leastK_snoc {t : TTask} {k : Nat} (h : k < t.ops.length) : leastK t (k + 1) = min (leastK t k) (t.ops.getD k dOp).cost := by
  unfold leastK
  rw [take_snoc dOp h, List.foldl_append]; rfl
theorem hval_blind {w : World} {t : TTask} {gv : Value} (h : RS tFact w gv t.goal) : HVal w (.iface 107 (.agg #[gv, .int .i64 (leastC t)])) t (blindH t) :=
  ⟨_, _, _, _, rfl, methAt_S _, inferInstance, fun _ _ _ _ hs hsv _ => blindV_spec (h.at hs) hsv⟩
set_option maxRecDepth 8000 in
set_option maxHeartbeats 2000000 in
theorem Blind_spec {w0 : World} {a b c d : Value} {vs : List OpV} {t : TTask} (ht : RTask w0 a b c d vs t) (hg : GoodT t) :
    Calls Tryz.prog 25 #[.agg #[a, b, c, d]] w0 fun e w' => ∃ p, e = .returned (.tuple #[.pointer (some p), .nilIface]) ∧ Sat w0 w' [RdH fun w => REst w p t (blindH t)] := by
  have ht' := ht
  obtain ⟨ha, hb, hc, hd⟩ := ht
  have hdr := hd.rs
  have hdl := hd.len
  have hgl := facts_len hg.goal
  have hvl := hg.vars
  have hol := hg.ops
  have hw := Sat.start w0
  refine calls_of_vc (args := [.agg #[a, b, c, d]]) mixed Tryz.func25 rfl (by kernel_rfl) (Nat.le_of_ble_eq_true rfl) ?_
  repeat (first | refine go_run ?_ | (refine go_newP ?_; clear hw; intro p w hw) | (refine go_newW ?_; clear hw; intro w hw) | (refine go_newS ?_; clear hw; intro s w hw))
  obtain ⟨pt, hpt⟩ : ∃ pt, pt = p := ⟨p, rfl⟩
  subst hpt
  refine vc_loop2 [4, 6, 10, 11, 12, 13, 14, 15, 16, 17, 18] (G := Nat) (H := Int) (fun k m => [(10, .int .i64 k), (4, .int .i64 m)]) (fun k m w => k ≤ t.ops.length ∧ m = leastK t k ∧ Sat w0 w [Box pt 26 [a, b, c, d]]) (fun k _ => t.ops.length - k) 0 inf (fun _ _ => rfl) ⟨rfl, rfl, trivial⟩ ⟨Nat.zero_le _, rfl, hw⟩ ?_
  clear hw
  rintro σ k m w ⟨hk, hm, hw⟩
  repeat (first | refine go_run ?_ | (refine go_newP ?_; clear hw; intro p w hw) | (refine go_newW ?_; clear hw; intro w hw) | (refine go_newS ?_; clear hw; intro s w hw))
  refine go_if (fun h1 => ?_) (fun h1 => ?_)
  · have hkl : k < t.ops.length := by omega
    have hop := hd.at_ k hkl
    have hone := hop.one
    have hco := hop.cost
    repeat (first | refine go_run ?_ | (refine go_newP ?_; clear hw; intro p w hw) | (refine go_newW ?_; clear hw; intro w hw) | (refine go_newS ?_; clear hw; intro s w hw))
    exact ⟨k + 1, _, ⟨rfl, rfl, trivial⟩, by repeat (first | exact agree_refl | (apply agree_upd rfl) | (apply agree_mix rfl) | (apply agree_sets rfl)), ⟨by omega, by rw [leastK_snoc hkl, hm, ← hco]; split <;> omega, hw.sel⟩, by omega⟩
  have hke : k = t.ops.length := by omega
  subst hke
  have hmc : m = leastC t := hm
  subst hmc
  repeat (first | refine go_run ?_ | (refine go_newP ?_; clear hw; intro p w hw) | (refine go_newWr ?_; clear hw; intro w hw) | (refine go_newS ?_; clear hw; intro s w hw))
  refine vc_cut [19, 20, 21, 22, 23, 24, 25, 26, 27, 28, 29, 30, 2, 3] (G := Addr) (fun g => [(2, .pointer (some g)), (3, .nilIface)]) (fun g w => Sat w0 w [RdH fun w => REst w g t (blindH t)]) (fun _ => rfl) ?_ ?_
  · refine vc_tree (.step 1 [.op 1] (.step 4 [.op 4] (.step 0 [.op 0] (.step 2 [.op 2] (.step 7 [.op 7] (.step 3 [.op 3, .chk 0, .chk 7] (.alt 5 [.op 5, .chk 0, .chk 7] (.step 6 [.op 6] (.step 8 [.op 8, .chk 0] (.step 9 [.op 9] (.step 10 [.op 10] (.step 11 [.op 11] (.step 12 [.op 12] (.step 13 [.op 13] (.lin [])))))))) (.alt 8 [.op 8, .chk 0] (.step 5 [.op 5, .chk 0, .chk 7] (.step 6 [.op 6] (.step 9 [.op 9] (.step 10 [.op 10] (.step 11 [.op 11] (.step 12 [.op 12] (.step 13 [.op 13] (.lin [])))))))) (.stop))))))))) hw (by kernel_rfl) (by kernel_rfl) ?_; clear hw; intro w hw
    repeat (first | refine go_run ?_ | (refine go_newP ?_; clear hw; intro p w hw) | (refine go_newWr ?_; clear hw; intro w hw) | (refine go_newS ?_; clear hw; intro s w hw))
    refine st_call rfl (facts_spec (hc.at hw) (by omega)) ?_
    rintro _ w' ⟨gv, rfl, hk'⟩
    replace hw := hw.call1 hk'
    clear hk'
    refine ⟨_, rfl, ?_⟩
    have og := (rsO (s := gv) hw).one
    repeat (first | refine go_run ?_ | (refine go_newP ?_; clear hw; intro p w hw) | (refine go_newWr ?_; clear hw; intro w hw) | (refine go_newS ?_; clear hw; intro s w hw))
    refine opsT_alt ?_ (opsT_alt ?_ opsT_stop)
    · repeat (first | refine go_run ?_ | (refine go_newP ?_; clear hw; intro p w hw) | (refine go_newWr ?_; clear hw; intro w hw) | (refine go_newS ?_; clear hw; intro s w hw))
      refine st_build2 (v1 := gv) (v2 := .int .i64 (leastC t)) rfl rfl rfl (by simp only [List.all_cons, List.all_nil, og]; rfl) ?_
      repeat (first | refine go_run ?_ | (refine go_newP ?_; clear hw; intro p w hw) | (refine go_newWr ?_; clear hw; intro w hw) | (refine go_newS ?_; clear hw; intro s w hw))
      repeat (first | refine go_run ?_ | (refine go_newP ?_; clear hw; intro p w hw) | (refine go_newWr ?_; clear hw; intro w hw) | (refine go_newS ?_; clear hw; intro s w hw))
      refine st_call rfl (Check_spec (ht'.at hw)) ?_
      rintro _ w' ⟨rfl, hk'⟩
      replace hw := hw.call0 hk'
      clear hk'
      refine ⟨_, rfl, ?_⟩
      rw [errV_zero ((good_iff t).2 hg)]
      repeat (first | refine go_run ?_ | (refine go_newP ?_; clear hw; intro p w hw) | (refine go_newWr ?_; clear hw; intro w hw) | (refine go_newS ?_; clear hw; intro s w hw))
      refine st_call rfl (made_spec (h := .iface 107 (.agg #[gv, .int .i64 (leastC t)])) (H := blindH t) (ht'.at hw) hg ⟨_, _, rfl⟩) ?_
      rintro _ w' ⟨pe, rfl, hk'⟩
      replace hw := hw.call1 hk'
      clear hk'
      refine ⟨_, rfl, ?_⟩
      repeat (first | refine go_run ?_ | (refine go_newP ?_; clear hw; intro p w hw) | (refine go_newWr ?_; clear hw; intro w hw) | (refine go_newS ?_; clear hw; intro s w hw))
      have hw2 : Sat w0 w' [RdH fun w => HVal w (.iface 107 (.agg #[gv, .int .i64 (leastC t)])) t (blindH t) → REst w pe t (blindH t), OS tFact 77 gv t.goal, Box pt 26 [a, b, c, d]] := hw
      have hw3 := Sat.rd (Δ := [RdH fun w => HVal w (.iface 107 (.agg #[gv, .int .i64 (leastC t)])) t (blindH t) → REst w pe t (blindH t), OS tFact 77 gv t.goal]) (φ := fun w => REst w pe t (blindH t)) (fun _ w h => (h.rdE 0 rfl) (hval_blind (h.rs 1 rfl))) hw2
      exact ⟨pe, ⟨rfl, rfl, trivial⟩, by repeat (first | exact agree_refl | (apply agree_upd rfl) | (apply agree_mix rfl) | (apply agree_sets rfl)), hw3.sel⟩
    · repeat (first | refine go_run ?_ | (refine go_newP ?_; clear hw; intro p w hw) | (refine go_newWr ?_; clear hw; intro w hw) | (refine go_newS ?_; clear hw; intro s w hw))
      refine st_call rfl (Check_spec (ht'.at hw)) ?_
      rintro _ w' ⟨rfl, hk'⟩
      replace hw := hw.call0 hk'
      clear hk'
      refine ⟨_, rfl, ?_⟩
      rw [errV_zero ((good_iff t).2 hg)]
      repeat (first | refine go_run ?_ | (refine go_newP ?_; clear hw; intro p w hw) | (refine go_newWr ?_; clear hw; intro w hw) | (refine go_newS ?_; clear hw; intro s w hw))
      repeat (first | refine go_run ?_ | (refine go_newP ?_; clear hw; intro p w hw) | (refine go_newWr ?_; clear hw; intro w hw) | (refine go_newS ?_; clear hw; intro s w hw))
      refine st_build2 (v1 := gv) (v2 := .int .i64 (leastC t)) rfl rfl rfl (by simp only [List.all_cons, List.all_nil, og]; rfl) ?_
      repeat (first | refine go_run ?_ | (refine go_newP ?_; clear hw; intro p w hw) | (refine go_newWr ?_; clear hw; intro w hw) | (refine go_newS ?_; clear hw; intro s w hw))
      refine st_call rfl (made_spec (h := .iface 107 (.agg #[gv, .int .i64 (leastC t)])) (H := blindH t) (ht'.at hw) hg ⟨_, _, rfl⟩) ?_
      rintro _ w' ⟨pe, rfl, hk'⟩
      replace hw := hw.call1 hk'
      clear hk'
      refine ⟨_, rfl, ?_⟩
      repeat (first | refine go_run ?_ | (refine go_newP ?_; clear hw; intro p w hw) | (refine go_newWr ?_; clear hw; intro w hw) | (refine go_newS ?_; clear hw; intro s w hw))
      have hw2 : Sat w0 w' [RdH fun w => HVal w (.iface 107 (.agg #[gv, .int .i64 (leastC t)])) t (blindH t) → REst w pe t (blindH t), OS tFact 77 gv t.goal, Box pt 26 [a, b, c, d]] := hw
      have hw3 := Sat.rd (Δ := [RdH fun w => HVal w (.iface 107 (.agg #[gv, .int .i64 (leastC t)])) t (blindH t) → REst w pe t (blindH t), OS tFact 77 gv t.goal]) (φ := fun w => REst w pe t (blindH t)) (fun _ w h => (h.rdE 0 rfl) (hval_blind (h.rs 1 rfl))) hw2
      exact ⟨pe, ⟨rfl, rfl, trivial⟩, by repeat (first | exact agree_refl | (apply agree_upd rfl) | (apply agree_mix rfl) | (apply agree_sets rfl)), hw3.sel⟩
  clear hw
  rintro σ0 pe w hw
  repeat (first | refine go_run ?_ | (refine go_newP ?_; clear hw; intro p w hw) | (refine go_newWr ?_; clear hw; intro w hw) | (refine go_newS ?_; clear hw; intro s w hw))
  exact res_two (v := .pointer (some pe)) (v' := .nilIface) rfl rfl rfl ⟨pe, rfl, hw⟩
/-! ### Tables -/
end Go.Proofs.YtkmbenhffledpaaGreat
