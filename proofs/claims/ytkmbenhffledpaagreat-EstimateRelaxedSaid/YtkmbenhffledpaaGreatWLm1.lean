
/-
  Contracts of LM-cut's 'greatest', 'highest'.
-/
import Derived.Test.YtkmbenhffledpaaGreatTCut4
import Derived.Test.YtkmbenhffledpaaGreatMW2
import Derived.Test.YtkmbenhffledpaaGreatMSlB
import Derived.Test.YtkmbenhffledpaaGreatMW1
import Derived.Test.YtkmbenhffledpaaGreatMW5
set_option linter.unusedSimpArgs false
set_option linter.unusedVariables false
namespace Go.Proofs.YtkmbenhffledpaaGreat
open Go.Sl Go
attribute [local irreducible] vc opsW opsD opV opW PureV ReadV Thn Blk
set_option maxRecDepth 8000 in
set_option maxHeartbeats 4000000 in
theorem lgreatest_spec {w0 : World} {lv vv : Value} {l V : List Int} (hl : RS tInt w0 lv l) (hv : RS tInt w0 vv V) (hr : ∀ f ∈ l, 0 ≤ f ∧ f < V.length) :
    Calls Tryz.prog 201 #[lv, vv] w0 fun e w' => e = .returned (.int .i64 (grtI V l)) ∧ Sat w0 w' [] := by
  have hlb := hl.big
  have hvb := hv.big
  have hw := Sat.start w0
  refine calls_of_vc (args := [lv, vv]) mixed Tryz.func201 rfl (by kernel_rfl) (Nat.le_of_ble_eq_true rfl) ?_
  repeat (first | refine go_run ?_ | (refine go_newP ?_; clear hw; intro p w hw) | (refine go_newW ?_; clear hw; intro w hw) | (refine go_newS ?_; clear hw; intro s w hw))
  refine vc_loop2 [5, 7, 10, 11, 12, 13, 14, 15, 16, 17, 18, 19, 20, 21, 22, 23, 24, 25, 26, 27, 28, 29, 30, 31, 32, 33, 34, 35, 36, 37, 38, 39, 40, 41, 42, 43, 44] (G := Nat) (H := Int) (fun k o => [(10, .int .i64 k), (5, .int .i64 o)]) (fun k o w => k ≤ l.length ∧ o = grtI V (l.take k) ∧ (o < 0 ∨ (0 ≤ o ∧ o < V.length)) ∧ Sat w0 w []) (fun k _ => l.length - k) 0 (-1) (fun _ _ => rfl) ⟨rfl, rfl, trivial⟩ ⟨Nat.zero_le _, rfl, .inl (by decide), hw⟩ ?_
  clear hw
  rintro σ k o w ⟨hk, ho, hor, hw⟩
  repeat (first | refine go_run ?_ | (refine go_newP ?_; clear hw; intro p w hw) | (refine go_newW ?_; clear hw; intro w hw) | (refine go_newS ?_; clear hw; intro s w hw))
  refine go_if (fun h1 => ?_) (fun h1 => ?_)
  · have hkl : k < l.length := by omega
    have hf := hr _ (mem_getD tInt.dflt hkl)
    have hnx : grtI V (l.take (k + 1)) = grtS V o (l.getD k tInt.dflt) := by rw [take_snoc tInt.dflt hkl, grtI_snoc, ← ho]
    repeat (first | refine go_run ?_ | (refine go_newP ?_; clear hw; intro p w hw) | (refine go_newWr ?_; clear hw; intro w hw) | (refine go_newS ?_; clear hw; intro s w hw))
    refine go_draw ?_
    clear hw
    intro w hw
    by_cases c1 : o < 0
    · have hd1 : decide (o < 0) = true := decide_eq_true c1
      have hc : o < 0 ∨ dg V o < dg V (l.getD k tInt.dflt) ∨ (dg V (l.getD k tInt.dflt) = dg V o ∧ (l.getD k tInt.dflt) < o) := .inl c1
      repeat (first | refine go_run ?_ | (refine go_newP ?_; clear hw; intro p w hw) | (refine go_newWr ?_; clear hw; intro w hw) | (refine go_newS ?_; clear hw; intro s w hw))
      simp only [hd1, beq_self_eq_true, beq_tfI, beq_ftI, Bool.false_and, Bool.true_and, Bool.false_or, Bool.true_or, Bool.not_true, Bool.not_false, Bool.cond_true, Bool.cond_false, gv_fI, gv_tI]
      repeat (first | refine go_run ?_ | (refine go_newP ?_; clear hw; intro p w hw) | (refine go_newWr ?_; clear hw; intro w hw) | (refine go_newS ?_; clear hw; intro s w hw))
      exact ⟨k + 1, (l.getD k tInt.dflt), ⟨rfl, rfl, trivial⟩, by repeat (first | exact agree_refl | (apply agree_upd rfl) | (apply agree_mix rfl) | (apply agree_sets rfl)), ⟨by omega, by rw [hnx, grtS, if_pos hc], .inr hf, hw⟩, by omega⟩
    have hd1 : decide (o < 0) = false := decide_eq_false c1
    have ho2 : 0 ≤ o ∧ o < V.length := by
      rcases hor with h | h
      · exact absurd h c1
      · exact h
    by_cases c2 : dg V o < dg V (l.getD k tInt.dflt)
    · have hd2 : decide (V.getD o.toNat tInt.dflt < V.getD ((l.getD k tInt.dflt)).toNat tInt.dflt) = true := decide_eq_true c2
      have hc : o < 0 ∨ dg V o < dg V (l.getD k tInt.dflt) ∨ (dg V (l.getD k tInt.dflt) = dg V o ∧ (l.getD k tInt.dflt) < o) := .inr (.inl c2)
      repeat (first | refine go_run ?_ | (refine go_newP ?_; clear hw; intro p w hw) | (refine go_newWr ?_; clear hw; intro w hw) | (refine go_newS ?_; clear hw; intro s w hw))
      simp only [hd1, beq_self_eq_true, beq_tfI, beq_ftI, Bool.false_and, Bool.true_and, Bool.false_or, Bool.true_or, Bool.not_true, Bool.not_false, Bool.cond_true, Bool.cond_false, gv_fI, gv_tI]
      repeat (first | refine go_run ?_ | (refine go_newP ?_; clear hw; intro p w hw) | (refine go_newWr ?_; clear hw; intro w hw) | (refine go_newS ?_; clear hw; intro s w hw))
      simp only [hd2, beq_self_eq_true, beq_tfI, beq_ftI, Bool.false_and, Bool.true_and, Bool.false_or, Bool.true_or, Bool.not_true, Bool.not_false, Bool.cond_true, Bool.cond_false, gv_fI, gv_tI]
      repeat (first | refine go_run ?_ | (refine go_newP ?_; clear hw; intro p w hw) | (refine go_newWr ?_; clear hw; intro w hw) | (refine go_newS ?_; clear hw; intro s w hw))
      exact ⟨k + 1, (l.getD k tInt.dflt), ⟨rfl, rfl, trivial⟩, by repeat (first | exact agree_refl | (apply agree_upd rfl) | (apply agree_mix rfl) | (apply agree_sets rfl)), ⟨by omega, by rw [hnx, grtS, if_pos hc], .inr hf, hw⟩, by omega⟩
    have hd2 : decide (V.getD o.toNat tInt.dflt < V.getD ((l.getD k tInt.dflt)).toNat tInt.dflt) = false := decide_eq_false c2
    by_cases c3 : dg V (l.getD k tInt.dflt) = dg V o
    · have hd3 : decide (V.getD ((l.getD k tInt.dflt)).toNat tInt.dflt = V.getD o.toNat tInt.dflt) = true := decide_eq_true c3
      by_cases c4 : (l.getD k tInt.dflt) < o
      · have hd4 : decide ((l.getD k tInt.dflt) < o) = true := decide_eq_true c4
        have hc : o < 0 ∨ dg V o < dg V (l.getD k tInt.dflt) ∨ (dg V (l.getD k tInt.dflt) = dg V o ∧ (l.getD k tInt.dflt) < o) := .inr (.inr ⟨c3, c4⟩)
        repeat (first | refine go_run ?_ | (refine go_newP ?_; clear hw; intro p w hw) | (refine go_newWr ?_; clear hw; intro w hw) | (refine go_newS ?_; clear hw; intro s w hw))
        simp only [hd1, beq_self_eq_true, beq_tfI, beq_ftI, Bool.false_and, Bool.true_and, Bool.false_or, Bool.true_or, Bool.not_true, Bool.not_false, Bool.cond_true, Bool.cond_false, gv_fI, gv_tI]
        repeat (first | refine go_run ?_ | (refine go_newP ?_; clear hw; intro p w hw) | (refine go_newWr ?_; clear hw; intro w hw) | (refine go_newS ?_; clear hw; intro s w hw))
        simp only [hd2, beq_self_eq_true, beq_tfI, beq_ftI, Bool.false_and, Bool.true_and, Bool.false_or, Bool.true_or, Bool.not_true, Bool.not_false, Bool.cond_true, Bool.cond_false, gv_fI, gv_tI]
        repeat (first | refine go_run ?_ | (refine go_newP ?_; clear hw; intro p w hw) | (refine go_newWr ?_; clear hw; intro w hw) | (refine go_newS ?_; clear hw; intro s w hw))
        simp only [hd3, beq_self_eq_true, beq_tfI, beq_ftI, Bool.false_and, Bool.true_and, Bool.false_or, Bool.true_or, Bool.not_true, Bool.not_false, Bool.cond_true, Bool.cond_false, gv_fI, gv_tI]
        repeat (first | refine go_run ?_ | (refine go_newP ?_; clear hw; intro p w hw) | (refine go_newWr ?_; clear hw; intro w hw) | (refine go_newS ?_; clear hw; intro s w hw))
        simp only [hd4, beq_self_eq_true, beq_tfI, beq_ftI, Bool.false_and, Bool.true_and, Bool.false_or, Bool.true_or, Bool.not_true, Bool.not_false, Bool.cond_true, Bool.cond_false, gv_fI, gv_tI]
        repeat (first | refine go_run ?_ | (refine go_newP ?_; clear hw; intro p w hw) | (refine go_newWr ?_; clear hw; intro w hw) | (refine go_newS ?_; clear hw; intro s w hw))
        exact ⟨k + 1, (l.getD k tInt.dflt), ⟨rfl, rfl, trivial⟩, by repeat (first | exact agree_refl | (apply agree_upd rfl) | (apply agree_mix rfl) | (apply agree_sets rfl)), ⟨by omega, by rw [hnx, grtS, if_pos hc], .inr hf, hw⟩, by omega⟩
      · have hd4 : decide ((l.getD k tInt.dflt) < o) = false := decide_eq_false c4
        have hc : ¬ (o < 0 ∨ dg V o < dg V (l.getD k tInt.dflt) ∨ (dg V (l.getD k tInt.dflt) = dg V o ∧ (l.getD k tInt.dflt) < o)) := fun h => by
          rcases h with h | h | h
          · exact c1 h
          · exact c2 h
          · exact c4 h.2
        repeat (first | refine go_run ?_ | (refine go_newP ?_; clear hw; intro p w hw) | (refine go_newWr ?_; clear hw; intro w hw) | (refine go_newS ?_; clear hw; intro s w hw))
        simp only [hd1, beq_self_eq_true, beq_tfI, beq_ftI, Bool.false_and, Bool.true_and, Bool.false_or, Bool.true_or, Bool.not_true, Bool.not_false, Bool.cond_true, Bool.cond_false, gv_fI, gv_tI]
        repeat (first | refine go_run ?_ | (refine go_newP ?_; clear hw; intro p w hw) | (refine go_newWr ?_; clear hw; intro w hw) | (refine go_newS ?_; clear hw; intro s w hw))
        simp only [hd2, beq_self_eq_true, beq_tfI, beq_ftI, Bool.false_and, Bool.true_and, Bool.false_or, Bool.true_or, Bool.not_true, Bool.not_false, Bool.cond_true, Bool.cond_false, gv_fI, gv_tI]
        repeat (first | refine go_run ?_ | (refine go_newP ?_; clear hw; intro p w hw) | (refine go_newWr ?_; clear hw; intro w hw) | (refine go_newS ?_; clear hw; intro s w hw))
        simp only [hd3, beq_self_eq_true, beq_tfI, beq_ftI, Bool.false_and, Bool.true_and, Bool.false_or, Bool.true_or, Bool.not_true, Bool.not_false, Bool.cond_true, Bool.cond_false, gv_fI, gv_tI]
        repeat (first | refine go_run ?_ | (refine go_newP ?_; clear hw; intro p w hw) | (refine go_newWr ?_; clear hw; intro w hw) | (refine go_newS ?_; clear hw; intro s w hw))
        simp only [hd4, beq_self_eq_true, beq_tfI, beq_ftI, Bool.false_and, Bool.true_and, Bool.false_or, Bool.true_or, Bool.not_true, Bool.not_false, Bool.cond_true, Bool.cond_false, gv_fI, gv_tI]
        repeat (first | refine go_run ?_ | (refine go_newP ?_; clear hw; intro p w hw) | (refine go_newWr ?_; clear hw; intro w hw) | (refine go_newS ?_; clear hw; intro s w hw))
        exact ⟨k + 1, o, ⟨rfl, rfl, trivial⟩, by repeat (first | exact agree_refl | (apply agree_upd rfl) | (apply agree_mix rfl) | (apply agree_sets rfl)), ⟨by omega, by rw [hnx, grtS, if_neg hc], hor, hw⟩, by omega⟩
    · have hd3 : decide (V.getD ((l.getD k tInt.dflt)).toNat tInt.dflt = V.getD o.toNat tInt.dflt) = false := decide_eq_false c3
      have hc : ¬ (o < 0 ∨ dg V o < dg V (l.getD k tInt.dflt) ∨ (dg V (l.getD k tInt.dflt) = dg V o ∧ (l.getD k tInt.dflt) < o)) := fun h => by
        rcases h with h | h | h
        · exact c1 h
        · exact c2 h
        · exact c3 h.1
      repeat (first | refine go_run ?_ | (refine go_newP ?_; clear hw; intro p w hw) | (refine go_newWr ?_; clear hw; intro w hw) | (refine go_newS ?_; clear hw; intro s w hw))
      simp only [hd1, beq_self_eq_true, beq_tfI, beq_ftI, Bool.false_and, Bool.true_and, Bool.false_or, Bool.true_or, Bool.not_true, Bool.not_false, Bool.cond_true, Bool.cond_false, gv_fI, gv_tI]
      repeat (first | refine go_run ?_ | (refine go_newP ?_; clear hw; intro p w hw) | (refine go_newWr ?_; clear hw; intro w hw) | (refine go_newS ?_; clear hw; intro s w hw))
      simp only [hd2, beq_self_eq_true, beq_tfI, beq_ftI, Bool.false_and, Bool.true_and, Bool.false_or, Bool.true_or, Bool.not_true, Bool.not_false, Bool.cond_true, Bool.cond_false, gv_fI, gv_tI]
      repeat (first | refine go_run ?_ | (refine go_newP ?_; clear hw; intro p w hw) | (refine go_newWr ?_; clear hw; intro w hw) | (refine go_newS ?_; clear hw; intro s w hw))
      simp only [hd3, beq_self_eq_true, beq_tfI, beq_ftI, Bool.false_and, Bool.true_and, Bool.false_or, Bool.true_or, Bool.not_true, Bool.not_false, Bool.cond_true, Bool.cond_false, gv_fI, gv_tI]
      repeat (first | refine go_run ?_ | (refine go_newP ?_; clear hw; intro p w hw) | (refine go_newWr ?_; clear hw; intro w hw) | (refine go_newS ?_; clear hw; intro s w hw))
      exact ⟨k + 1, o, ⟨rfl, rfl, trivial⟩, by repeat (first | exact agree_refl | (apply agree_upd rfl) | (apply agree_mix rfl) | (apply agree_sets rfl)), ⟨by omega, by rw [hnx, grtS, if_neg hc], hor, hw⟩, by omega⟩
  have hke : k = l.length := by omega
  rw [hke, List.take_of_length_le (Nat.le_refl _)] at ho
  repeat (first | refine go_run ?_ | (refine go_newP ?_; clear hw; intro p w hw) | (refine go_newW ?_; clear hw; intro w hw) | (refine go_newS ?_; clear hw; intro s w hw))
  exact res_one (v := .int .i64 o) rfl rfl ⟨by rw [ho], hw⟩
set_option maxRecDepth 8000 in
set_option maxHeartbeats 4000000 in
theorem lhighest_spec {w0 : World} {lv vv : Value} {l V : List Int} (hl : RS tInt w0 lv l) (hv : RS tInt w0 vv V) (hr : ∀ f ∈ l, 0 ≤ f ∧ f < V.length) :
    Calls Tryz.prog 199 #[lv, vv] w0 fun e w' => e = .returned (.int .i64 (hiV V l)) ∧ Sat w0 w' [] := by
  have hw := Sat.start w0
  refine calls_of_vc (args := [lv, vv]) mixed Tryz.func199 rfl (by kernel_rfl) (Nat.le_of_ble_eq_true rfl) ?_
  repeat (first | refine go_run ?_ | (refine go_newP ?_; clear hw; intro p w hw) | (refine go_newWr ?_; clear hw; intro w hw) | (refine go_newS ?_; clear hw; intro s w hw))
  refine st_call rfl (lgreatest_spec (hl.at hw) (hv.at hw) hr) ?_
  rintro _ w' ⟨rfl, hk'⟩
  replace hw := hw.call0 hk'
  clear hk'
  refine ⟨_, rfl, ?_⟩
  have hg := grtI_ok (V := V) (l := l) fun f hf => (hr f hf).1
  repeat (first | refine go_run ?_ | (refine go_newP ?_; clear hw; intro p w hw) | (refine go_newWr ?_; clear hw; intro w hw) | (refine go_newS ?_; clear hw; intro s w hw))
  refine go_if (fun h1 => ?_) (fun h1 => ?_)
  · have hm : grtI V l ∈ l := by
      rcases hg with ⟨_, h⟩ | ⟨_, h⟩
      · omega
      · exact h.1
    have h2 := hr _ hm
    have e : hiV V l = dg V (grtI V l) := if_neg (by omega)
    repeat (first | refine go_run ?_ | (refine go_newP ?_; clear hw; intro p w hw) | (refine go_newWr ?_; clear hw; intro w hw) | (refine go_newS ?_; clear hw; intro s w hw))
    exact res_one (v := .int .i64 (V.getD (grtI V l).toNat tInt.dflt)) rfl rfl ⟨by rw [e], hw⟩
  · have e : hiV V l = 0 := if_pos (by omega)
    repeat (first | refine go_run ?_ | (refine go_newP ?_; clear hw; intro p w hw) | (refine go_newWr ?_; clear hw; intro w hw) | (refine go_newS ?_; clear hw; intro s w hw))
    exact res_one (v := .int .i64 0) rfl rfl ⟨by rw [e], hw⟩
end Go.Proofs.YtkmbenhffledpaaGreat
