
/-
  Contract of the reference's 'Costs'.
-/
import Derived.Test.YtegndanecnicaaaGreatWDist
import Derived.Test.YtegndanecnicaaaGreatTCost
import Derived.Test.YtegndanecnicaaaGreatWSolve
set_option linter.unusedSimpArgs false
set_option linter.unusedVariables false
namespace Go.Proofs.YtegndanecnicaaaGreat
open Go.Sl Go
attribute [local irreducible] vc opsW opsD opV opW PureV ReadV Thn Blk
theorem edgR_at {t : TTask} {k : Nat} (hk : k < (edgesT t).length) : (edgR t).getD k tEdg.dflt = rvE ((edgesT t).getD k tEdg.dflt) := by
  unfold edgR
  rw [getD_at (by rw [List.length_map]; exact hk), getD_at hk, List.getElem_map]
theorem fill_set {k m : Nat} : (List.replicate k inf ++ List.replicate (m + 1) (0 : Int)).set k inf = List.replicate (k + 1) inf ++ List.replicate m 0 := by
  rw [List.set_append_right _ _ (by simp), List.length_replicate, Nat.sub_self, List.replicate_succ (n := m), List.set_cons_zero, List.replicate_succ' (n := k), List.append_assoc]; rfl
set_option maxRecDepth 8000 in
set_option maxHeartbeats 4000000 in
theorem costs48_spec {w0 : World} {a b c d : Value} {vs : List OpV} {t : TTask} (ht : RTask w0 a b c d vs t) (hg : GoodT t) (hB : prodL t.vars ≤ 512) :
    Calls Tryz.prog 27 #[.agg #[a, b, c, d]] w0 fun e w' => ∃ s D, e = .returned s ∧ CostOk t D ∧ Sat w0 w' [OS tInt 3 s D] := by
  have ht' := ht
  obtain ⟨ha, hb, hc, hd⟩ := ht
  have hrs := hd.rs
  have hdl := hd.len
  have hol := hg.ops
  have hpp := prodL_pos hg.pos
  have hsl : (statesL t.vars).length = (prodL t.vars).toNat := statesL_len hg.pos
  have hlen : (statesL t.vars).length ≤ 512 := by omega
  have hE := eok_R hg
  have hel : (edgesT t).length ≤ 65536 * 4096 := Nat.le_trans (edgesK_len t _) (Nat.mul_le_mul (by omega) hol)
  have hrb := rankL_bound hg.init
  have hr0 := statesL_of hg.pos hg.init
  obtain ⟨n, hn⟩ : ∃ n : Nat, n = (statesL t.vars).length := ⟨_, rfl⟩
  have hmany : manyL t.vars 512 = (n : Int) := by rw [manyL, if_pos hB]; omega
  have hw := Sat.start w0
  refine calls_of_vc (args := [.agg #[a, b, c, d]]) mixed Tryz.func27 rfl (by kernel_rfl) (Nat.le_of_ble_eq_true rfl) ?_
  repeat (first | refine go_run ?_ | (refine go_newP ?_; clear hw; intro p w hw) | (refine go_newW ?_; clear hw; intro w hw) | (refine go_newS ?_; clear hw; intro s w hw))
  obtain ⟨pt, hpt⟩ : ∃ pt, pt = p := ⟨p, rfl⟩
  subst hpt
  refine st_call rfl (Many_spec (ha.at hw) hg.pos (by decide) (by decide)) ?_
  rintro _ w' ⟨rfl, hk'⟩
  replace hw := hw.call0 hk'
  clear hk'
  refine ⟨_, rfl, ?_⟩
  rw [hmany]
  repeat (first | refine go_run ?_ | (refine go_newP ?_; clear hw; intro p w hw) | (refine go_newW ?_; clear hw; intro w hw) | (refine go_newS ?_; clear hw; intro s w hw))
  obtain ⟨ov, hov⟩ : ∃ ov, ov = s := ⟨s, rfl⟩
  subst hov
  rw [Int.toNat_natCast] at hw
  have hln : ∀ k, k ≤ n → (List.replicate k inf ++ List.replicate (n - k) (0 : Int)).length = n := fun k hk => by simp; omega
  have hrep : (List.replicate ((n : Int)).toNat (0 : Int)).length = n := by simp
  have hw1 : Sat w0 w [OS tInt 3 ov (List.replicate 0 inf ++ List.replicate (n - 0) (0 : Int)), Box pt 26 [a, b, c, d]] := hw
  repeat (first | refine go_run ?_ | (refine go_newP ?_; clear hw; intro p w hw) | (refine go_newW ?_; clear hw; intro w hw) | (refine go_newS ?_; clear hw; intro s w hw))
  refine vc_loop [4, 15, 16, 17, 18, 19, 20, 21] (G := Nat) (fun k => [(15, .int .i64 k)]) (fun k w => k ≤ n ∧ Sat w0 w [OS tInt 3 ov (List.replicate k inf ++ List.replicate (n - k) (0 : Int)), Box pt 26 [a, b, c, d]]) (fun k => n - k) 0 (fun _ => rfl) ⟨rfl, trivial⟩ ⟨Nat.zero_le _, hw1⟩ ?_
  clear hw hw1
  rintro σ k w ⟨hk1, hw⟩
  have hlk := hln k hk1
  repeat (first | refine go_run ?_ | (refine go_newP ?_; clear hw; intro p w hw) | (refine go_newW ?_; clear hw; intro w hw) | (refine go_newS ?_; clear hw; intro s w hw))
  refine go_if (fun h1 => ?_) (fun h1 => ?_)
  · have hkl : k < n := by omega
    repeat (first | refine go_run ?_ | (refine go_newP ?_; clear hw; intro p w hw) | (refine go_newW ?_; clear hw; intro w hw) | (refine go_newS ?_; clear hw; intro s w hw))
    rw [show n - k = (n - (k + 1)) + 1 by omega, show (1125899906842624 : Int) = inf from rfl, fill_set] at hw
    exact ⟨k + 1, ⟨rfl, trivial⟩, by repeat (first | exact agree_refl | (apply agree_upd rfl) | (apply agree_mix rfl) | (apply agree_sets rfl)), ⟨by omega, hw⟩, by omega⟩
  have hke : k = n := by omega
  rw [hke, Nat.sub_self, List.replicate_zero, List.append_nil] at hw
  have hlr : (List.replicate n inf).length = n := by simp
  repeat (first | refine go_run ?_ | (refine go_newP ?_; clear hw; intro p w hw) | (refine go_newW ?_; clear hw; intro w hw) | (refine go_newS ?_; clear hw; intro s w hw))
  refine st_call rfl (Rank_spec (ha.at hw) (hb.at hw) hg.init hg.pos (by omega)) ?_
  rintro _ w' ⟨rfl, hk'⟩
  replace hw := hw.call0 hk'
  clear hk'
  refine ⟨_, rfl, ?_⟩
  repeat (first | refine go_run ?_ | (refine go_newP ?_; clear hw; intro p w hw) | (refine go_newW ?_; clear hw; intro w hw) | (refine go_newS ?_; clear hw; intro s w hw))
  rw [dist_start (G := InitR t) (by omega) (fun i => ⟨fun h => by have h1 : (i : Int) = rankL t.vars t.init := h; omega, fun h => by show (i : Int) = rankL t.vars t.init; omega⟩), hn] at hw
  clear hlk hrep hln hlr
  repeat (first | refine go_run ?_ | (refine go_newP ?_; clear hw; intro p w hw) | (refine go_newW ?_; clear hw; intro w hw) | (refine go_newS ?_; clear hw; intro s w hw))
  refine st_call rfl (Edges_spec (ht'.at hw) hg (by omega)) ?_
  rintro _ w' ⟨es, rfl, hk'⟩
  replace hw := hw.call1 hk'
  clear hk'
  refine ⟨_, rfl, ?_⟩
  replace hw := hw.swap
  repeat (first | refine go_run ?_ | (refine go_newP ?_; clear hw; intro p w hw) | (refine go_newW ?_; clear hw; intro w hw) | (refine go_newS ?_; clear hw; intro s w hw))
  refine vc_loop2 [6, 8, 31, 32, 33, 34, 35, 36, 37, 38, 39, 40, 41, 42, 43, 44, 45, 46, 47, 48, 49, 50, 51, 52, 53, 54, 55, 56, 57, 58, 59, 60, 61, 62, 63, 64, 65, 66, 67, 68, 69, 70, 71, 72, 73, 74, 75, 76, 77, 78, 79, 80, 81, 82] (G := Bool) (H := List Int) (fun ch _ => [(6, .bool ch)]) (fun ch D w => DInv (edgR t) (costsT t) (InitR t) (statesL t.vars).length D ∧ (ch = false → ∀ e ∈ edgR t, Stab (costsT t) D e) ∧ Sat w0 w [OS tInt 3 ov D, OS tEdg 113 es (edgesT t), Box pt 26 [a, b, c, d]]) (fun ch D => 2 * sumD D + (bif ch then 1 else 0)) true _ (fun _ _ => rfl) ⟨rfl, trivial⟩ ⟨dist0_inv _ _ _ _, (fun h => by cases h), hw⟩ ?_
  clear hw
  rintro σ1 ch D w ⟨hD, hst, hw⟩
  cases ch
  · repeat (first | refine go_run ?_ | (refine go_newP ?_; clear hw; intro p w hw) | (refine go_newW ?_; clear hw; intro w hw) | (refine go_newS ?_; clear hw; intro s w hw))
    exact res_one (v := ov) rfl rfl ⟨ov, D, rfl, cost_ok hg (hD.dist hE (hst rfl)), hw.only⟩
  clear hst
  repeat (first | refine go_run ?_ | (refine go_newP ?_; clear hw; intro p w hw) | (refine go_newW ?_; clear hw; intro w hw) | (refine go_newS ?_; clear hw; intro s w hw))
  refine vc_loop3 [6, 8, 34, 35, 36, 37, 38, 39, 40, 41, 42, 43, 44, 45, 46, 47, 48, 49, 50, 51, 52, 53, 54, 55, 56, 57, 58, 59, 60, 61, 62, 63, 64, 65, 66, 67, 68, 69, 70, 71, 72, 73, 74, 75, 76, 77, 78, 79, 80, 81, 82] (G := Nat) (H := Bool) (I := List Int) (fun k ch _ => [(34, .int .i64 k), (6, .bool ch)]) (fun k ch D' w => k ≤ (edgesT t).length ∧ DInv (edgR t) (costsT t) (InitR t) (statesL t.vars).length D' ∧ sumD D' ≤ sumD D ∧ (ch = true → sumD D' < sumD D) ∧ (ch = false → ∀ i, i < k → Stab (costsT t) D' ((edgR t).getD i tEdg.dflt)) ∧ Sat w0 w [OS tInt 3 ov D', OS tEdg 113 es (edgesT t), Box pt 26 [a, b, c, d]]) (fun k _ _ => (edgesT t).length - k) 0 false D (fun _ _ _ => rfl) ⟨rfl, rfl, trivial⟩ ⟨Nat.zero_le _, hD, Nat.le_refl _, (fun h => by cases h), fun _ i hi => absurd hi (Nat.not_lt_zero _), hw⟩ ?_
  clear hw
  rintro σ2 k ch D' w ⟨hk2, hD', hs1, hs2, hs3, hw⟩
  have hRl : (edgR t).length = (edgesT t).length := by simp [edgR]
  repeat (first | refine go_run ?_ | (refine go_newP ?_; clear hw; intro p w hw) | (refine go_newW ?_; clear hw; intro w hw) | (refine go_newS ?_; clear hw; intro s w hw))
  refine go_if (fun h3 => ?_) (fun h3 => ?_)
  · have hkl : k < (edgesT t).length := by omega
    obtain ⟨e1, e2, e3, e4⟩ := hE.getD (k := k) (by omega)
    have hme := mem_getD (xs := edgR t) tEdg.dflt (show k < (edgR t).length by omega)
    rw [edgR_at hkl] at e1 e2 e3 e4 hme
    have hDl := hD'.len
    have r1 := hD'.rng (rvE ((edgesT t).getD k tEdg.dflt)).dst.toNat (by omega)
    rw [Int.toNat_of_nonneg e2.1] at r1
    simp only [dg, cst, rvE] at r1 e1 e2 e3 e4
    have hcl := costs_len t
    have hopl : ((edgesT t).getD k tEdg.dflt).lab.toNat < t.ops.length := by omega
    have hopc := (hd.at_ _ hopl).cost
    have hce : (eget tOp vs ((edgesT t).getD k tEdg.dflt).lab.toNat).cost = (costsT t).getD ((edgesT t).getD k tEdg.dflt).lab.toNat tInt.dflt := by rw [hopc, costsT_at hopl]
    repeat (first | refine go_run ?_ | (refine go_newP ?_; clear hw; intro p w hw) | (refine go_newW ?_; clear hw; intro w hw) | (refine go_newS ?_; clear hw; intro s w hw))
    rw [hce]
    refine go_if (fun h4 => ?_) (fun h4 => ?_)
    · have hrx := hD'.relax hE hme h4.1 h4.2
      simp only [dg, cst, rvE] at hrx
      repeat (first | refine go_run ?_ | (refine go_newP ?_; clear hw; intro p w hw) | (refine go_newW ?_; clear hw; intro w hw) | (refine go_newS ?_; clear hw; intro s w hw))
      rw [hce] at hw
      exact ⟨k + 1, true, _, ⟨rfl, rfl, trivial⟩, by repeat (first | exact agree_refl | (apply agree_upd rfl) | (apply agree_mix rfl) | (apply agree_sets rfl)), ⟨by omega, hrx.1, by omega, fun _ => by omega, (fun h => by cases h), hw.tail⟩, by omega⟩
    · repeat (first | refine go_run ?_ | (refine go_newP ?_; clear hw; intro p w hw) | (refine go_newW ?_; clear hw; intro w hw) | (refine go_newS ?_; clear hw; intro s w hw))
      refine ⟨k + 1, ch, D', ⟨rfl, rfl, trivial⟩, by repeat (first | exact agree_refl | (apply agree_upd rfl) | (apply agree_mix rfl) | (apply agree_sets rfl)), ⟨by omega, hD', hs1, hs2, fun hch i hi => ?_, hw.tail⟩, by omega⟩
      by_cases e : i = k
      · subst e
        rw [edgR_at hkl]
        intro hlt
        have : inf ≤ dg D' (rvE ((edgesT t).getD i tEdg.dflt)).dst ∨ dg D' (rvE ((edgesT t).getD i tEdg.dflt)).src ≤ dg D' (rvE ((edgesT t).getD i tEdg.dflt)).dst + cst (costsT t) (rvE ((edgesT t).getD i tEdg.dflt)) := h4
        omega
      · exact hs3 hch i (by omega)
  · repeat (first | refine go_run ?_ | (refine go_newP ?_; clear hw; intro p w hw) | (refine go_newW ?_; clear hw; intro w hw) | (refine go_newS ?_; clear hw; intro s w hw))
    refine ⟨ch, D', ⟨rfl, trivial⟩, by repeat (first | exact agree_refl | (apply agree_upd rfl) | (apply agree_mix rfl) | (apply agree_sets rfl)), ⟨hD', fun hch e he => ?_, hw⟩, ?_⟩
    · obtain ⟨i, hi, rfl⟩ := List.getElem_of_mem he
      have := hs3 hch i (by omega)
      rwa [getD_at hi] at this
    · cases ch
      · simp only [cond_true, cond_false]; omega
      · have := hs2 rfl
        simp only [cond_true]; omega
end Go.Proofs.YtegndanecnicaaaGreat
