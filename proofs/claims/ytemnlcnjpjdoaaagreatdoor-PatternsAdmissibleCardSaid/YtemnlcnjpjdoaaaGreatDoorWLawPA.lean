
/-
  The statement 'PatternsAdmissible' returns true.
-/
import Derived.Test.YtemnlcnjpjdoaaaGreatDoorW42c
import Derived.Test.YtemnlcnjpjdoaaaGreatDoorMTA
set_option linter.unusedSimpArgs false
set_option linter.unusedVariables false
namespace Go.Proofs.YtemnlcnjpjdoaaaGreatDoor
open Go.Sl Go
attribute [local irreducible] vc opsW opsD opV opW PureV ReadV Thn Blk

set_option maxRecDepth 8000 in
set_option maxHeartbeats 4000000 in
theorem PatternsAdmissible_walk {w0 : World} {a b c d xv : Value} {vs : List OpV} {t : TTask} {xs : List Int} (ht : RTask w0 a b c d vs t) (hx : RS tU16 w0 xv xs) (hT : TabB w0) :
    Calls Tryz.prog 5 #[.agg #[a, b, c, d], xv] w0 fun e w' => e = .returned (.bool true) ∧ Sat w0 w' [] := by
  have ht' := ht
  obtain ⟨ha, hb, hc, hd⟩ := ht
  have hrs := hd.rs
  have hdl := hd.len
  have hll := hrs.big
  have hw := Sat.start w0
  refine calls_of_vc (args := [.agg #[a, b, c, d], xv]) mixed Tryz.func5 rfl (by kernel_rfl) (Nat.le_of_ble_eq_true rfl) ?_
  repeat (first | refine go_run ?_ | (refine go_newP ?_; clear hw; intro p w hw) | (refine go_newWr ?_; clear hw; intro w hw) | (refine go_newS ?_; clear hw; intro s w hw))
  obtain ⟨pt, hpt⟩ : ∃ pt, pt = p := ⟨p, rfl⟩
  subst hpt
  refine st_call rfl (picked42_spec (ht'.at hw) (hx.at hw)) ?_
  rintro _ w' (⟨_, rfl, hk'⟩ | ⟨hpk, lv, ls, rfl, hk'⟩)
  · replace hw := hw.call0 hk'
    clear hk'
    refine ⟨_, rfl, ?_⟩
    repeat (first | refine go_run ?_ | (refine go_newP ?_; clear hw; intro p w hw) | (refine go_newW ?_; clear hw; intro w hw) | (refine go_newS ?_; clear hw; intro s w hw))
    refine st_call rfl (awake42_spec (hT.at hw)) ?_
    rintro _ w' ⟨rfl, hk'⟩
    replace hw := hw.call0 hk'
    clear hk'
    refine ⟨_, rfl, ?_⟩
    repeat (first | refine go_run ?_ | (refine go_newP ?_; clear hw; intro p w hw) | (refine go_newW ?_; clear hw; intro w hw) | (refine go_newS ?_; clear hw; intro s w hw))
    exact res_one (v := .bool true) rfl rfl ⟨rfl, sat_none hw⟩
  replace hw := hw.call2 hk'
  clear hk'
  refine ⟨_, rfl, ?_⟩
  have hpo := hpk.pats
  have hs := hpk.1
  have hg := hs.good
  have hV := hs.vars
  have hO := hs.ops
  have hM := hs.many
  have hlen : (statesL t.vars).length ≤ 512 := by rw [statesL_len hg.pos]; omega
  have hL6 : (pickLs t xs).length ≤ 6 := by rw [pickLs_len]; exact hpk.2.1
  obtain ⟨Ls, hLs⟩ : ∃ Ls, Ls = pickLs t xs := ⟨_, rfl⟩
  rw [← hLs] at hw hpo hL6
  repeat (first | refine go_run ?_ | (refine go_newP ?_; clear hw; intro p w hw) | (refine go_newW ?_; clear hw; intro w hw) | (refine go_newS ?_; clear hw; intro s w hw))
  refine st_call rfl (awake42_spec (hT.at hw)) ?_
  rintro _ w' ⟨rfl, hk'⟩
  replace hw := hw.call0 hk'
  clear hk'
  refine ⟨_, rfl, ?_⟩
  repeat (first | refine go_run ?_ | (refine go_newP ?_; clear hw; intro p w hw) | (refine go_newW ?_; clear hw; intro w hw) | (refine go_newS ?_; clear hw; intro s w hw))
  refine st_call rfl (paNew_ok (s := lv) (ss := ls) (Ls := Ls) (ht'.at hw) ⟨hw.rs 1 rfl, hw.rowsLen, fun i hi => hw.row hi⟩ (hT.at hw) hpo) ?_
  rintro _ w' ⟨pc, Ds, Cs, rfl, hC, hk'⟩
  replace hw := hw.call1 hk'
  clear hk'
  refine ⟨_, rfl, ?_⟩
  repeat (first | refine go_run ?_ | (refine go_newP ?_; clear hw; intro p w hw) | (refine go_newW ?_; clear hw; intro w hw) | (refine go_newS ?_; clear hw; intro s w hw))
  refine st_call rfl (Distances_spec (kv := .slice none 0 0) (ht'.at hw) (.own rfl rfl) hg (by omega)) ?_
  rintro _ w' ⟨bv, D', rfl, hD', hk'⟩
  replace hw := hw.call1 hk'
  clear hk'
  refine ⟨_, rfl, ?_⟩
  have hDl' := hD'.len
  repeat (first | refine go_run ?_ | (refine go_newP ?_; clear hw; intro p w hw) | (refine go_newW ?_; clear hw; intro w hw) | (refine go_newS ?_; clear hw; intro s w hw))
  refine st_call rfl (States_spec (ha.at hw) hg.pos hg.vars (by omega)) ?_
  rintro _ w' ⟨sv, ss, rfl, hk'⟩
  replace hw := hw.call2 hk'
  clear hk'
  have hss := hw.rowsLen
  refine ⟨_, rfl, ?_⟩
  repeat (first | refine go_run ?_ | (refine go_newP ?_; clear hw; intro p w hw) | (refine go_newW ?_; clear hw; intro w hw) | (refine go_newS ?_; clear hw; intro s w hw))
  obtain ⟨hv, hhv⟩ : ∃ hv, hv = s := ⟨s, rfl⟩
  subst hhv
  rw [hss, Int.toNat_natCast, ← fillL_zero _ (fun (i : Nat) => canV t Ls Ds Cs ((statesL t.vars).getD i []))] at hw
  have hw1 : Sat w0 w [OS tInt 3 hv (fillL (statesL t.vars).length (fun (i : Nat) => canV t Ls Ds Cs ((statesL t.vars).getD i [])) 0), RowsAt tInt 3 ss (statesL t.vars), OS tVal 22 sv ss, OS tInt 3 bv D', RdH (fun w => RCan w pc t Ls Ds Cs), Box pt 26 [a, b, c, d]] := by
    have hw2 : Sat w0 w [OS tInt 3 hv (fillL (statesL t.vars).length (fun (i : Nat) => canV t Ls Ds Cs ((statesL t.vars).getD i [])) 0), RowsAt tInt 3 ss (statesL t.vars), OS tVal 22 sv ss, OS tInt 3 bv D', RdH (fun w => RCan w pc t Ls Ds Cs), RowsAt tInt 3 ls Ls, OS tVal 22 lv ls, Box pt 26 [a, b, c, d]] := hw
    exact hw2.sel
  clear hw
  refine vc_loop [4, 12, 13, 47, 48, 49, 50, 51, 52, 53, 54, 55, 56, 57, 58, 59, 60, 61, 62, 63, 64, 65, 66, 67, 68, 69, 70, 71, 72, 73, 74, 75, 76, 77, 78, 79, 80, 81, 82, 83, 84, 85, 86, 87] (G := Nat) (fun k => [(47, .int .i64 k)]) (fun k w => k ≤ (statesL t.vars).length ∧ Sat w0 w [OS tInt 3 hv (fillL (statesL t.vars).length (fun (i : Nat) => canV t Ls Ds Cs ((statesL t.vars).getD i [])) k), RowsAt tInt 3 ss (statesL t.vars), OS tVal 22 sv ss, OS tInt 3 bv D', RdH (fun w => RCan w pc t Ls Ds Cs), Box pt 26 [a, b, c, d]]) (fun k => (statesL t.vars).length - k) 0 (fun _ => rfl) ⟨rfl, trivial⟩ ⟨Nat.zero_le _, hw1⟩ ?_
  clear hw1
  rintro σ k w ⟨hk, hw⟩
  have hfl := fillL_len (statesL t.vars).length (fun (i : Nat) => canV t Ls Ds Cs ((statesL t.vars).getD i [])) k
  repeat (first | refine go_run ?_ | (refine go_newP ?_; clear hw; intro p w hw) | (refine go_newW ?_; clear hw; intro w hw) | (refine go_newS ?_; clear hw; intro s w hw))
  refine go_if (fun h5 => ?_) (fun h5 => ?_)
  · have hkl : k < (statesL t.vars).length := by omega
    obtain ⟨hst, hrk⟩ := statesL_at hg.pos hkl
    obtain ⟨hat1, hat2⟩ := hC.rng hst
    have hdk := hC.adm hD' hkl
    have hfl2 := fillL_len (statesL t.vars).length (fun (i : Nat) => canV t Ls Ds Cs ((statesL t.vars).getD i [])) (k + 1)
    have hfa := fillL_at (f := (fun (i : Nat) => canV t Ls Ds Cs ((statesL t.vars).getD i []))) hkl (Nat.lt_succ_self k)
    simp only [dg, Int.toNat_natCast] at hdk
    repeat (first | refine go_run ?_ | (refine go_newP ?_; clear hw; intro p w hw) | (refine go_newWr ?_; clear hw; intro w hw) | (refine go_newS ?_; clear hw; intro s w hw))
    refine st_call rfl (CValue_ok (p := pc) (hw.rdE 4 rfl) hC ((hw.focus 1 rfl).row hkl)) ?_
    rintro _ w' ⟨rfl, hk'⟩
    replace hw := hw.call0 hk'
    clear hk'
    rw [canW_ok hst]
    refine ⟨_, rfl, ?_⟩
    repeat (first | refine go_run ?_ | (refine go_newP ?_; clear hw; intro p w hw) | (refine go_newWr ?_; clear hw; intro w hw) | (refine go_newS ?_; clear hw; intro s w hw))
    rw [show (fillL (statesL t.vars).length (fun (i : Nat) => canV t Ls Ds Cs ((statesL t.vars).getD i [])) k).set k (canV t Ls Ds Cs ((statesL t.vars).getD k [])) = fillL (statesL t.vars).length (fun (i : Nat) => canV t Ls Ds Cs ((statesL t.vars).getD i [])) (k + 1) from fillL_set] at hw
    have hde1 : decide ((fillL (statesL t.vars).length (fun (i : Nat) => canV t Ls Ds Cs ((statesL t.vars).getD i [])) (k + 1)).getD k tInt.dflt < 0) = false := by rw [hfa]; exact decide_eq_false (by omega)
    have hde2 : decide (D'.getD k tInt.dflt < (fillL (statesL t.vars).length (fun (i : Nat) => canV t Ls Ds Cs ((statesL t.vars).getD i [])) (k + 1)).getD k tInt.dflt) = false := by rw [hfa]; exact decide_eq_false (by omega)
    refine vc_plan [.op 0, .op 1, .op 2, .op 3, .op 4, .op 5, .op 6, .op 7, .op 8, .op 9, .op 10, .op 11, .op 12, .op 13, .op 14, .op 15, .op 16, .op 17, .op 18, .op 19, .op 20, .op 21, .op 22, .op 23, .op 24, .op 25, .op 26, .op 27, .op 28] hw (by kernel_rfl) ?_; clear hw; intro w hw
    repeat (first | refine go_run ?_ | (refine go_newP ?_; clear hw; intro p w hw) | (refine go_newWr ?_; clear hw; intro w hw) | (refine go_newS ?_; clear hw; intro s w hw))
    simp only [hde1, hde2, Bool.or_self, gvff]
    repeat (first | refine go_run ?_ | (refine go_newP ?_; clear hw; intro p w hw) | (refine go_newWr ?_; clear hw; intro w hw) | (refine go_newS ?_; clear hw; intro s w hw))
    refine st_call rfl (Holds_spec (a := c) (hc.at hw) ((hw.focus 1 rfl).row hkl)) ?_
    rintro _ w' ⟨⟨r, rfl, hr⟩, hk'⟩
    replace hw := hw.call0 hk'
    clear hk'
    refine ⟨_, rfl, ?_⟩
    cases r
    · repeat (first | refine go_run ?_ | (refine go_newP ?_; clear hw; intro p w hw) | (refine go_newWr ?_; clear hw; intro w hw) | (refine go_newS ?_; clear hw; intro s w hw))
      exact ⟨k + 1, ⟨rfl, trivial⟩, by repeat (first | exact agree_refl | (apply agree_upd rfl) | (apply agree_mix rfl) | (apply agree_sets rfl)), ⟨by omega, hw⟩, by omega⟩
    · have hz := hC.goal hst (hr.1 rfl)
      have hde3 : decide ((fillL (statesL t.vars).length (fun (i : Nat) => canV t Ls Ds Cs ((statesL t.vars).getD i [])) (k + 1)).getD k tInt.dflt = 0) = true := by rw [hfa]; exact decide_eq_true hz
      repeat (first | refine go_runC ?_ | (refine go_newP ?_; clear hw; intro p w hw) | (refine go_newW ?_; clear hw; intro w hw) | (refine go_newS ?_; clear hw; intro s w hw))
      simp only [hde3, Bool.not_true]
      repeat (first | refine go_run ?_ | (refine go_newP ?_; clear hw; intro p w hw) | (refine go_newWr ?_; clear hw; intro w hw) | (refine go_newS ?_; clear hw; intro s w hw))
      exact ⟨k + 1, ⟨rfl, trivial⟩, by repeat (first | exact agree_refl | (apply agree_upd rfl) | (apply agree_mix rfl) | (apply agree_sets rfl)), ⟨by omega, hw⟩, by omega⟩
  have hke : k = (statesL t.vars).length := by omega
  subst hke
  repeat (first | refine go_run ?_ | (refine go_newP ?_; clear hw; intro p w hw) | (refine go_newW ?_; clear hw; intro w hw) | (refine go_newS ?_; clear hw; intro s w hw))
  refine st_call rfl (Edges_spec (ht'.at hw) hg (by omega)) ?_
  rintro _ w' ⟨es, rfl, hk'⟩
  replace hw := hw.call1 hk'
  clear hk'
  refine ⟨_, rfl, ?_⟩
  have hel : (edgesT t).length ≤ 512 * 20 := Nat.le_trans (edgesK_len t _) (Nat.mul_le_mul hlen hO)
  repeat (first | refine go_run ?_ | (refine go_newP ?_; clear hw; intro p w hw) | (refine go_newW ?_; clear hw; intro w hw) | (refine go_newS ?_; clear hw; intro s w hw))
  refine vc_loop [4, 15, 91, 92, 93, 94, 95, 96, 97, 98, 99, 100, 101, 102, 103, 104, 105, 106, 107, 108, 109, 110, 111, 112, 113, 114, 115, 116, 117, 118, 119, 120, 121, 122] (G := Nat) (fun k => [(91, .int .i64 k)]) (fun k w => k ≤ (edgesT t).length ∧ Sat w0 w [OS tEdg 55 es (edgesT t), OS tInt 3 hv (fillL (statesL t.vars).length (fun (i : Nat) => canV t Ls Ds Cs ((statesL t.vars).getD i [])) (statesL t.vars).length), Box pt 26 [a, b, c, d]]) (fun k => (edgesT t).length - k) 0 (fun _ => rfl) ⟨rfl, trivial⟩ ⟨Nat.zero_le _, hw.sel⟩ ?_
  clear hw
  rintro σ1 k w ⟨hk, hw⟩
  repeat (first | refine go_run ?_ | (refine go_newP ?_; clear hw; intro p w hw) | (refine go_newW ?_; clear hw; intro w hw) | (refine go_newS ?_; clear hw; intro s w hw))
  refine go_if (fun h6 => ?_) (fun h6 => ?_)
  · have hkl : k < (edgesT t).length := by omega
    obtain ⟨st, op, hs1, hs2, hs3, hs4, ⟨hs5, hs6, hs7⟩, ⟨hs8, hs9, hs10⟩⟩ := edgeT_at hg hkl
    have hf1 := fillL_at (f := (fun (i : Nat) => canV t Ls Ds Cs ((statesL t.vars).getD i []))) hs6 hs6
    have hf2 := fillL_at (f := (fun (i : Nat) => canV t Ls Ds Cs ((statesL t.vars).getD i []))) hs9 hs9
    obtain ⟨hd1, hd1'⟩ := hC.rng hs1
    obtain ⟨hd2, hd2'⟩ := hC.rng (succT_ok hg hs1 hs2)
    have hd3 := hC.step hs1 hs2 hs3
    simp only [hs7, hs10] at hf1 hf2
    have hlabn : ((edgesT t).getD k tEdg.dflt).lab.toNat = op := by omega
    have hopc := (hd.at_ op hs2).cost
    have hco := (costOk_T hg).at hs2
    have hce : (eget tOp vs ((edgesT t).getD k tEdg.dflt).lab.toNat).cost = (costsT t).getD op tInt.dflt := by rw [hlabn, hopc, costsT_at hs2]
    rw [← hce] at hd3 hco
    rw [← hf1, ← hf2] at hd3
    rw [← hf1] at hd1 hd1'
    rw [← hf2] at hd2 hd2'
    simp only [inf] at hd1' hd2' hd3
    have hfl := fillL_len (statesL t.vars).length (fun (i : Nat) => canV t Ls Ds Cs ((statesL t.vars).getD i [])) (statesL t.vars).length
    repeat (first | refine go_run ?_ | (refine go_newP ?_; clear hw; intro p w hw) | (refine go_newW ?_; clear hw; intro w hw) | (refine go_newS ?_; clear hw; intro s w hw))
    refine go_if (fun h7 => ?_) (fun h7 => ?_)
    · exfalso
      have := (hd3 h7.1).2
      omega
    · repeat (first | refine go_run ?_ | (refine go_newP ?_; clear hw; intro p w hw) | (refine go_newW ?_; clear hw; intro w hw) | (refine go_newS ?_; clear hw; intro s w hw))
      exact ⟨k + 1, ⟨rfl, trivial⟩, by repeat (first | exact agree_refl | (apply agree_upd rfl) | (apply agree_mix rfl) | (apply agree_sets rfl)), ⟨by omega, hw.sel⟩, by omega⟩
  · repeat (first | refine go_run ?_ | (refine go_newP ?_; clear hw; intro p w hw) | (refine go_newW ?_; clear hw; intro w hw) | (refine go_newS ?_; clear hw; intro s w hw))
    exact res_one (v := .bool true) rfl rfl ⟨rfl, sat_none hw⟩
end Go.Proofs.YtemnlcnjpjdoaaaGreatDoor
