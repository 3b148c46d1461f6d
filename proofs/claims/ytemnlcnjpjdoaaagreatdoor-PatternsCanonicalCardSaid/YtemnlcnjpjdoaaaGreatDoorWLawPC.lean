
/-
  The statement 'PatternsCanonical' returns true.
-/
import Derived.Test.YtemnlcnjpjdoaaaGreatDoorWRef42c
import Derived.Test.YtemnlcnjpjdoaaaGreatDoorWRef42v
set_option linter.unusedSimpArgs false
set_option linter.unusedVariables false
namespace Go.Proofs.YtemnlcnjpjdoaaaGreatDoor
open Go.Sl Go
attribute [local irreducible] vc opsW opsD opV opW PureV ReadV Thn Blk
theorem clq_set {t : TTask} {Ls Ds Cs Es : List (List Int)} (hC : CanOk t Ls Ds Cs) (h0 : Ls.length = 0 → Es = []) (h1 : 0 < Ls.length → CliqL Ls.length (nbA Ls.length (arcP t Ls Ls.length)) Es) : ∀ l, l ∈ Es ↔ l ∈ Cs := fun l => by
  by_cases e : Ls.length = 0
  · rw [h0 e, hC.zero (List.eq_nil_of_length_eq_zero e)]
  · rw [h1 (by omega) l, hC.clq (fun h => e (by rw [h]; rfl)) l]
theorem tabs_eq {t : TTask} {Ls Ds Cs Es : List (List Int)} (hC : CanOk t Ls Ds Cs) (hl : Es.length = Ls.length) (hD : ∀ i, i < Ls.length → DistOk (pEdges t (Ls.getD i [])) (costsT t) (GoalPK t (Ls.getD i [])) (cntL t.vars (Ls.getD i [])).toNat (Es.getD i [])) : Es = Ds :=
  lists_eq (hl.trans hC.dl.symm) fun i hi => (hD i (by omega)).unique (hC.dist i (by omega))
set_option maxRecDepth 8000 in
set_option maxHeartbeats 4000000 in
theorem PatternsCanonical_walk {w0 : World} {a b c d xv : Value} {vs : List OpV} {t : TTask} {xs : List Int} (ht : RTask w0 a b c d vs t) (hx : RS tU16 w0 xv xs) (hT : TabB w0) :
    Calls Tryz.prog 4 #[.agg #[a, b, c, d], xv] w0 fun e w' => e = .returned (.bool true) ∧ Sat w0 w' [] := by
  have ht' := ht
  obtain ⟨ha, hb, hc, hd⟩ := ht
  have hrs := hd.rs
  have hdl := hd.len
  have hll := hrs.big
  have hw := Sat.start w0
  refine calls_of_vc (args := [.agg #[a, b, c, d], xv]) mixed Tryz.func4 rfl (by kernel_rfl) (Nat.le_of_ble_eq_true rfl) ?_
  repeat (first | refine go_run ?_ | (refine go_newP ?_; clear hw; intro p w hw) | (refine go_newWr ?_; clear hw; intro w hw) | (refine go_newS ?_; clear hw; intro s w hw))
  obtain ⟨pt, hpt⟩ : ∃ pt, pt = p := ⟨p, rfl⟩
  subst hpt
  refine st_call rfl (picked42_spec (ht'.at hw) (hx.at hw)) ?_
  rintro _ w' (⟨_, rfl, hk'⟩ | ⟨hpk, lv, ls, rfl, hk'⟩)
  · replace hw := hw.call0 hk'
    clear hk'
    refine ⟨_, rfl, ?_⟩
    repeat (first | refine go_run ?_ | (refine go_newP ?_; clear hw; intro p w hw) | (refine go_newW ?_; clear hw; intro w hw) | (refine go_newS ?_; clear hw; intro s w hw))
    refine st_call rfl (awake42_spec (hT.at hw)) ?_
    rintro _ w' ⟨rfl, hk'⟩
    replace hw := hw.call0 hk'
    clear hk'
    refine ⟨_, rfl, ?_⟩
    repeat (first | refine go_run ?_ | (refine go_newP ?_; clear hw; intro p w hw) | (refine go_newW ?_; clear hw; intro w hw) | (refine go_newS ?_; clear hw; intro s w hw))
    exact res_one (v := .bool true) rfl rfl ⟨rfl, sat_none hw⟩
  replace hw := hw.call2 hk'
  clear hk'
  refine ⟨_, rfl, ?_⟩
  have hpo := hpk.pats
  have hs := hpk.1
  have hg := hs.good
  have hV := hs.vars
  have hO := hs.ops
  have hM := hs.many
  have hlen : (statesL t.vars).length ≤ 512 := by rw [statesL_len hg.pos]; omega
  have hL6 : (pickLs t xs).length ≤ 6 := by rw [pickLs_len]; exact hpk.2.1
  obtain ⟨Ls, hLs⟩ : ∃ Ls, Ls = pickLs t xs := ⟨_, rfl⟩
  rw [← hLs] at hw hpo hL6
  repeat (first | refine go_run ?_ | (refine go_newP ?_; clear hw; intro p w hw) | (refine go_newW ?_; clear hw; intro w hw) | (refine go_newS ?_; clear hw; intro s w hw))
  refine st_call rfl (awake42_spec (hT.at hw)) ?_
  rintro _ w' ⟨rfl, hk'⟩
  replace hw := hw.call0 hk'
  clear hk'
  refine ⟨_, rfl, ?_⟩
  repeat (first | refine go_run ?_ | (refine go_newP ?_; clear hw; intro p w hw) | (refine go_newW ?_; clear hw; intro w hw) | (refine go_newS ?_; clear hw; intro s w hw))
  refine st_call rfl (paNew_ok (s := lv) (ss := ls) (Ls := Ls) (ht'.at hw) ⟨hw.rs 1 rfl, hw.rowsLen, fun i hi => hw.row hi⟩ (hT.at hw) hpo) ?_
  rintro _ w' ⟨pc, Ds, Cs, rfl, hC, hk'⟩
  replace hw := hw.call1 hk'
  clear hk'
  refine ⟨_, rfl, ?_⟩
  repeat (first | refine go_run ?_ | (refine go_newP ?_; clear hw; intro p w hw) | (refine go_newW ?_; clear hw; intro w hw) | (refine go_newS ?_; clear hw; intro s w hw))
  refine st_call rfl (r42Cliques_spec (s := lv) (ss := ls) (Ls := Ls) (ht'.at hw) ⟨hw.rs 2 rfl, (hw.focus 1 rfl).rowsLen, fun i hi => (hw.focus 1 rfl).row hi⟩ (by omega)) ?_
  rintro _ w' ⟨qv, qs, Es, rfl, _, hz, hcq, hk'⟩
  replace hw := hw.call2 hk'
  clear hk'
  refine ⟨_, rfl, ?_⟩
  have hset := clq_set hC hz hcq
  have hci : ∀ l ∈ Es, ∀ i ∈ l, 0 ≤ i ∧ i < Ls.length := fun l hl => hC.ci l ((hset l).1 hl)
  repeat (first | refine go_run ?_ | (refine go_newP ?_; clear hw; intro p w hw) | (refine go_newWr ?_; clear hw; intro w hw) | (refine go_newS ?_; clear hw; intro s w hw))
  refine vc_plan [.op 0, .op 1, .op 2, .op 3, .chk 0, .op 4, .op 5] hw (by kernel_rfl) ?_; clear hw; intro w hw
  repeat (first | refine go_run ?_ | (refine go_newP ?_; clear hw; intro p w hw) | (refine go_newWr ?_; clear hw; intro w hw) | (refine go_newS ?_; clear hw; intro s w hw))
  refine st_call rfl (rCosts_spec (ht'.at hw) (by omega)) ?_
  rintro _ w' ⟨kv, rfl, hk'⟩
  replace hw := hw.call1 hk'
  clear hk'
  refine ⟨_, rfl, ?_⟩
  repeat (first | refine go_run ?_ | (refine go_newP ?_; clear hw; intro p w hw) | (refine go_newWr ?_; clear hw; intro w hw) | (refine go_newS ?_; clear hw; intro s w hw))
  have hw1 : Sat w0 w' [RowsAt tInt 3 qs Es, OS tVal 22 qv qs, RdH (fun w => RCan w pc t Ls Ds Cs), RowsAt tInt 3 ls Ls, OS tVal 22 lv ls, OS tInt 3 kv (costsT t), Box pt 26 [a, b, c, d]] := by
    have hw2 : Sat w0 w' [OS tInt 3 kv (costsT t), RowsAt tInt 3 qs Es, OS tVal 22 qv qs, RdH (fun w => RCan w pc t Ls Ds Cs), RowsAt tInt 3 ls Ls, OS tVal 22 lv ls, Box pt 26 [a, b, c, d]] := hw
    exact hw2.sel
  clear hw
  refine st_call rfl (rTables_spec (s := lv) (ss := ls) (Ls := Ls) (kv := kv) (ht'.at hw1) ⟨hw1.rs 4 rfl, (hw1.focus 3 rfl).rowsLen, fun i hi => (hw1.focus 3 rfl).row hi⟩ (hw1.rs 5 rfl) hpo) ?_
  rintro _ w' ⟨tv, ts, Fs, rfl, hFl, hF, hk'⟩
  have hw := hw1.call2 hk'
  clear hk' hw1
  refine ⟨_, rfl, ?_⟩
  obtain rfl : Ds = Fs := (tabs_eq hC hFl hF).symm
  repeat (first | refine go_run ?_ | (refine go_newP ?_; clear hw; intro p w hw) | (refine go_newW ?_; clear hw; intro w hw) | (refine go_newS ?_; clear hw; intro s w hw))
  refine st_call rfl (States_spec (ha.at hw) hg.pos hg.vars (by omega)) ?_
  rintro _ w' ⟨sv, ss, rfl, hk'⟩
  replace hw := hw.call2 hk'
  clear hk'
  have hss := hw.rowsLen
  refine ⟨_, rfl, ?_⟩
  repeat (first | refine go_run ?_ | (refine go_newP ?_; clear hw; intro p w hw) | (refine go_newW ?_; clear hw; intro w hw) | (refine go_newS ?_; clear hw; intro s w hw))
  refine vc_loop [4, 12, 50, 51, 52, 53, 54, 55, 56, 57, 58, 59, 60, 61, 62, 63, 64] (G := Nat) (fun k => [(50, .int .i64 k)]) (fun k w => k ≤ (statesL t.vars).length ∧ Sat w0 w [RowsAt tInt 3 ss (statesL t.vars), OS tVal 22 sv ss, RowsAt tInt 3 ts Ds, OS tVal 22 tv ts, RowsAt tInt 3 qs Es, OS tVal 22 qv qs, RdH (fun w => RCan w pc t Ls Ds Cs), RowsAt tInt 3 ls Ls, OS tVal 22 lv ls, Box pt 26 [a, b, c, d]]) (fun k => (statesL t.vars).length - k) 0 (fun _ => rfl) ⟨rfl, trivial⟩ ⟨Nat.zero_le _, hw.sel⟩ ?_
  clear hw
  rintro σ k w ⟨hk, hw⟩
  repeat (first | refine go_run ?_ | (refine go_newP ?_; clear hw; intro p w hw) | (refine go_newW ?_; clear hw; intro w hw) | (refine go_newS ?_; clear hw; intro s w hw))
  refine go_if (fun h5 => ?_) (fun h5 => ?_)
  · have hkl : k < (statesL t.vars).length := by omega
    obtain ⟨hst, hrk⟩ := statesL_at hg.pos hkl
    have hve : canV t Ls Ds Es ((statesL t.vars).getD k []) = canV t Ls Ds Cs ((statesL t.vars).getD k []) := bestL_set hset
    repeat (first | refine go_run ?_ | (refine go_newP ?_; clear hw; intro p w hw) | (refine go_newWr ?_; clear hw; intro w hw) | (refine go_newS ?_; clear hw; intro s w hw))
    refine vc_plan [.op 0, .op 1, .op 3, .op 4, .op 5, .op 6, .op 7, .op 2, .chk 3, .op 8, .op 9] hw (by kernel_rfl) ?_; clear hw; intro w hw
    repeat (first | refine go_run ?_ | (refine go_newP ?_; clear hw; intro p w hw) | (refine go_newWr ?_; clear hw; intro w hw) | (refine go_newS ?_; clear hw; intro s w hw))
    refine st_call rfl (CValue_ok (p := pc) (hw.rdE 6 rfl) hC (hw.row hkl)) ?_
    rintro _ w' ⟨rfl, hk'⟩
    replace hw := hw.call0 hk'
    clear hk'
    rw [canW_ok hst]
    refine ⟨_, rfl, ?_⟩
    repeat (first | refine go_run ?_ | (refine go_newP ?_; clear hw; intro p w hw) | (refine go_newWr ?_; clear hw; intro w hw) | (refine go_newS ?_; clear hw; intro s w hw))
    refine st_call rfl (rValue_spec (s := lv) (ss := ls) (Ls := Ls) (cs := qv) (qs := qs) (Cs := Es) (tv := tv) (ts := ts) (Ds := Ds) (x := (statesL t.vars).getD k []) (ht'.at hw) ⟨hw.rs 8 rfl, (hw.focus 7 rfl).rowsLen, fun i hi => (hw.focus 7 rfl).row hi⟩ ⟨hw.rs 5 rfl, (hw.focus 4 rfl).rowsLen, fun i hi => (hw.focus 4 rfl).row hi⟩ ⟨hw.rs 3 rfl, (hw.focus 2 rfl).rowsLen, fun i hi => (hw.focus 2 rfl).row hi⟩ (hw.row hkl) hpo hC.dl hci hC.dist hst) ?_
    rintro _ w' ⟨rfl, hk'⟩
    replace hw := hw.call0 hk'
    clear hk'
    rw [hve]
    refine ⟨_, rfl, ?_⟩
    repeat (first | refine go_run ?_ | (refine go_newP ?_; clear hw; intro p w hw) | (refine go_newWr ?_; clear hw; intro w hw) | (refine go_newS ?_; clear hw; intro s w hw))
    simp only [decide_true, Bool.not_true]
    repeat (first | refine go_run ?_ | (refine go_newP ?_; clear hw; intro p w hw) | (refine go_newWr ?_; clear hw; intro w hw) | (refine go_newS ?_; clear hw; intro s w hw))
    exact ⟨k + 1, ⟨rfl, trivial⟩, by repeat (first | exact agree_refl | (apply agree_upd rfl) | (apply agree_mix rfl) | (apply agree_sets rfl)), ⟨by omega, hw⟩, by omega⟩
  · repeat (first | refine go_run ?_ | (refine go_newP ?_; clear hw; intro p w hw) | (refine go_newW ?_; clear hw; intro w hw) | (refine go_newS ?_; clear hw; intro s w hw))
    exact res_one (v := .bool true) rfl rfl ⟨rfl, sat_none hw⟩
end Go.Proofs.YtemnlcnjpjdoaaaGreatDoor
