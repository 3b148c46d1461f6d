
/-
  The statement 'SaturateBudget' returns true.
-/
import Derived.Test.YtnoiagnmbipppaaWPicked
import Derived.Test.YtnoiagnmbipppaaWPdbAw
import Derived.Test.YtnoiagnmbipppaaTSat2
set_option linter.unusedSimpArgs false
set_option linter.unusedVariables false
namespace Go.Proofs.Ytnoiagnmbipppaa
open Go.Sl Go
attribute [local irreducible] vc opsW opsD opV opW PureV ReadV Thn Blk

set_option maxRecDepth 8000 in
set_option maxHeartbeats 4000000 in
theorem SaturateBudget_walk {w0 : World} {a b c d xv : Value} {vs : List OpV} {t : TTask} {xs : List Int} (ht : RTask w0 a b c d vs t) (hx : RS tU16 w0 xv xs) :
    Calls Try.prog 6 #[.agg #[a, b, c, d], xv] w0 fun e w' => e = .returned (.bool true) ∧ Sat w0 w' [] := by
  have ht' := ht
  obtain ⟨ha, hb, hc, hd⟩ := ht
  have hrs := hd.rs
  have hdl := hd.len
  have hll := hrs.big
  have hw := Sat.start w0
  refine calls_of_vc (args := [.agg #[a, b, c, d], xv]) mixed Try.func6 rfl (by kernel_rfl) (Nat.le_of_ble_eq_true rfl) ?_
  repeat (first | refine go_run ?_ | (refine go_newP ?_; clear hw; intro p w hw) | (refine go_newWr ?_; clear hw; intro w hw) | (refine go_newS ?_; clear hw; intro s w hw))
  obtain ⟨pt, hpt⟩ : ∃ pt, pt = p := ⟨p, rfl⟩
  subst hpt
  refine st_call rfl (picked_spec (ht'.at hw) (hx.at hw)) ?_
  rintro _ w' (⟨_, rfl, hk'⟩ | ⟨hpk, lv, ls, rfl, hk'⟩)
  · replace hw := hw.call0 hk'
    clear hk'
    refine ⟨_, rfl, ?_⟩
    repeat (first | refine go_run ?_ | (refine go_newP ?_; clear hw; intro p w hw) | (refine go_newW ?_; clear hw; intro w hw) | (refine go_newS ?_; clear hw; intro s w hw))
    refine st_call rfl sawake_spec ?_
    rintro _ w' ⟨rfl, hk'⟩
    replace hw := hw.call0 hk'
    clear hk'
    refine ⟨_, rfl, ?_⟩
    repeat (first | refine go_run ?_ | (refine go_newP ?_; clear hw; intro p w hw) | (refine go_newW ?_; clear hw; intro w hw) | (refine go_newS ?_; clear hw; intro s w hw))
    exact res_one (v := .bool true) rfl rfl ⟨rfl, sat_none hw⟩
  replace hw := hw.call2 hk'
  clear hk'
  refine ⟨_, rfl, ?_⟩
  have hs := hpk.1
  have hg := hs.good
  have hV := hs.vars
  have hO := hs.ops
  have hM := hs.many
  have hlen : (statesL t.vars).length ≤ 512 := by rw [statesL_len hg.pos]; omega
  have hne := hpk.nerr
  have hpe := hpk.err
  have hL6 : (pickLs t xs).length ≤ 6 := by rw [pickLs_len]; exact hpk.2.1
  have hin : ∀ k, k < (pickLs t xs).length → InV t.vars ((pickLs t xs).getD k []) := fun k hk => PickOk.inV (by rw [pickLs_len] at hk; exact hk)
  have hsm : ∀ k, k < (pickLs t xs).length → cntL t.vars ((pickLs t xs).getD k []) ≤ 64 := fun k hk => by
    rw [pickLs_len] at hk
    rw [pickLs_at hk]; exact hpk.2.2 k hk
  obtain ⟨Ls, hLs⟩ : ∃ Ls, Ls = pickLs t xs := ⟨_, rfl⟩
  rw [← hLs] at hw hne hpe hL6 hin hsm
  have hlsl := hw.rowsLen
  repeat (first | refine go_run ?_ | (refine go_newP ?_; clear hw; intro p w hw) | (refine go_newWr ?_; clear hw; intro w hw) | (refine go_newS ?_; clear hw; intro s w hw))
  by_cases h0 : t.ops.length = 0
  · have hd0 : decide ((vs.length : Int) = 0) = true := decide_eq_true (by omega)
    simp only [hd0]
    repeat (first | refine go_run ?_ | (refine go_newP ?_; clear hw; intro p w hw) | (refine go_newWr ?_; clear hw; intro w hw) | (refine go_newS ?_; clear hw; intro s w hw))
    refine st_call rfl sawake_spec ?_
    rintro _ w' ⟨rfl, hk'⟩
    replace hw := hw.call0 hk'
    clear hk'
    refine ⟨_, rfl, ?_⟩
    repeat (first | refine go_run ?_ | (refine go_newP ?_; clear hw; intro p w hw) | (refine go_newW ?_; clear hw; intro w hw) | (refine go_newS ?_; clear hw; intro s w hw))
    exact res_one (v := .bool true) rfl rfl ⟨rfl, sat_none hw⟩
  have hd0 : decide ((vs.length : Int) = 0) = false := decide_eq_false (by omega)
  simp only [hd0]
  repeat (first | refine go_run ?_ | (refine go_newP ?_; clear hw; intro p w hw) | (refine go_newWr ?_; clear hw; intro w hw) | (refine go_newS ?_; clear hw; intro s w hw))
  refine st_call rfl sawake_spec ?_
  rintro _ w' ⟨rfl, hk'⟩
  replace hw := hw.call0 hk'
  clear hk'
  refine ⟨_, rfl, ?_⟩
  repeat (first | refine go_run ?_ | (refine go_newP ?_; clear hw; intro p w hw) | (refine go_newW ?_; clear hw; intro w hw) | (refine go_newS ?_; clear hw; intro s w hw))
  refine st_call rfl (New_spec (s := lv) (ss := ls) (Ls := Ls) (ht'.at hw) ⟨hw.rs 1 rfl, hw.rowsLen, fun i hi => hw.row hi⟩ (fun _ _ _ => hpe)) ?_
  rintro _ w' (⟨h1, _⟩ | ⟨_, _, _, _, pp, Ds, Ps, rfl, hR, hk'⟩)
  · exact absurd hne h1
  replace hw := hw.call1 hk'
  clear hk'
  refine ⟨_, rfl, ?_⟩
  have hSC : SatC t Ls Ds Ps := ⟨hR, hg, hin, hsm, by omega⟩
  have hPl := hR.pl
  have hDl := hR.dl
  have hpc := fun k (hk : k < Ls.length) => part_cost hSC hk
  repeat (first | refine go_run ?_ | (refine go_newP ?_; clear hw; intro p w hw) | (refine go_newW ?_; clear hw; intro w hw) | (refine go_newS ?_; clear hw; intro s w hw))
  refine st_call rfl (Parts_spec (hw.rdE 0 rfl) (by omega) (fun i hi => by have := (hpc i (by omega)).1; omega)) ?_
  rintro _ w' ⟨pv, ps, rfl, hk'⟩
  replace hw := hw.call2 hk'
  clear hk'
  refine ⟨_, rfl, ?_⟩
  have hpsl := hw.rowsLen
  repeat (first | refine go_run ?_ | (refine go_newP ?_; clear hw; intro p w hw) | (refine go_newW ?_; clear hw; intro w hw) | (refine go_newS ?_; clear hw; intro s w hw))
  refine go_if (fun h1 => ?_) (fun h1 => ?_)
  · exfalso; omega
  repeat (first | refine go_run ?_ | (refine go_newP ?_; clear hw; intro p w hw) | (refine go_newW ?_; clear hw; intro w hw) | (refine go_newS ?_; clear hw; intro s w hw))
  refine st_call rfl (rCosts_spec (ht'.at hw) (by omega)) ?_
  rintro _ w' ⟨cv, rfl, hk'⟩
  replace hw := hw.call1 hk'
  clear hk'
  refine ⟨_, rfl, ?_⟩
  repeat (first | refine go_run ?_ | (refine go_newP ?_; clear hw; intro p w hw) | (refine go_newW ?_; clear hw; intro w hw) | (refine go_newS ?_; clear hw; intro s w hw))
  have hw1 : Sat w0 w' [OS tInt 3 cv (leftK (costsT t) Ps 0), RdH (DbF t Ls [] (Ds.take 0)), OS tVal 30 (.slice none 0 0) [], RowsAt tInt 3 ps Ps, OS tVal 22 pv ps, RdH (fun w => RPt w pp t Ls Ds Ps), RowsAt tInt 3 ls Ls, OS tVal 22 lv ls, Box pt 26 [a, b, c, d]] := by
    have hw2 : Sat w0 w' [OS tInt 3 cv (costsT t), RowsAt tInt 3 ps Ps, OS tVal 22 pv ps, RdH (fun w => RPt w pp t Ls Ds Ps), RowsAt tInt 3 ls Ls, OS tVal 22 lv ls, Box pt 26 [a, b, c, d]] := hw
    have hw3 := Sat.rd0 (φ := DbF t Ls [] []) (fun w => ⟨rfl, fun i hi => absurd hi (Nat.not_lt_zero _)⟩) (hw2.nil (T := tVal) (e := 30))
    rw [leftK_zero, List.take_zero]
    exact hw3.sel
  clear hw
  refine vc_loop3 [4, 11, 12, 13, 14, 15, 16, 17, 61, 62, 63, 64, 65, 66, 67, 68, 69, 70, 71, 72, 73, 74, 75, 76, 77, 78, 79, 80, 81, 82, 83, 84, 85, 86, 87, 88, 89, 90, 91, 92, 93, 94, 95, 96, 97, 98, 99, 100, 101, 102, 103, 104, 105, 106, 107, 108, 109, 110, 111] (G := Nat) (H := Value) (I := List Value) (fun k av _ => [(61, .int .i64 k), (11, av)]) (fun k av qs w => k ≤ Ls.length ∧ qs.length = k ∧ Sat w0 w [OS tInt 3 cv (leftK (costsT t) Ps k), RdH (DbF t Ls qs (Ds.take k)), OS tVal 30 av qs, RowsAt tInt 3 ps Ps, OS tVal 22 pv ps, RdH (fun w => RPt w pp t Ls Ds Ps), RowsAt tInt 3 ls Ls, OS tVal 22 lv ls, Box pt 26 [a, b, c, d]]) (fun k _ _ => Ls.length - k) 0 (.slice none 0 0) [] (fun _ _ _ => rfl) ⟨rfl, rfl, trivial⟩ ⟨Nat.zero_le _, rfl, hw1⟩ ?_
  clear hw1
  rintro σ k av qs w ⟨hk, hql, hw⟩
  repeat (first | refine go_run ?_ | (refine go_newP ?_; clear hw; intro p w hw) | (refine go_newW ?_; clear hw; intro w hw) | (refine go_newS ?_; clear hw; intro s w hw))
  refine go_if (fun h2 => ?_) (fun h2 => ?_)
  · have hkl : k < Ls.length := by omega
    obtain ⟨hp1, hp2, hp3⟩ := hpc k hkl
    have hll := leftK_len (costsT t) Ps k
    have hcl : (costsT t).length = t.ops.length := by simp [costsT]
    have hCk := hSC.run.cost (costOk_T hg) k (by omega)
    obtain ⟨S, hS⟩ : ∃ S, S = Ps.getD k [] := ⟨_, rfl⟩
    have hrow : ∀ {w}, Sat w0 w [OS tInt 3 cv (leftK (costsT t) Ps k), RdH (DbF t Ls qs (Ds.take k)), OS tVal 30 av qs, RowsAt tInt 3 ps Ps, OS tVal 22 pv ps, RdH (fun w => RPt w pp t Ls Ds Ps), RowsAt tInt 3 ls Ls, OS tVal 22 lv ls, Box pt 26 [a, b, c, d]] → RS tInt w (vget ps k) S := fun hw => by rw [hS]; exact (hw.focus 3 rfl).row (by omega)
    have hr0 := hrow hw
    rw [← hS] at hp1 hp2 hp3
    repeat (first | refine go_run ?_ | (refine go_newP ?_; clear hw; intro p w hw) | (refine go_newW ?_; clear hw; intro w hw) | (refine go_newS ?_; clear hw; intro s w hw))
    refine go_if (fun h3 => ?_) (fun h3 => ?_)
    · exfalso; omega
    repeat (first | refine go_run ?_ | (refine go_newP ?_; clear hw; intro p w hw) | (refine go_newW ?_; clear hw; intro w hw) | (refine go_newS ?_; clear hw; intro s w hw))
    rw [← subK_zero (leftK (costsT t) Ps k) S] at hw
    refine vc_loop [4, 14, 15, 73, 74, 75, 76, 77, 78, 79, 80, 81, 82, 83, 84, 85, 86, 87, 88, 89, 90, 91, 92, 93, 94] (G := Nat) (fun j => [(73, .int .i64 j)]) (fun j w => j ≤ t.ops.length ∧ Sat w0 w [OS tInt 3 cv (subK (leftK (costsT t) Ps k) S j), RdH (DbF t Ls qs (Ds.take k)), OS tVal 30 av qs, RowsAt tInt 3 ps Ps, OS tVal 22 pv ps, RdH (fun w => RPt w pp t Ls Ds Ps), RowsAt tInt 3 ls Ls, OS tVal 22 lv ls, Box pt 26 [a, b, c, d]]) (fun j => t.ops.length - j) 0 (fun _ => rfl) ⟨rfl, trivial⟩ ⟨Nat.zero_le _, hw⟩ ?_
    clear hw hr0
    rintro σ1 j w ⟨hj, hw⟩
    have hlj := subK_len (leftK (costsT t) Ps k) S j
    have hr1 : RS tInt w (vget ps k) S := by rw [hS]; exact (hw.focus 3 rfl).row (by omega)
    repeat (first | refine go_run ?_ | (refine go_newP ?_; clear hw; intro p w hw) | (refine go_newW ?_; clear hw; intro w hw) | (refine go_newS ?_; clear hw; intro s w hw))
    refine go_if (fun h4 => ?_) (fun h4 => ?_)
    · have hjl : j < t.ops.length := by omega
      have hsj := hp2 j hjl
      have hcj := hCk.at hjl
      have hat := subK_at (a := leftK (costsT t) Ps k) (b := S) (j := j) (by omega)
      repeat (first | refine go_run ?_ | (refine go_newP ?_; clear hw; intro p w hw) | (refine go_newW ?_; clear hw; intro w hw) | (refine go_newS ?_; clear hw; intro s w hw))
      rw [hat, subK_set] at hw
      have hlj2 := subK_len (leftK (costsT t) Ps k) S (j + 1)
      have hat2 : (subK (leftK (costsT t) Ps k) S (j + 1)).getD j tInt.dflt = (leftK (costsT t) Ps k).getD j tInt.dflt - S.getD j tInt.dflt := by
        simp [subK, List.getD, show j < (leftK (costsT t) Ps k).length by omega]
      repeat (first | refine go_run ?_ | (refine go_newP ?_; clear hw; intro p w hw) | (refine go_newW ?_; clear hw; intro w hw) | (refine go_newS ?_; clear hw; intro s w hw))
      refine go_if (fun h5 => ?_) (fun h5 => ?_)
      · exfalso; omega
      repeat (first | refine go_run ?_ | (refine go_newP ?_; clear hw; intro p w hw) | (refine go_newW ?_; clear hw; intro w hw) | (refine go_newS ?_; clear hw; intro s w hw))
      exact ⟨j + 1, ⟨rfl, trivial⟩, by repeat (first | exact agree_refl | (apply agree_upd rfl) | (apply agree_mix rfl) | (apply agree_sets rfl)), ⟨by omega, hw⟩, by omega⟩
    have hje : j = t.ops.length := by omega
    subst hje
    have hnx : leftK (costsT t) Ps (k + 1) = subL (leftK (costsT t) Ps k) S := by rw [leftK_succ (by omega), hS]
    have hend : subK (leftK (costsT t) Ps k) S t.ops.length = subL (leftK (costsT t) Ps k) S := by rw [← hcl, ← hll, subK_end]
    rw [hend, ← hnx] at hw
    have hpk := hpe k hkl
    repeat (first | refine go_run ?_ | (refine go_newP ?_; clear hw; intro p w hw) | (refine go_newWr ?_; clear hw; intro w hw) | (refine go_newS ?_; clear hw; intro s w hw))
    refine vc_plan [.op 0, .op 1, .op 2, .op 3, .op 4, .op 5, .op 6, .op 7, .op 8, .op 9, .op 10, .op 11] hw (by kernel_rfl) ?_; clear hw; intro w hw
    repeat (first | refine go_run ?_ | (refine go_newP ?_; clear hw; intro p w hw) | (refine go_newWr ?_; clear hw; intro w hw) | (refine go_newS ?_; clear hw; intro s w hw))
    refine st_call rfl (Build_spec (kv := vget ps k) (vp := vget ls k) (L := Ls.getD k []) (cs := S) (ht'.at hw) ((hw.focus 6 rfl).row hkl) (by rw [hS]; exact (hw.focus 3 rfl).row (by omega))) ?_
    rintro _ w' (⟨h1', _⟩ | ⟨_, _, _, _, q, D, rfl, hD, hk'⟩)
    · exact absurd (hp3.berr hg hpk) h1'
    rw [csU_eq hp3.len, hS] at hD
    obtain rfl := part_table hSC hkl hD
    replace hw := hw.call1 hk'
    clear hk'
    refine ⟨_, rfl, ?_⟩
    repeat (first | refine go_run ?_ | (refine go_newP ?_; clear hw; intro p w hw) | (refine go_newW ?_; clear hw; intro w hw) | (refine go_newSv ?_; clear hw; intro s w hw))
    refine st_buildSlice1 tVal (x1 := .pointer (some q)) rfl rfl rfl (Nat.le_of_ble_eq_true rfl) (Nat.zero_lt_succ _) hw ?_
    clear hw
    intro bs w hw
    refine st_append (s := av) (s2 := bs) inferInstance rfl rfl (rsO hw) rfl rfl (fun x hx v hv => by rw [List.mem_singleton.1 hx] at hv; rw [List.mem_singleton.1 hv]; rfl) (by simp only [List.length_cons, List.length_nil]; omega) (by unfold big; simp only [List.length_cons, List.length_nil]; omega) hw ?_
    clear hw
    intro av2 w hw
    repeat (first | refine go_run ?_ | (refine go_newP ?_; clear hw; intro p w hw) | (refine go_newW ?_; clear hw; intro w hw) | (refine go_newS ?_; clear hw; intro s w hw))
    have hw2 : Sat w0 w [OS tInt 3 cv (leftK (costsT t) Ps (k + 1)), RdH (DbF t Ls (qs ++ [.pointer (some q)]) (Ds.take (k + 1))), OS tVal 30 av2 (qs ++ [.pointer (some q)]), RowsAt tInt 3 ps Ps, OS tVal 22 pv ps, RdH (fun w => RPt w pp t Ls Ds Ps), RowsAt tInt 3 ls Ls, OS tVal 22 lv ls, Box pt 26 [a, b, c, d]] := by
      have h1 : Sat w0 w [DbO q (dbI t (Ls.getD k []) (Ds.getD k [])), RdH (DbF t Ls qs (Ds.take k)), OS tVal 30 av2 (qs ++ [.pointer (some q)]), OS tInt 3 cv (leftK (costsT t) Ps (k + 1)), RowsAt tInt 3 ps Ps, OS tVal 22 pv ps, RdH (fun w => RPt w pp t Ls Ds Ps), RowsAt tInt 3 ls Ls, OS tVal 22 lv ls, Box pt 26 [a, b, c, d]] := hw.sel
      have h2 := Sat.rd (Δ := [DbO q (dbI t (Ls.getD k []) (Ds.getD k [])), RdH (DbF t Ls qs (Ds.take k))]) (φ := DbF t Ls (qs ++ [.pointer (some q)]) (Ds.take (k + 1))) (fun w0 w hw => by
        have hl : (Ds.take k).length = k := by rw [List.length_take]; omega
        rw [take_snoc [] (by omega)]
        exact DbF.snoc (hw.rdE 1 rfl) (by rw [hl]; exact rdbO hw)) h1
      exact h2.sel
    exact ⟨k + 1, av2, _, ⟨rfl, rfl, trivial⟩, by repeat (first | exact agree_refl | (apply agree_upd rfl) | (apply agree_mix rfl) | (apply agree_sets rfl)), ⟨by omega, by simp [hql], hw2⟩, by omega⟩
  have hke : k = Ls.length := by omega
  subst hke
  rw [show Ds.take Ls.length = Ds by rw [List.take_of_length_le (by omega)]] at hw
  repeat (first | refine go_run ?_ | (refine go_newP ?_; clear hw; intro p w hw) | (refine go_newW ?_; clear hw; intro w hw) | (refine go_newS ?_; clear hw; intro s w hw))
  refine st_call rfl (States_spec (ha.at hw) hg.pos hg.vars (by omega)) ?_
  rintro _ w' ⟨sv, ss, rfl, hk'⟩
  replace hw := hw.call2 hk'
  clear hk'
  have hss := hw.rowsLen
  refine ⟨_, rfl, ?_⟩
  repeat (first | refine go_run ?_ | (refine go_newP ?_; clear hw; intro p w hw) | (refine go_newW ?_; clear hw; intro w hw) | (refine go_newS ?_; clear hw; intro s w hw))
  have hw1 : Sat w0 w' [RowsAt tInt 3 ss (statesL t.vars), OS tVal 22 sv ss, RdH (DbF t Ls qs Ds), OS tVal 30 av qs, RdH (fun w => RPt w pp t Ls Ds Ps)] := by
    have hw2 : Sat w0 w' [RowsAt tInt 3 ss (statesL t.vars), OS tVal 22 sv ss, OS tInt 3 cv (leftK (costsT t) Ps Ls.length), RdH (DbF t Ls qs Ds), OS tVal 30 av qs, RowsAt tInt 3 ps Ps, OS tVal 22 pv ps, RdH (fun w => RPt w pp t Ls Ds Ps), RowsAt tInt 3 ls Ls, OS tVal 22 lv ls, Box pt 26 [a, b, c, d]] := hw
    exact hw2.sel
  clear hw
  refine vc_loop [4, 19, 20, 22, 116, 117, 118, 119, 120, 121, 122, 123, 124, 125, 126, 127, 128, 129, 130, 131, 132, 133, 134, 135, 136, 137, 138] (G := Nat) (fun k => [(116, .int .i64 k)]) (fun k w => k ≤ (statesL t.vars).length ∧ Sat w0 w [RowsAt tInt 3 ss (statesL t.vars), OS tVal 22 sv ss, RdH (DbF t Ls qs Ds), OS tVal 30 av qs, RdH (fun w => RPt w pp t Ls Ds Ps)]) (fun k => (statesL t.vars).length - k) 0 (fun _ => rfl) ⟨rfl, trivial⟩ ⟨Nat.zero_le _, hw1⟩ ?_
  clear hw1
  rintro σ2 k w ⟨hk, hw⟩
  repeat (first | refine go_run ?_ | (refine go_newP ?_; clear hw; intro p w hw) | (refine go_newW ?_; clear hw; intro w hw) | (refine go_newS ?_; clear hw; intro s w hw))
  refine go_if (fun h6 => ?_) (fun h6 => ?_)
  · have hkl : k < (statesL t.vars).length := by omega
    obtain ⟨hst, hrk⟩ := statesL_at hg.pos hkl
    obtain ⟨S, hSt⟩ : ∃ S, S = (statesL t.vars).getD k [] := ⟨_, rfl⟩
    repeat (first | refine go_run ?_ | (refine go_newP ?_; clear hw; intro p w hw) | (refine go_newW ?_; clear hw; intro w hw) | (refine go_newS ?_; clear hw; intro s w hw))
    refine vc_loop [20, 22, 122, 123, 124, 125, 126, 127, 128, 129, 130, 131, 132] (G := Nat) (fun j => [(122, .int .i64 j), (20, .int .i64 (capS (valK t Ls Ds ((statesL t.vars).getD k [])) j))]) (fun j w => j ≤ Ls.length ∧ Sat w0 w [RowsAt tInt 3 ss (statesL t.vars), OS tVal 22 sv ss, RdH (DbF t Ls qs Ds), OS tVal 30 av qs, RdH (fun w => RPt w pp t Ls Ds Ps)]) (fun j => Ls.length - j) 0 (fun _ => rfl) ⟨rfl, rfl, trivial⟩ ⟨Nat.zero_le _, hw⟩ ?_
    clear hw
    rintro σ3 j w ⟨hj, hw⟩
    repeat (first | refine go_run ?_ | (refine go_newP ?_; clear hw; intro p w hw) | (refine go_newW ?_; clear hw; intro w hw) | (refine go_newS ?_; clear hw; intro s w hw))
    refine go_if (fun h7 => ?_) (fun h7 => ?_)
    · have hjl : j < Ls.length := by omega
      obtain ⟨q, hq, hdb⟩ := (hw.rdE (φ := DbF t Ls qs Ds) 2 rfl).2 j (by omega)
      have hdo := dbI_ok (hpe j hjl) (hSC.run.dist j hjl)
      have hval : valD (dbI t (Ls.getD j []) (Ds.getD j [])) ((statesL t.vars).getD k []) = valK t Ls Ds ((statesL t.vars).getD k []) j := valD_ok hst
      have hvr := hSC.rng hst hjl
      have hcr := capS_rng (f := valK t Ls Ds ((statesL t.vars).getD k [])) (n := j) fun i hi => (hSC.rng hst (by omega)).1
      have hcs : capS (valK t Ls Ds ((statesL t.vars).getD k [])) (j + 1) = if capS (valK t Ls Ds ((statesL t.vars).getD k [])) j + valK t Ls Ds ((statesL t.vars).getD k []) j < 1125899906842624 then capS (valK t Ls Ds ((statesL t.vars).getD k [])) j + valK t Ls Ds ((statesL t.vars).getD k []) j else 1125899906842624 := by
        simp only [capS, inf]
        split <;> omega
      simp only [inf] at hvr hcr
      repeat (first | refine go_run ?_ | (refine go_newP ?_; clear hw; intro p w hw) | (refine go_newWr ?_; clear hw; intro w hw) | (refine go_newS ?_; clear hw; intro s w hw))
      rw [hq]
      refine st_call rfl (Value_spec hdb hdo ((hw.focus 0 rfl).row hkl)) ?_
      rintro _ w' ⟨rfl, hk'⟩
      replace hw := hw.call0 hk'
      clear hk'
      rw [hval]
      refine ⟨_, rfl, ?_⟩
      repeat (first | refine go_run ?_ | (refine go_newP ?_; clear hw; intro p w hw) | (refine go_newW ?_; clear hw; intro w hw) | (refine go_newS ?_; clear hw; intro s w hw))
      exact ⟨j + 1, ⟨rfl, by rw [hcs]; rfl, trivial⟩, by repeat (first | exact agree_refl | (apply agree_upd rfl) | (apply agree_mix rfl) | (apply agree_sets rfl)), ⟨by omega, hw⟩, by omega⟩
    have hje : j = Ls.length := by omega
    subst hje
    rw [hSC.cap hst]
    repeat (first | refine go_run ?_ | (refine go_newP ?_; clear hw; intro p w hw) | (refine go_newW ?_; clear hw; intro w hw) | (refine go_newS ?_; clear hw; intro s w hw))
    refine st_call rfl (PValue_spec (hw.rdE 4 rfl) hR (by omega) hpe ((hw.focus 0 rfl).row hkl)) ?_
    rintro _ w' ⟨rfl, hk'⟩
    replace hw := hw.call0 hk'
    clear hk'
    refine ⟨_, rfl, ?_⟩
    repeat (first | refine go_run ?_ | (refine go_newP ?_; clear hw; intro p w hw) | (refine go_newW ?_; clear hw; intro w hw) | (refine go_newS ?_; clear hw; intro s w hw))
    simp only [decide_true, Bool.not_true]
    repeat (first | refine go_run ?_ | (refine go_newP ?_; clear hw; intro p w hw) | (refine go_newW ?_; clear hw; intro w hw) | (refine go_newS ?_; clear hw; intro s w hw))
    exact ⟨k + 1, ⟨rfl, trivial⟩, by repeat (first | exact agree_refl | (apply agree_upd rfl) | (apply agree_mix rfl) | (apply agree_sets rfl)), ⟨by omega, hw⟩, by omega⟩
  · repeat (first | refine go_run ?_ | (refine go_newP ?_; clear hw; intro p w hw) | (refine go_newW ?_; clear hw; intro w hw) | (refine go_newS ?_; clear hw; intro s w hw))
    exact res_one (v := .bool true) rfl rfl ⟨rfl, sat_none hw⟩
end Go.Proofs.Ytnoiagnmbipppaa
