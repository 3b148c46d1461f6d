
/-
  The statement 'SaturateParts' returns true.
-/
import Derived.Test.YtnoiagnmbipppaaWPicked
import Derived.Test.YtnoiagnmbipppaaWPdbAw
import Derived.Test.YtnoiagnmbipppaaWRef40b
import Derived.Test.YtnoiagnmbipppaaTMix
set_option linter.unusedSimpArgs false
set_option linter.unusedVariables false
namespace Go.Proofs.Ytnoiagnmbipppaa
open Go.Sl Go
attribute [local irreducible] vc opsW opsD opV opW PureV ReadV Thn Blk

/-- The sums of the first k values of each state. -/
noncomputable def capAt (t : TTask) (Ls Ds : List (List Int)) (k i : Nat) : Int := capS (valK t Ls Ds ((statesL t.vars).getD i [])) k
set_option maxRecDepth 8000 in
set_option maxHeartbeats 8000000 in
theorem SaturateParts_walk {w0 : World} {a b c d xv : Value} {vs : List OpV} {t : TTask} {xs : List Int} (ht : RTask w0 a b c d vs t) (hx : RS tU16 w0 xv xs) :
    Calls Try.prog 5 #[.agg #[a, b, c, d], xv] w0 fun e w' => e = .returned (.bool true) ∧ Sat w0 w' [] := by
  have ht' := ht
  obtain ⟨ha, hb, hc, hd⟩ := ht
  have hrs := hd.rs
  have hdl := hd.len
  have hll := hrs.big
  have hw := Sat.start w0
  refine calls_of_vc (args := [.agg #[a, b, c, d], xv]) mixed Try.func5 rfl (by kernel_rfl) (Nat.le_of_ble_eq_true rfl) ?_
  repeat (first | refine go_run ?_ | (refine go_newP ?_; clear hw; intro p w hw) | (refine go_newWr ?_; clear hw; intro w hw) | (refine go_newS ?_; clear hw; intro s w hw))
  obtain ⟨pt, hpt⟩ : ∃ pt, pt = p := ⟨p, rfl⟩
  subst hpt
  refine st_call rfl (picked_spec (ht'.at hw) (hx.at hw)) ?_
  rintro _ w' (⟨_, rfl, hk'⟩ | ⟨hpk, lv, ls, rfl, hk'⟩)
  · replace hw := hw.call0 hk'
    clear hk'
    refine ⟨_, rfl, ?_⟩
    repeat (first | refine go_run ?_ | (refine go_newP ?_; clear hw; intro p w hw) | (refine go_newW ?_; clear hw; intro w hw) | (refine go_newS ?_; clear hw; intro s w hw))
    refine st_call rfl sawake_spec ?_
    rintro _ w' ⟨rfl, hk'⟩
    replace hw := hw.call0 hk'
    clear hk'
    refine ⟨_, rfl, ?_⟩
    repeat (first | refine go_run ?_ | (refine go_newP ?_; clear hw; intro p w hw) | (refine go_newW ?_; clear hw; intro w hw) | (refine go_newS ?_; clear hw; intro s w hw))
    exact res_one (v := .bool true) rfl rfl ⟨rfl, sat_none hw⟩
  replace hw := hw.call2 hk'
  clear hk'
  refine ⟨_, rfl, ?_⟩
  have hs := hpk.1
  have hg := hs.good
  have hV := hs.vars
  have hO := hs.ops
  have hM := hs.many
  have hlen : (statesL t.vars).length ≤ 512 := by rw [statesL_len hg.pos]; omega
  have hne := hpk.nerr
  have hpe := hpk.err
  have hL6 : (pickLs t xs).length ≤ 6 := by rw [pickLs_len]; exact hpk.2.1
  have hin : ∀ k, k < (pickLs t xs).length → InV t.vars ((pickLs t xs).getD k []) := fun k hk => PickOk.inV (by rw [pickLs_len] at hk; exact hk)
  have hsm : ∀ k, k < (pickLs t xs).length → cntL t.vars ((pickLs t xs).getD k []) ≤ 64 := fun k hk => by
    rw [pickLs_len] at hk
    rw [pickLs_at hk]; exact hpk.2.2 k hk
  obtain ⟨Ls, hLs⟩ : ∃ Ls, Ls = pickLs t xs := ⟨_, rfl⟩
  rw [← hLs] at hw hne hpe hL6 hin hsm
  have hlsl := hw.rowsLen
  repeat (first | refine go_run ?_ | (refine go_newP ?_; clear hw; intro p w hw) | (refine go_newW ?_; clear hw; intro w hw) | (refine go_newS ?_; clear hw; intro s w hw))
  refine st_call rfl sawake_spec ?_
  rintro _ w' ⟨rfl, hk'⟩
  replace hw := hw.call0 hk'
  clear hk'
  refine ⟨_, rfl, ?_⟩
  repeat (first | refine go_run ?_ | (refine go_newP ?_; clear hw; intro p w hw) | (refine go_newW ?_; clear hw; intro w hw) | (refine go_newS ?_; clear hw; intro s w hw))
  refine st_call rfl (New_spec (s := lv) (ss := ls) (Ls := Ls) (ht'.at hw) ⟨hw.rs 1 rfl, hw.rowsLen, fun i hi => hw.row hi⟩ (fun _ _ _ => hpe)) ?_
  rintro _ w' (⟨h1, _⟩ | ⟨_, _, _, _, pp, Ds, Ps, rfl, hR, hk'⟩)
  · exact absurd hne h1
  replace hw := hw.call1 hk'
  clear hk'
  refine ⟨_, rfl, ?_⟩
  have hSC : SatC t Ls Ds Ps := ⟨hR, hg, hin, hsm, by omega⟩
  have hPl := hR.pl
  have hDl := hR.dl
  have hpc := fun k (hk : k < Ls.length) => part_cost hSC hk
  repeat (first | refine go_run ?_ | (refine go_newP ?_; clear hw; intro p w hw) | (refine go_newW ?_; clear hw; intro w hw) | (refine go_newS ?_; clear hw; intro s w hw))
  refine st_call rfl (Parts_spec (hw.rdE 0 rfl) (by omega) (fun i hi => by have := (hpc i (by omega)).1; omega)) ?_
  rintro _ w' ⟨pv, ps, rfl, hk'⟩
  replace hw := hw.call2 hk'
  clear hk'
  refine ⟨_, rfl, ?_⟩
  have hpsl := hw.rowsLen
  repeat (first | refine go_run ?_ | (refine go_newP ?_; clear hw; intro p w hw) | (refine go_newW ?_; clear hw; intro w hw) | (refine go_newS ?_; clear hw; intro s w hw))
  refine go_if (fun h1 => ?_) (fun h1 => ?_)
  · exfalso; omega
  repeat (first | refine go_run ?_ | (refine go_newP ?_; clear hw; intro p w hw) | (refine go_newW ?_; clear hw; intro w hw) | (refine go_newS ?_; clear hw; intro s w hw))
  refine st_call rfl (rCosts_spec (ht'.at hw) (by omega)) ?_
  rintro _ w' ⟨cv, rfl, hk'⟩
  replace hw := hw.call1 hk'
  clear hk'
  refine ⟨_, rfl, ?_⟩
  repeat (first | refine go_run ?_ | (refine go_newP ?_; clear hw; intro p w hw) | (refine go_newW ?_; clear hw; intro w hw) | (refine go_newS ?_; clear hw; intro s w hw))
  refine st_call rfl (States_spec (ha.at hw) hg.pos hg.vars (by omega)) ?_
  rintro _ w' ⟨sv, ss, rfl, hk'⟩
  replace hw := hw.call2 hk'
  clear hk'
  have hss := hw.rowsLen
  refine ⟨_, rfl, ?_⟩
  repeat (first | refine go_run ?_ | (refine go_newP ?_; clear hw; intro p w hw) | (refine go_newW ?_; clear hw; intro w hw) | (refine go_newS ?_; clear hw; intro s w hw))
  obtain ⟨uv, huv⟩ : ∃ uv, uv = s := ⟨s, rfl⟩
  subst huv
  rw [hss, Int.toNat_natCast, ← mixK_zeros (n := (statesL t.vars).length) (f := capAt t Ls Ds 0) (g := capAt t Ls Ds 1) (fun _ _ => rfl)] at hw
  have hw1 : Sat w0 w [OS tInt 3 cv (leftK (costsT t) Ps 0), OS tInt 3 uv (mixK (statesL t.vars).length (capAt t Ls Ds 0) (capAt t Ls Ds 1) 0), RowsAt tInt 3 ss (statesL t.vars), OS tVal 22 sv ss, RowsAt tInt 3 ps Ps, OS tVal 22 pv ps, RdH (fun w => RPt w pp t Ls Ds Ps), RowsAt tInt 3 ls Ls, OS tVal 22 lv ls, Box pt 26 [a, b, c, d]] := by
    have hw2 : Sat w0 w [OS tInt 3 uv (mixK (statesL t.vars).length (capAt t Ls Ds 0) (capAt t Ls Ds 1) 0), RowsAt tInt 3 ss (statesL t.vars), OS tVal 22 sv ss, OS tInt 3 cv (costsT t), RowsAt tInt 3 ps Ps, OS tVal 22 pv ps, RdH (fun w => RPt w pp t Ls Ds Ps), RowsAt tInt 3 ls Ls, OS tVal 22 lv ls, Box pt 26 [a, b, c, d]] := hw
    rw [leftK_zero]
    exact hw2.sel
  clear hw
  refine vc_loop [4, 13, 14, 15, 16, 17, 18, 19, 21, 22, 67, 68, 69, 70, 71, 72, 73, 74, 75, 76, 77, 78, 79, 80, 81, 82, 83, 84, 85, 86, 87, 88, 89, 90, 91, 92, 93, 94, 95, 96, 97, 98, 99, 100, 101, 102, 103, 104, 105, 106, 107, 108, 109, 110, 111, 112, 113, 114, 115, 116, 117, 118, 119, 120, 121, 122, 123, 124, 125, 126, 127, 128, 129, 130, 131, 132, 133, 134, 135, 136, 137, 138, 139, 140, 141, 142, 143, 144, 145, 146, 147, 148, 149, 150, 151, 152, 153, 154, 155, 156, 157, 158, 159, 160, 161, 162, 163, 164, 165, 166, 167, 168, 169, 170, 171, 172] (G := Nat) (fun k => [(67, .int .i64 k)]) (fun k w => k ≤ Ls.length ∧ Sat w0 w [OS tInt 3 cv (leftK (costsT t) Ps k), OS tInt 3 uv (mixK (statesL t.vars).length (capAt t Ls Ds k) (capAt t Ls Ds (k + 1)) 0), RowsAt tInt 3 ss (statesL t.vars), OS tVal 22 sv ss, RowsAt tInt 3 ps Ps, OS tVal 22 pv ps, RdH (fun w => RPt w pp t Ls Ds Ps), RowsAt tInt 3 ls Ls, OS tVal 22 lv ls, Box pt 26 [a, b, c, d]]) (fun k => Ls.length - k) 0 (fun _ => rfl) ⟨rfl, trivial⟩ ⟨Nat.zero_le _, hw1⟩ ?_
  clear hw1
  rintro σ k w ⟨hk, hw⟩
  repeat (first | refine go_run ?_ | (refine go_newP ?_; clear hw; intro p w hw) | (refine go_newW ?_; clear hw; intro w hw) | (refine go_newS ?_; clear hw; intro s w hw))
  refine go_if (fun h2 => ?_) (fun h2 => ?_)
  · have hkl : k < Ls.length := by omega
    obtain ⟨hp1, hp2, hp3⟩ := hpc k hkl
    have hL := hin k hkl
    have hf := hsm k hkl
    have hN1 := cntL_pos hg.pos hL.mem
    have hll := leftK_len (costsT t) Ps k
    have hcl : (costsT t).length = t.ops.length := by simp [costsT]
    have hCk := hSC.run.cost (costOk_T hg) k (by omega)
    have hgl := goalsK_len t (Ls.getD k []) (cntL t.vars (Ls.getD k [])).toNat
    repeat (first | refine go_run ?_ | (refine go_newP ?_; clear hw; intro p w hw) | (refine go_newW ?_; clear hw; intro w hw) | (refine go_newS ?_; clear hw; intro s w hw))
    refine st_call rfl (rProject_spec (va := vget ls k) (L := (Ls.getD k [])) (ht'.at hw) ((hw.focus 7 rfl).row hkl) hs hL hf) ?_
    rintro _ w' ⟨ec, ev, eg, rfl, hk'⟩
    have hw2 := hw.call hk'
    clear hk' hw
    have hw : Sat w0 w' [OS tInt 3 ec (costsT t), OS tEdg 70 ev (pEdges t (Ls.getD k [])), OS tBool 4 eg (goalsK t (Ls.getD k []) (cntL t.vars (Ls.getD k [])).toNat), OS tInt 3 cv (leftK (costsT t) Ps k), OS tInt 3 uv (mixK (statesL t.vars).length (capAt t Ls Ds k) (capAt t Ls Ds (k + 1)) 0), RowsAt tInt 3 ss (statesL t.vars), OS tVal 22 sv ss, RowsAt tInt 3 ps Ps, OS tVal 22 pv ps, RdH (fun w => RPt w pp t Ls Ds Ps), RowsAt tInt 3 ls Ls, OS tVal 22 lv ls, Box pt 26 [a, b, c, d]] := hw2
    clear hw2
    refine ⟨_, rfl, ?_⟩
    rw [sysV_ok]
    have o1 := (hw.rs 0 rfl).one
    have o2 := (hw.rs 1 rfl).one
    have o3 := (hw.rs 2 rfl).one
    repeat (first | refine go_run ?_ | (refine go_newP ?_; clear hw; intro p w hw) | (refine go_newW ?_; clear hw; intro w hw) | (refine go_newS ?_; clear hw; intro s w hw))
    obtain ⟨px, hpx⟩ : ∃ px, px = p := ⟨p, rfl⟩
    subst hpx
    refine st_boxAgg (n := 5) (p := px) (vs := [.int .i64 (cntL t.vars (Ls.getD k [])), .int .i64 (idxL t.vars (Ls.getD k []) t.init), ec, ev, eg]) rfl rfl hw inferInstance rfl rfl (by simp only [List.all_cons, List.all_nil, o1, o2, o3]; rfl) ?_
    clear hw
    intro w hw
    repeat (first | refine go_run ?_ | (refine go_newP ?_; clear hw; intro p w hw) | (refine go_newW ?_; clear hw; intro w hw) | (refine go_newS ?_; clear hw; intro s w hw))
    refine st_call rfl (rDistances_spec (kv := cv) (cs := leftK (costsT t) Ps k) (S := sysOk t (Ls.getD k [])) (cv := ec) (ev := ev) (gv := eg) ⟨hw.rs 1 rfl, hw.rs 2 rfl, hw.rs 3 rfl⟩ (rsO hw) (by show 0 ≤ cntL t.vars (Ls.getD k []); omega) (by show cntL t.vars (Ls.getD k []) ≤ _; omega) (by show ((goalsK t (Ls.getD k []) _).length : Int) = cntL t.vars (Ls.getD k []); omega) (hSC.eok hkl)) ?_
    rintro _ w' ⟨hv, D', rfl, hD', hk'⟩
    replace hw := hw.call1 hk'
    clear hk'
    refine ⟨_, rfl, ?_⟩
    replace hD' : DistOk (pEdges t (Ls.getD k [])) (leftK (costsT t) Ps k) (GoalPK t (Ls.getD k [])) (cntL t.vars (Ls.getD k [])).toNat D' := hD'
    obtain rfl := (hSC.run.dist k hkl).unique hD'
    have hDk := hD'
    have hDkl := hDk.len
    obtain ⟨D, hD⟩ : ∃ D, D = Ds.getD k [] := ⟨_, rfl⟩
    rw [← hD] at hw hDk hDkl
    clear hD'
    have hw : Sat w0 w' [OS tInt 3 hv D, Box px 65 [.int .i64 (cntL t.vars (Ls.getD k [])), .int .i64 (idxL t.vars (Ls.getD k []) t.init), ec, ev, eg], OS tEdg 70 ev (pEdges t (Ls.getD k [])), OS tInt 3 cv (leftK (costsT t) Ps k), OS tInt 3 uv (mixK (statesL t.vars).length (capAt t Ls Ds k) (capAt t Ls Ds (k + 1)) 0), RowsAt tInt 3 ss (statesL t.vars), OS tVal 22 sv ss, RowsAt tInt 3 ps Ps, OS tVal 22 pv ps, RdH (fun w => RPt w pp t Ls Ds Ps), RowsAt tInt 3 ls Ls, OS tVal 22 lv ls, Box pt 26 [a, b, c, d]] := by
      have hw2 : Sat w0 w' [OS tInt 3 hv D, Box px 65 [.int .i64 (cntL t.vars (Ls.getD k [])), .int .i64 (idxL t.vars (Ls.getD k []) t.init), ec, ev, eg], OS tInt 3 ec (costsT t), OS tEdg 70 ev (pEdges t (Ls.getD k [])), OS tBool 4 eg (goalsK t (Ls.getD k []) (cntL t.vars (Ls.getD k [])).toNat), OS tInt 3 cv (leftK (costsT t) Ps k), OS tInt 3 uv (mixK (statesL t.vars).length (capAt t Ls Ds k) (capAt t Ls Ds (k + 1)) 0), RowsAt tInt 3 ss (statesL t.vars), OS tVal 22 sv ss, RowsAt tInt 3 ps Ps, OS tVal 22 pv ps, RdH (fun w => RPt w pp t Ls Ds Ps), RowsAt tInt 3 ls Ls, OS tVal 22 lv ls, Box pt 26 [a, b, c, d]] := hw
      exact hw2.sel
    have hul := mixK_len (statesL t.vars).length (capAt t Ls Ds k) (capAt t Ls Ds (k + 1))
    have hul0 := hul 0
    repeat (first | refine go_run ?_ | (refine go_newP ?_; clear hw; intro p w hw) | (refine go_newW ?_; clear hw; intro w hw) | (refine go_newS ?_; clear hw; intro s w hw))
    refine vc_loop [17, 18, 80, 81, 82, 83, 84, 85, 86, 87, 88, 89, 90, 91, 92, 93, 94, 95, 96, 97, 98, 99, 100, 101] (G := Nat) (fun j => [(80, .int .i64 j)]) (fun j w => j ≤ (statesL t.vars).length ∧ Sat w0 w [OS tInt 3 hv D, Box px 65 [.int .i64 (cntL t.vars (Ls.getD k [])), .int .i64 (idxL t.vars (Ls.getD k []) t.init), ec, ev, eg], OS tEdg 70 ev (pEdges t (Ls.getD k [])), OS tInt 3 cv (leftK (costsT t) Ps k), OS tInt 3 uv (mixK (statesL t.vars).length (capAt t Ls Ds k) (capAt t Ls Ds (k + 1)) j), RowsAt tInt 3 ss (statesL t.vars), OS tVal 22 sv ss, RowsAt tInt 3 ps Ps, OS tVal 22 pv ps, RdH (fun w => RPt w pp t Ls Ds Ps), RowsAt tInt 3 ls Ls, OS tVal 22 lv ls, Box pt 26 [a, b, c, d]]) (fun j => (statesL t.vars).length - j) 0 (fun _ => rfl) ⟨rfl, trivial⟩ ⟨Nat.zero_le _, hw⟩ ?_
    clear hw
    rintro σ1 j w ⟨hj, hw⟩
    have hulj := hul j
    repeat (first | refine go_run ?_ | (refine go_newP ?_; clear hw; intro p w hw) | (refine go_newW ?_; clear hw; intro w hw) | (refine go_newS ?_; clear hw; intro s w hw))
    refine go_if (fun h3 => ?_) (fun h3 => ?_)
    · have hjl : j < (statesL t.vars).length := by omega
      obtain ⟨hst, hrk⟩ := statesL_at hg.pos hjl
      have hib := idxL_bound hst hL.mem
      have hdr := hSC.rng hst hkl
      have hcr := capS_rng (f := valK t Ls Ds ((statesL t.vars).getD j [])) (n := k) fun i hi => (hSC.rng hst (by omega)).1
      have hat := mixK_at (f := (capAt t Ls Ds k)) (g := (capAt t Ls Ds (k + 1))) hjl
      have hvd : valK t Ls Ds ((statesL t.vars).getD j []) k = D.getD (idxL t.vars (Ls.getD k []) ((statesL t.vars).getD j [])).toNat tInt.dflt := by rw [hD]; rfl
      have hcs : (capAt t Ls Ds (k + 1)) j = if (capAt t Ls Ds k) j + valK t Ls Ds ((statesL t.vars).getD j []) k < 1125899906842624 then (capAt t Ls Ds k) j + valK t Ls Ds ((statesL t.vars).getD j []) k else 1125899906842624 := by
        have e : (capAt t Ls Ds (k + 1)) j = min 1125899906842624 ((capAt t Ls Ds k) j + valK t Ls Ds ((statesL t.vars).getD j []) k) := rfl
        rw [e]
        by_cases hlt : (capAt t Ls Ds k) j + valK t Ls Ds ((statesL t.vars).getD j []) k < 1125899906842624
        · rw [if_pos hlt]; omega
        · rw [if_neg hlt]; omega
      rw [hvd] at hdr hcs
      simp only [inf] at hdr hcr
      replace hcr : 0 ≤ (capAt t Ls Ds k) j ∧ (capAt t Ls Ds k) j ≤ 1125899906842624 := hcr
      repeat (first | refine go_run ?_ | (refine go_newP ?_; clear hw; intro p w hw) | (refine go_newWr ?_; clear hw; intro w hw) | (refine go_newS ?_; clear hw; intro s w hw))
      refine vc_plan [.op 0, .op 1, .op 2, .op 3, .op 4, .op 5, .op 6, .op 7, .op 8, .op 9, .op 10, .chk 5, .op 11, .op 12, .op 13, .op 14, .op 15, .op 16] hw (by kernel_rfl) ?_; clear hw; intro w hw
      repeat (first | refine go_run ?_ | (refine go_newP ?_; clear hw; intro p w hw) | (refine go_newWr ?_; clear hw; intro w hw) | (refine go_newS ?_; clear hw; intro s w hw))
      refine st_call rfl (rIndex_spec (va := vget ls k) (s := (statesL t.vars).getD j []) (ht'.at hw) ((hw.focus 10 rfl).row hkl) ((hw.focus 5 rfl).row hjl) hg hL.mem hst (by omega)) ?_
      rintro _ w' ⟨rfl, hk'⟩
      replace hw := hw.call0 hk'
      clear hk'
      refine ⟨_, rfl, ?_⟩
      repeat (first | refine go_run ?_ | (refine go_newP ?_; clear hw; intro p w hw) | (refine go_newW ?_; clear hw; intro w hw) | (refine go_newS ?_; clear hw; intro s w hw))
      rw [hat, ← hcs, mixK_set] at hw
      exact ⟨j + 1, ⟨rfl, trivial⟩, by repeat (first | exact agree_refl | (apply agree_upd rfl) | (apply agree_mix rfl) | (apply agree_sets rfl)), ⟨by omega, hw⟩, by omega⟩
    have hje : j = (statesL t.vars).length := by omega
    subst hje
    rw [mixK_next (h := capAt t Ls Ds (k + 2))] at hw
    obtain ⟨_, _, _, hpe4⟩ := pErr_zero (hpe k hkl)
    have hE := hSC.eok hkl
    repeat (first | refine go_run ?_ | (refine go_newP ?_; clear hw; intro p w hw) | (refine go_newW ?_; clear hw; intro w hw) | (refine go_newS ?_; clear hw; intro s w hw))
    obtain ⟨wv, hwv⟩ : ∃ wv, wv = s := ⟨s, rfl⟩
    subst hwv
    rw [show ((vs.length : Int)).toNat = t.ops.length by omega, ← satK_zero (pEdges t (Ls.getD k [])) D t.ops.length] at hw
    have hw : Sat w0 w [OS tInt 3 wv (satK (pEdges t (Ls.getD k [])) D t.ops.length 0), OS tInt 3 hv D, Box px 65 [.int .i64 (cntL t.vars (Ls.getD k [])), .int .i64 (idxL t.vars (Ls.getD k []) t.init), ec, ev, eg], OS tEdg 70 ev (pEdges t (Ls.getD k [])), OS tInt 3 cv (leftK (costsT t) Ps k), OS tInt 3 uv (mixK (statesL t.vars).length (capAt t Ls Ds (k + 1)) (capAt t Ls Ds (k + 2)) 0), RowsAt tInt 3 ss (statesL t.vars), OS tVal 22 sv ss, RowsAt tInt 3 ps Ps, OS tVal 22 pv ps, RdH (fun w => RPt w pp t Ls Ds Ps), RowsAt tInt 3 ls Ls, OS tVal 22 lv ls, Box pt 26 [a, b, c, d]] := hw
    refine vc_loop [21, 109, 110, 111, 112, 113, 114, 115, 116, 117, 118, 119, 120, 121, 122, 123, 124, 125, 126, 127, 128, 129, 130, 131, 132, 133, 134, 135, 136, 137, 138, 139, 140, 141, 142, 143, 144, 145, 146, 147, 148] (G := Nat) (fun j => [(109, .int .i64 j)]) (fun j w => j ≤ (pEdges t (Ls.getD k [])).length ∧ Sat w0 w [OS tInt 3 wv (satK (pEdges t (Ls.getD k [])) D t.ops.length j), OS tInt 3 hv D, Box px 65 [.int .i64 (cntL t.vars (Ls.getD k [])), .int .i64 (idxL t.vars (Ls.getD k []) t.init), ec, ev, eg], OS tEdg 70 ev (pEdges t (Ls.getD k [])), OS tInt 3 cv (leftK (costsT t) Ps k), OS tInt 3 uv (mixK (statesL t.vars).length (capAt t Ls Ds (k + 1)) (capAt t Ls Ds (k + 2)) 0), RowsAt tInt 3 ss (statesL t.vars), OS tVal 22 sv ss, RowsAt tInt 3 ps Ps, OS tVal 22 pv ps, RdH (fun w => RPt w pp t Ls Ds Ps), RowsAt tInt 3 ls Ls, OS tVal 22 lv ls, Box pt 26 [a, b, c, d]]) (fun j => (pEdges t (Ls.getD k [])).length - j) 0 (fun _ => rfl) ⟨rfl, trivial⟩ ⟨Nat.zero_le _, hw⟩ ?_
    clear hw
    rintro σ2 j w ⟨hj, hw⟩
    have hkl2 := satK_len (E := pEdges t (Ls.getD k [])) (D := D) (m := t.ops.length) j hj
    repeat (first | refine go_run ?_ | (refine go_newP ?_; clear hw; intro p w hw) | (refine go_newW ?_; clear hw; intro w hw) | (refine go_newS ?_; clear hw; intro s w hw))
    refine go_if (fun h4 => ?_) (fun h4 => ?_)
    · have hjl : j < (pEdges t (Ls.getD k [])).length := by omega
      have hme := mem_getD tEdg.dflt hjl
      have e1 := hE.lab _ hme
      have e2 := hE.src _ hme
      have e3 := hE.dst _ hme
      have r2 := hDk.rng ((pEdges t (Ls.getD k [])).getD j tEdg.dflt).src.toNat (by omega)
      have r3 := hDk.rng ((pEdges t (Ls.getD k [])).getD j tEdg.dflt).dst.toNat (by omega)
      rw [Int.toNat_of_nonneg e2.1] at r2
      rw [Int.toNat_of_nonneg e3.1] at r3
      have hsk := satK_succ (D := D) (m := t.ops.length) hjl
      simp only [satStep, dg, cst, inf] at hsk r2 r3
      repeat (first | refine go_runC ?_ | (refine go_newP ?_; clear hw; intro p w hw) | (refine go_newW ?_; clear hw; intro w hw) | (refine go_newS ?_; clear hw; intro s w hw))
      refine go_if (fun h5 => ?_) (fun h5 => ?_)
      · rw [if_pos h5] at hsk
        repeat (first | refine go_run ?_ | (refine go_newP ?_; clear hw; intro p w hw) | (refine go_newW ?_; clear hw; intro w hw) | (refine go_newS ?_; clear hw; intro s w hw))
        rw [← hsk] at hw
        exact ⟨j + 1, ⟨rfl, trivial⟩, by repeat (first | exact agree_refl | (apply agree_upd rfl) | (apply agree_mix rfl) | (apply agree_sets rfl)), ⟨by omega, hw.sel⟩, by omega⟩
      · rw [if_neg (by omega)] at hsk
        repeat (first | refine go_run ?_ | (refine go_newP ?_; clear hw; intro p w hw) | (refine go_newW ?_; clear hw; intro w hw) | (refine go_newS ?_; clear hw; intro s w hw))
        rw [← hsk] at hw
        exact ⟨j + 1, ⟨rfl, trivial⟩, by repeat (first | exact agree_refl | (apply agree_upd rfl) | (apply agree_mix rfl) | (apply agree_sets rfl)), ⟨by omega, hw.sel⟩, by omega⟩
    have hje : j = (pEdges t (Ls.getD k [])).length := by omega
    subst hje
    obtain ⟨S, hS⟩ : ∃ S, S = Ps.getD k [] := ⟨_, rfl⟩
    rw [show satK (pEdges t (Ls.getD k [])) D t.ops.length (pEdges t (Ls.getD k [])).length = S by rw [hS, hSC.run.part k hkl, hD]; rfl] at hw
    have hw : Sat w0 w [OS tInt 3 wv S, OS tInt 3 cv (leftK (costsT t) Ps k), OS tInt 3 uv (mixK (statesL t.vars).length (capAt t Ls Ds (k + 1)) (capAt t Ls Ds (k + 2)) 0), RowsAt tInt 3 ss (statesL t.vars), OS tVal 22 sv ss, RowsAt tInt 3 ps Ps, OS tVal 22 pv ps, RdH (fun w => RPt w pp t Ls Ds Ps), RowsAt tInt 3 ls Ls, OS tVal 22 lv ls, Box pt 26 [a, b, c, d]] := hw.sel
    rw [← hS] at hp1 hp2 hp3
    repeat (first | refine go_run ?_ | (refine go_newP ?_; clear hw; intro p w hw) | (refine go_newW ?_; clear hw; intro w hw) | (refine go_newS ?_; clear hw; intro s w hw))
    have hr1 : RS tInt w (vget ps k) S := by rw [hS]; exact (hw.focus 5 rfl).row (by omega)
    refine st_call rfl (Ints_spec (a := vget ps k) (b := wv) hr1 (rsO hw)) ?_
    rintro _ w' ⟨⟨r, rfl, hr⟩, hk'⟩
    replace hw := hw.call0 hk'
    clear hk'
    obtain rfl : r = true := hr.2 rfl
    clear hr
    refine ⟨_, rfl, ?_⟩
    repeat (first | refine go_run ?_ | (refine go_newP ?_; clear hw; intro p w hw) | (refine go_newW ?_; clear hw; intro w hw) | (refine go_newS ?_; clear hw; intro s w hw))
    rw [← subK_zero (leftK (costsT t) Ps k) S] at hw
    refine vc_loop [22, 158, 159, 160, 161, 162, 163, 164, 165, 166, 167, 168, 169, 170, 171] (G := Nat) (fun j => [(158, .int .i64 j)]) (fun j w => j ≤ t.ops.length ∧ Sat w0 w [OS tInt 3 wv S, OS tInt 3 cv (subK (leftK (costsT t) Ps k) S j), OS tInt 3 uv (mixK (statesL t.vars).length (capAt t Ls Ds (k + 1)) (capAt t Ls Ds (k + 2)) 0), RowsAt tInt 3 ss (statesL t.vars), OS tVal 22 sv ss, RowsAt tInt 3 ps Ps, OS tVal 22 pv ps, RdH (fun w => RPt w pp t Ls Ds Ps), RowsAt tInt 3 ls Ls, OS tVal 22 lv ls, Box pt 26 [a, b, c, d]]) (fun j => t.ops.length - j) 0 (fun _ => rfl) ⟨rfl, trivial⟩ ⟨Nat.zero_le _, hw⟩ ?_
    clear hw
    rintro σ3 j w ⟨hj, hw⟩
    have hlj := subK_len (leftK (costsT t) Ps k) S j
    repeat (first | refine go_run ?_ | (refine go_newP ?_; clear hw; intro p w hw) | (refine go_newW ?_; clear hw; intro w hw) | (refine go_newS ?_; clear hw; intro s w hw))
    refine go_if (fun h6 => ?_) (fun h6 => ?_)
    · have hjl : j < t.ops.length := by omega
      have hsj := hp2 j hjl
      have hcj := hCk.at hjl
      have hat := subK_at (a := leftK (costsT t) Ps k) (b := S) (j := j) (by omega)
      repeat (first | refine go_run ?_ | (refine go_newP ?_; clear hw; intro p w hw) | (refine go_newW ?_; clear hw; intro w hw) | (refine go_newS ?_; clear hw; intro s w hw))
      rw [hat, subK_set] at hw
      exact ⟨j + 1, ⟨rfl, trivial⟩, by repeat (first | exact agree_refl | (apply agree_upd rfl) | (apply agree_mix rfl) | (apply agree_sets rfl)), ⟨by omega, hw⟩, by omega⟩
    have hje : j = t.ops.length := by omega
    subst hje
    have hnx : leftK (costsT t) Ps (k + 1) = subL (leftK (costsT t) Ps k) S := by rw [leftK_succ (by omega), hS]
    have hend : subK (leftK (costsT t) Ps k) S t.ops.length = subL (leftK (costsT t) Ps k) S := by rw [← hcl, ← hll, subK_end]
    rw [hend, ← hnx] at hw
    repeat (first | refine go_run ?_ | (refine go_newP ?_; clear hw; intro p w hw) | (refine go_newW ?_; clear hw; intro w hw) | (refine go_newS ?_; clear hw; intro s w hw))
    exact ⟨k + 1, ⟨rfl, trivial⟩, by repeat (first | exact agree_refl | (apply agree_upd rfl) | (apply agree_mix rfl) | (apply agree_sets rfl)), ⟨by omega, hw.sel⟩, by omega⟩
  have hke : k = Ls.length := by omega
  subst hke
  have hul := mixK_len (statesL t.vars).length (capAt t Ls Ds Ls.length) (capAt t Ls Ds (Ls.length + 1)) 0
  repeat (first | refine go_run ?_ | (refine go_newP ?_; clear hw; intro p w hw) | (refine go_newW ?_; clear hw; intro w hw) | (refine go_newS ?_; clear hw; intro s w hw))
  refine vc_loop [4, 23, 24, 175, 176, 177, 178, 179, 180, 181, 182, 183, 184, 185, 186, 187, 188] (G := Nat) (fun k => [(175, .int .i64 k)]) (fun k w => k ≤ (statesL t.vars).length ∧ Sat w0 w [OS tInt 3 uv (mixK (statesL t.vars).length (capAt t Ls Ds Ls.length) (capAt t Ls Ds (Ls.length + 1)) 0), RowsAt tInt 3 ss (statesL t.vars), OS tVal 22 sv ss, RdH (fun w => RPt w pp t Ls Ds Ps)]) (fun k => (statesL t.vars).length - k) 0 (fun _ => rfl) ⟨rfl, trivial⟩ ⟨Nat.zero_le _, hw.sel⟩ ?_
  clear hw
  rintro σ4 k w ⟨hk, hw⟩
  repeat (first | refine go_run ?_ | (refine go_newP ?_; clear hw; intro p w hw) | (refine go_newW ?_; clear hw; intro w hw) | (refine go_newS ?_; clear hw; intro s w hw))
  refine go_if (fun h7 => ?_) (fun h7 => ?_)
  · have hkl : k < (statesL t.vars).length := by omega
    obtain ⟨hst, hrk⟩ := statesL_at hg.pos hkl
    have hat := mixK_get (f := capAt t Ls Ds Ls.length) (g := capAt t Ls Ds (Ls.length + 1)) hkl
    rw [show capAt t Ls Ds Ls.length k = valPt t Ls Ds ((statesL t.vars).getD k []) from hSC.cap hst] at hat
    repeat (first | refine go_run ?_ | (refine go_newP ?_; clear hw; intro p w hw) | (refine go_newWr ?_; clear hw; intro w hw) | (refine go_newS ?_; clear hw; intro s w hw))
    refine vc_plan [.op 0, .op 1, .op 3, .op 4, .op 5, .op 6, .op 2, .chk 6, .op 7] hw (by kernel_rfl) ?_; clear hw; intro w hw
    repeat (first | refine go_run ?_ | (refine go_newP ?_; clear hw; intro p w hw) | (refine go_newWr ?_; clear hw; intro w hw) | (refine go_newS ?_; clear hw; intro s w hw))
    refine st_call rfl (PValue_spec (hw.rdE 3 rfl) hR (by omega) hpe ((hw.focus 1 rfl).row hkl)) ?_
    rintro _ w' ⟨rfl, hk'⟩
    replace hw := hw.call0 hk'
    clear hk'
    refine ⟨_, rfl, ?_⟩
    repeat (first | refine go_run ?_ | (refine go_newP ?_; clear hw; intro p w hw) | (refine go_newWr ?_; clear hw; intro w hw) | (refine go_newS ?_; clear hw; intro s w hw))
    simp only [hat, decide_true, Bool.not_true]
    repeat (first | refine go_run ?_ | (refine go_newP ?_; clear hw; intro p w hw) | (refine go_newW ?_; clear hw; intro w hw) | (refine go_newS ?_; clear hw; intro s w hw))
    exact ⟨k + 1, ⟨rfl, trivial⟩, by repeat (first | exact agree_refl | (apply agree_upd rfl) | (apply agree_mix rfl) | (apply agree_sets rfl)), ⟨by omega, hw⟩, by omega⟩
  · repeat (first | refine go_run ?_ | (refine go_newP ?_; clear hw; intro p w hw) | (refine go_newW ?_; clear hw; intro w hw) | (refine go_newS ?_; clear hw; intro s w hw))
    exact res_one (v := .bool true) rfl rfl ⟨rfl, sat_none hw⟩
end Go.Proofs.Ytnoiagnmbipppaa
