
/-
  The statement 'SaturateFirst' returns true.
-/
import Derived.Test.YtnoiagnmbipppaaWPicked
import Derived.Test.YtnoiagnmbipppaaTSatFirst
set_option linter.unusedSimpArgs false
set_option linter.unusedVariables false
namespace Go.Proofs.Ytnoiagnmbipppaa
open Go.Sl Go
attribute [local irreducible] vc opsW opsD opV opW PureV ReadV Thn Blk

set_option maxRecDepth 8000 in
set_option maxHeartbeats 4000000 in
theorem SaturateFirst_walk {w0 : World} {a b c d xv : Value} {vs : List OpV} {t : TTask} {xs : List Int} {more : Int} (ht : RTask w0 a b c d vs t) (hx : RS tU16 w0 xv xs) :
    Calls Try.prog 8 #[.agg #[a, b, c, d], xv, .int .u16 more] w0 fun e w' => e = .returned (.bool true) ∧ Sat w0 w' [] := by
  have ht' := ht
  obtain ⟨ha, hb, hc, hd⟩ := ht
  have hrs := hd.rs
  have hdl := hd.len
  have hll := hrs.big
  have hw := Sat.start w0
  refine calls_of_vc (args := [.agg #[a, b, c, d], xv, .int .u16 more]) mixed Try.func8 rfl (by kernel_rfl) (Nat.le_of_ble_eq_true rfl) ?_
  repeat (first | refine go_run ?_ | (refine go_newP ?_; clear hw; intro p w hw) | (refine go_newWr ?_; clear hw; intro w hw) | (refine go_newS ?_; clear hw; intro s w hw))
  obtain ⟨pt, hpt⟩ : ∃ pt, pt = p := ⟨p, rfl⟩
  subst hpt
  refine st_call rfl (picked_spec (ht'.at hw) (hx.at hw)) ?_
  rintro _ w' (⟨_, rfl, hk'⟩ | ⟨hpk, lv, ls, rfl, hk'⟩)
  · replace hw := hw.call0 hk'
    clear hk'
    refine ⟨_, rfl, ?_⟩
    repeat (first | refine go_run ?_ | (refine go_newP ?_; clear hw; intro p w hw) | (refine go_newW ?_; clear hw; intro w hw) | (refine go_newSv ?_; clear hw; intro s w hw))
    refine st_buildSlice1 tU16 (x1 := more) (v := .int .u16 more) rfl rfl rfl (Nat.le_of_ble_eq_true rfl) (Nat.zero_lt_succ _) hw ?_
    clear hw
    intro bs w hw
    refine st_call rfl (picked_spec (ht'.at hw) (hw.rs 0 rfl)) ?_
    rintro _ w' (⟨_, rfl, hk'⟩ | ⟨hpk2, mv, ms, rfl, hk'⟩)
    · replace hw := hw.call0 hk'
      clear hk'
      refine ⟨_, rfl, ?_⟩
      repeat (first | refine go_run ?_ | (refine go_newP ?_; clear hw; intro p w hw) | (refine go_newW ?_; clear hw; intro w hw) | (refine go_newS ?_; clear hw; intro s w hw))
      refine st_call rfl sawake_spec ?_
      rintro _ w' ⟨rfl, hk'⟩
      replace hw := hw.call0 hk'
      clear hk'
      refine ⟨_, rfl, ?_⟩
      repeat (first | refine go_run ?_ | (refine go_newP ?_; clear hw; intro p w hw) | (refine go_newW ?_; clear hw; intro w hw) | (refine go_newS ?_; clear hw; intro s w hw))
      exact res_one (v := .bool true) rfl rfl ⟨rfl, sat_none hw⟩
    · replace hw := hw.call2 hk'
      clear hk'
      refine ⟨_, rfl, ?_⟩
      repeat (first | refine go_run ?_ | (refine go_newP ?_; clear hw; intro p w hw) | (refine go_newW ?_; clear hw; intro w hw) | (refine go_newS ?_; clear hw; intro s w hw))
      refine st_call rfl sawake_spec ?_
      rintro _ w' ⟨rfl, hk'⟩
      replace hw := hw.call0 hk'
      clear hk'
      refine ⟨_, rfl, ?_⟩
      repeat (first | refine go_run ?_ | (refine go_newP ?_; clear hw; intro p w hw) | (refine go_newW ?_; clear hw; intro w hw) | (refine go_newS ?_; clear hw; intro s w hw))
      exact res_one (v := .bool true) rfl rfl ⟨rfl, sat_none hw⟩
  replace hw := hw.call2 hk'
  clear hk'
  refine ⟨_, rfl, ?_⟩
  repeat (first | refine go_run ?_ | (refine go_newP ?_; clear hw; intro p w hw) | (refine go_newW ?_; clear hw; intro w hw) | (refine go_newSv ?_; clear hw; intro s w hw))
  refine st_buildSlice1 tU16 (x1 := more) (v := .int .u16 more) rfl rfl rfl (Nat.le_of_ble_eq_true rfl) (Nat.zero_lt_succ _) hw ?_
  clear hw
  intro bs w hw
  refine st_call rfl (picked_spec (ht'.at hw) (hw.rs 0 rfl)) ?_
  rintro _ w' (⟨_, rfl, hk'⟩ | ⟨hpk2, mv, ms, rfl, hk'⟩)
  · replace hw := hw.call0 hk'
    clear hk'
    refine ⟨_, rfl, ?_⟩
    repeat (first | refine go_run ?_ | (refine go_newP ?_; clear hw; intro p w hw) | (refine go_newW ?_; clear hw; intro w hw) | (refine go_newS ?_; clear hw; intro s w hw))
    refine st_call rfl sawake_spec ?_
    rintro _ w' ⟨rfl, hk'⟩
    replace hw := hw.call0 hk'
    clear hk'
    refine ⟨_, rfl, ?_⟩
    repeat (first | refine go_run ?_ | (refine go_newP ?_; clear hw; intro p w hw) | (refine go_newW ?_; clear hw; intro w hw) | (refine go_newS ?_; clear hw; intro s w hw))
    exact res_one (v := .bool true) rfl rfl ⟨rfl, sat_none hw⟩
  replace hw := hw.call2 hk'
  clear hk'
  refine ⟨_, rfl, ?_⟩
  have hs := hpk.1
  have hg := hs.good
  have hV := hs.vars
  have hM := hs.many
  have hne := hpk.nerr
  have hpe := hpk.err
  have hL6 : (pickLs t xs).length ≤ 6 := by rw [pickLs_len]; exact hpk.2.1
  have hin : ∀ k, k < (pickLs t xs).length → InV t.vars ((pickLs t xs).getD k []) := fun k hk => PickOk.inV (by rw [pickLs_len] at hk; exact hk)
  have hsm : ∀ k, k < (pickLs t xs).length → cntL t.vars ((pickLs t xs).getD k []) ≤ 64 := fun k hk => by
    rw [pickLs_len] at hk
    rw [pickLs_at hk]; exact hpk.2.2 k hk
  have hMi := chosen_inV t.vars more
  have hMs : cntL t.vars (chosenK more t.vars.length) ≤ 64 := hpk2.2.2 0 (by simp)
  have hMe := (small_err hs hMi).1
  obtain ⟨Ls, hLs⟩ : ∃ Ls, Ls = pickLs t xs := ⟨_, rfl⟩
  obtain ⟨M, hMq⟩ : ∃ M, M = chosenK more t.vars.length := ⟨_, rfl⟩
  rw [← hMq] at hMi hMs hMe
  have hw : Sat w0 w' [RowsAt tInt 3 ms [M], OS tVal 22 mv ms, RowsAt tInt 3 ls Ls, OS tVal 22 lv ls, Box pt 26 [a, b, c, d]] := by
    rw [hLs, hMq]
    have hw2 : Sat w0 w' [RowsAt tInt 3 ms [chosenK more t.vars.length], OS tVal 22 mv ms, OS tU16 27 bs [more], RowsAt tInt 3 ls (pickLs t xs), OS tVal 22 lv ls, Box pt 26 [a, b, c, d]] := hw
    exact hw2.sel
  rw [← hLs] at hne hpe hL6 hin hsm
  have hml := hw.rowsLen
  obtain ⟨m0, rfl⟩ : ∃ m0, ms = [m0] := by
    match ms, hml with
    | [x], _ => exact ⟨x, rfl⟩
  have hll2 := (hw.focus 2 rfl).rowsLen
  repeat (first | refine go_run ?_ | (refine go_newP ?_; clear hw; intro p w hw) | (refine go_newW ?_; clear hw; intro w hw) | (refine go_newS ?_; clear hw; intro s w hw))
  by_cases h0 : ls.length = 0
  · have hd0 : decide ((ls.length : Int) = 0) = true := decide_eq_true (by omega)
    simp only [hd0]
    repeat (first | refine go_run ?_ | (refine go_newP ?_; clear hw; intro p w hw) | (refine go_newW ?_; clear hw; intro w hw) | (refine go_newS ?_; clear hw; intro s w hw))
    refine st_call rfl sawake_spec ?_
    rintro _ w' ⟨rfl, hk'⟩
    replace hw := hw.call0 hk'
    clear hk'
    refine ⟨_, rfl, ?_⟩
    repeat (first | refine go_run ?_ | (refine go_newP ?_; clear hw; intro p w hw) | (refine go_newW ?_; clear hw; intro w hw) | (refine go_newS ?_; clear hw; intro s w hw))
    exact res_one (v := .bool true) rfl rfl ⟨rfl, sat_none hw⟩
  have hd0 : decide ((ls.length : Int) = 0) = false := decide_eq_false (by omega)
  simp only [hd0]
  repeat (first | refine go_run ?_ | (refine go_newP ?_; clear hw; intro p w hw) | (refine go_newW ?_; clear hw; intro w hw) | (refine go_newS ?_; clear hw; intro s w hw))
  refine st_call rfl sawake_spec ?_
  rintro _ w' ⟨rfl, hk'⟩
  replace hw := hw.call0 hk'
  clear hk'
  refine ⟨_, rfl, ?_⟩
  have hrl : RLs w' lv ls Ls := ⟨rsO hw, hll2, fun i hi => (hw.focus 2 rfl).row hi⟩
  have hm0 := hw.row (i := 0) (show 0 < [M].length from Nat.zero_lt_succ _)
  repeat (first | refine go_run ?_ | (refine go_newP ?_; clear hw; intro p w hw) | (refine go_newW ?_; clear hw; intro w hw) | (refine go_newS ?_; clear hw; intro s w hw))
  refine st_call rfl (New_spec (s := lv) (ss := ls) (Ls := Ls) (ht'.at hw) ⟨rsO hw, hll2, fun i hi => (hw.focus 2 rfl).row hi⟩ (fun _ _ _ => hpe)) ?_
  rintro _ w' (⟨h1, _⟩ | ⟨_, _, _, _, pa, Ds, Ps, rfl, hR, hk'⟩)
  · exact absurd hne h1
  replace hw := hw.call1 hk'
  clear hk'
  refine ⟨_, rfl, ?_⟩
  have hSC : SatC t Ls Ds Ps := ⟨hR, hg, hin, hsm, by omega⟩
  have hones : ∀ x ∈ ls, ∀ v ∈ tVal.enc x, v.oneCell' = true := fun x hx v hv => by
    obtain ⟨i, hi, rfl⟩ := List.getElem_of_mem hx
    rw [List.mem_singleton.1 hv]
    have := (hrl.at_ i (by omega)).one
    rw [vget_eq] at this
    simpa [List.getD, hi] using this
  have hone2 : ∀ x ∈ [m0], ∀ v ∈ tVal.enc x, v.oneCell' = true := fun x hx v hv => by
    rw [List.mem_singleton.1 hx] at hv
    rw [List.mem_singleton.1 hv]
    have := hm0.one
    rw [vget_eq] at this
    exact this
  repeat (first | refine go_run ?_ | (refine go_newP ?_; clear hw; intro p w hw) | (refine go_newWr ?_; clear hw; intro w hw) | (refine go_newS ?_; clear hw; intro s w hw))
  refine vc_plan [.op 0, .op 1, .chk 0, .op 2, .op 3, .chk 0, .op 4, .op 5, .chk 0, .op 6, .op 7, .op 8, .op 9, .op 10, .op 11] hw (by kernel_rfl) ?_; clear hw; intro w hw
  repeat (first | refine go_run ?_ | (refine go_newP ?_; clear hw; intro p w hw) | (refine go_newWr ?_; clear hw; intro w hw) | (refine go_newS ?_; clear hw; intro s w hw))
  refine st_buildSlice0 tVal hw ?_
  clear hw
  intro bs w hw
  repeat (first | refine go_run ?_ | (refine go_newP ?_; clear hw; intro p w hw) | (refine go_newWr ?_; clear hw; intro w hw) | (refine go_newS ?_; clear hw; intro s w hw))
  refine st_append (s := bs) (s2 := lv) (ys := ls) inferInstance rfl rfl (rsO hw) rfl rfl hones (by simp only [List.length_nil]; omega) (by unfold big; simp only [List.length_nil]; omega) hw ?_
  clear hw
  intro av w hw
  repeat (first | refine go_run ?_ | (refine go_newP ?_; clear hw; intro p w hw) | (refine go_newWr ?_; clear hw; intro w hw) | (refine go_newS ?_; clear hw; intro s w hw))
  refine st_append (s := av) (s2 := mv) (ys := [m0]) inferInstance rfl rfl (rsO hw) rfl rfl hone2 (by simp only [List.nil_append, List.length_cons, List.length_nil]; omega) (by unfold big; simp only [List.nil_append, List.length_cons, List.length_nil]; omega) hw ?_
  clear hw
  intro cv w hw
  rw [List.nil_append] at hw
  repeat (first | refine go_run ?_ | (refine go_newP ?_; clear hw; intro p w hw) | (refine go_newWr ?_; clear hw; intro w hw) | (refine go_newS ?_; clear hw; intro s w hw))
  have hrl2 : RLs w cv (ls ++ [m0]) (Ls ++ [M]) := ⟨rsO hw, by simp [hll2], fun i hi => by
    simp only [List.length_append, List.length_cons, List.length_nil] at hi
    by_cases e : i < Ls.length
    · rw [vget_app_l (by omega), getD_app_l e]; exact (hw.focus 4 rfl).row e
    · have e2 : i = Ls.length := by omega
      rw [vget_app_at (by omega), getD_app_at e2]
      have := (hw.focus 2 rfl).row (i := 0) (show 0 < [M].length from Nat.zero_lt_succ _)
      rw [vget_eq] at this
      exact this⟩
  have hin2 : ∀ k, k < (Ls ++ [M]).length → InV t.vars ((Ls ++ [M]).getD k []) ∧ cntL t.vars ((Ls ++ [M]).getD k []) ≤ 64 ∧ pErr t ((Ls ++ [M]).getD k []) = 0 := fun i hi => by
    simp only [List.length_append, List.length_cons, List.length_nil] at hi
    by_cases e : i < Ls.length
    · rw [getD_app_l e]; exact ⟨hin i e, hsm i e, hpe i e⟩
    · rw [getD_app_at (by omega)]; exact ⟨hMi, hMs, hMe⟩
  have hnE : ∀ {Xs : List (List Int)}, (∀ k, k < Xs.length → InV t.vars (Xs.getD k [])) → Xs.length ≤ 32 → nErr t Xs = 0 := fun hi hl => by
    unfold nErr
    rw [if_neg (by rw [(good_iff t).2 hg]; decide), if_neg (fun ⟨i, hi', hn⟩ => hn (chkP_zero.1 (small_err hs (hi i hi')).2).2), if_neg (by omega)]
  refine st_call rfl (New_spec (s := cv) (ht'.at hw) hrl2 (fun _ _ _ i hi => (hin2 i hi).2.2)) ?_
  rintro _ w' (⟨h1, _⟩ | ⟨_, _, hl2, hpe2, pb, Ds2, Ps2, rfl, hR2, hk'⟩)
  · exact absurd (hnE (fun i hi => (hin2 i hi).1) (by simp; omega)) h1
  replace hw := hw.call1 hk'
  clear hk'
  refine ⟨_, rfl, ?_⟩
  have hSC2 : SatC t (Ls ++ [M]) Ds2 Ps2 := ⟨hR2, hg, fun i hi => (hin2 i hi).1, fun i hi => (hin2 i hi).2.1, by simp; omega⟩
  have hw : Sat w0 w' [RdH (fun w => RPt w pb t (Ls ++ [M]) Ds2 Ps2), RdH (fun w => RPt w pa t Ls Ds Ps), RowsAt tInt 3 ls Ls, OS tVal 22 lv ls, Box pt 26 [a, b, c, d]] := by
    have hw2 : Sat w0 w' [RdH (fun w => RPt w pb t (Ls ++ [M]) Ds2 Ps2), OS tVal 22 cv (ls ++ [m0]), RdH (fun w => RPt w pa t Ls Ds Ps), RowsAt tInt 3 [m0] [M], OS tVal 22 mv [m0], RowsAt tInt 3 ls Ls, OS tVal 22 lv ls, Box pt 26 [a, b, c, d]] := hw
    exact hw2.sel
  have hL0 : 0 < Ls.length := by omega
  have hbz : bErr t (Ls.getD 0 []) [] = 0 := by
    unfold bErr
    rw [if_neg (by rw [(good_iff t).2 hg]; decide), if_neg (by simp), if_neg (fun ⟨x, hx, _⟩ => by simp at hx), hpe 0 hL0]
  repeat (first | refine go_run ?_ | (refine go_newP ?_; clear hw; intro p w hw) | (refine go_newWr ?_; clear hw; intro w hw) | (refine go_newS ?_; clear hw; intro s w hw))
  refine vc_plan [.op 0, .op 1, .op 2, .op 3, .op 4, .op 5, .op 6, .op 7, .op 8, .op 9] hw (by kernel_rfl) ?_; clear hw; intro w hw
  repeat (first | refine go_run ?_ | (refine go_newP ?_; clear hw; intro p w hw) | (refine go_newWr ?_; clear hw; intro w hw) | (refine go_newS ?_; clear hw; intro s w hw))
  refine st_call rfl (Build_spec (kv := .slice none 0 0) (vp := vget ls 0) (L := Ls.getD 0 []) (cs := []) (ht'.at hw) ((hw.focus 2 rfl).row hL0) RS.nil) ?_
  rintro _ w' (⟨h1, _⟩ | ⟨_, _, _, _, pd, D, rfl, hD, hk'⟩)
  · exact absurd hbz h1
  replace hw := hw.call1 hk'
  clear hk'
  refine ⟨_, rfl, ?_⟩
  have hdb := dbI_ok (hpe 0 hL0) hD
  have htab := hSC.table hL0 (D := D) hD
  repeat (first | refine go_run ?_ | (refine go_newP ?_; clear hw; intro p w hw) | (refine go_newWr ?_; clear hw; intro w hw) | (refine go_newS ?_; clear hw; intro s w hw))
  refine vc_plan [.op 0, .op 1, .op 2, .op 3, .op 4, .op 5, .op 6, .op 7, .op 8] hw (by kernel_rfl) ?_; clear hw; intro w hw
  repeat (first | refine go_run ?_ | (refine go_newP ?_; clear hw; intro p w hw) | (refine go_newWr ?_; clear hw; intro w hw) | (refine go_newS ?_; clear hw; intro s w hw))
  have hrl3 : RLs w (ssub lv tVal.sz 0 1) (cut ls 0 1) [Ls.getD 0 []] := ⟨rs_ssub (T := tVal) (rsO hw) (by omega) (by omega), by rw [cut_len (by omega)]; rfl, fun i hi => by
    have : i = 0 := by simp at hi; exact hi
    subst this
    have := (hw.focus 3 rfl).row hL0
    have e : vget (cut ls 0 1) 0 = vget ls 0 := by
      rw [vget_eq, vget_eq]
      simp [cut, List.getD_eq_getElem?_getD, List.getElem?_take]
    rw [e]; exact this⟩
  have hin3 : ∀ k, k < [Ls.getD 0 []].length → InV t.vars ([Ls.getD 0 []].getD k []) ∧ cntL t.vars ([Ls.getD 0 []].getD k []) ≤ 64 ∧ pErr t ([Ls.getD 0 []].getD k []) = 0 := fun i hi => by
    have : i = 0 := by simp at hi; exact hi
    subst this
    exact ⟨hin 0 hL0, hsm 0 hL0, hpe 0 hL0⟩
  refine st_call rfl (New_spec (s := ssub lv tVal.sz 0 1) (ht'.at hw) hrl3 (fun _ _ _ i hi => (hin3 i hi).2.2)) ?_
  rintro _ w' (⟨h1, _⟩ | ⟨_, _, hl3, hpe3, pc, Ds3, Ps3, rfl, hR3, hk'⟩)
  · exact absurd (hnE (fun i hi => (hin3 i hi).1) (by simp)) h1
  replace hw := hw.call1 hk'
  clear hk'
  refine ⟨_, rfl, ?_⟩
  have hSC3 : SatC t [Ls.getD 0 []] Ds3 Ps3 := ⟨hR3, hg, fun i hi => (hin3 i hi).1, fun i hi => (hin3 i hi).2.1, by simp⟩
  have htab3 := hSC3.table (Nat.zero_lt_succ _) (D := D) hD
  have hw : Sat w0 w' [RdH (fun w => RPt w pc t [Ls.getD 0 []] Ds3 Ps3), DbO pd (dbI t (Ls.getD 0 []) D), RdH (fun w => RPt w pb t (Ls ++ [M]) Ds2 Ps2), RdH (fun w => RPt w pa t Ls Ds Ps), Box pt 26 [a, b, c, d]] := by
    have hw2 : Sat w0 w' [RdH (fun w => RPt w pc t [Ls.getD 0 []] Ds3 Ps3), DbO pd (dbI t (Ls.getD 0 []) D), RdH (fun w => RPt w pb t (Ls ++ [M]) Ds2 Ps2), RdH (fun w => RPt w pa t Ls Ds Ps), RowsAt tInt 3 ls Ls, OS tVal 22 lv ls, Box pt 26 [a, b, c, d]] := hw
    exact hw2.sel
  have hlen : (statesL t.vars).length ≤ 512 := by rw [statesL_len hg.pos]; omega
  repeat (first | refine go_run ?_ | (refine go_newP ?_; clear hw; intro p w hw) | (refine go_newW ?_; clear hw; intro w hw) | (refine go_newS ?_; clear hw; intro s w hw))
  refine st_call rfl (States_spec (ha.at hw) hg.pos hg.vars (by omega)) ?_
  rintro _ w' ⟨sv, ss, rfl, hk'⟩
  replace hw := hw.call2 hk'
  clear hk'
  have hss := hw.rowsLen
  refine ⟨_, rfl, ?_⟩
  have hw : Sat w0 w' [RowsAt tInt 3 ss (statesL t.vars), OS tVal 22 sv ss, RdH (fun w => RPt w pc t [Ls.getD 0 []] Ds3 Ps3), DbO pd (dbI t (Ls.getD 0 []) D), RdH (fun w => RPt w pb t (Ls ++ [M]) Ds2 Ps2), RdH (fun w => RPt w pa t Ls Ds Ps), Box pt 26 [a, b, c, d]] := hw
  repeat (first | refine go_run ?_ | (refine go_newP ?_; clear hw; intro p w hw) | (refine go_newW ?_; clear hw; intro w hw) | (refine go_newS ?_; clear hw; intro s w hw))
  refine vc_loop [6, 20, 99, 100, 101, 102, 103, 104, 105, 106, 107, 108, 109, 110, 111, 112, 113, 114, 115, 116, 117, 118, 119, 120, 121, 122, 123, 124, 125, 126, 127, 128] (G := Nat) (fun k => [(99, .int .i64 k)]) (fun k w => k ≤ (statesL t.vars).length ∧ Sat w0 w [RowsAt tInt 3 ss (statesL t.vars), OS tVal 22 sv ss, RdH (fun w => RPt w pc t [Ls.getD 0 []] Ds3 Ps3), DbO pd (dbI t (Ls.getD 0 []) D), RdH (fun w => RPt w pb t (Ls ++ [M]) Ds2 Ps2), RdH (fun w => RPt w pa t Ls Ds Ps), Box pt 26 [a, b, c, d]]) (fun k => (statesL t.vars).length - k) 0 (fun _ => rfl) ⟨rfl, trivial⟩ ⟨Nat.zero_le _, hw⟩ ?_
  clear hw
  rintro σ k w ⟨hk, hw⟩
  repeat (first | refine go_run ?_ | (refine go_newP ?_; clear hw; intro p w hw) | (refine go_newW ?_; clear hw; intro w hw) | (refine go_newS ?_; clear hw; intro s w hw))
  refine go_if (fun h5 => ?_) (fun h5 => ?_)
  · have hkl : k < (statesL t.vars).length := by omega
    obtain ⟨hst, hrk⟩ := statesL_at hg.pos hkl
    obtain ⟨S, hSt⟩ : ∃ S, S = (statesL t.vars).getD k [] := ⟨_, rfl⟩
    have hd0 : valD (dbI t (Ls.getD 0 []) D) ((statesL t.vars).getD k []) = valK t Ls Ds ((statesL t.vars).getD k []) 0 := by
      rw [valD_ok hst]; unfold valK; rw [htab]; rfl
    have hd3 : valPt t [Ls.getD 0 []] Ds3 ((statesL t.vars).getD k []) = valD (dbI t (Ls.getD 0 []) D) ((statesL t.vars).getD k []) := by
      rw [hSC3.one hst, valD_ok hst]; unfold valK; rw [htab3]; rfl
    have hf1 := hSC.first hL0 hst
    rw [← hd0] at hf1
    have hf2 := hSC.more hSC2 hst
    repeat (first | refine go_run ?_ | (refine go_newP ?_; clear hw; intro p w hw) | (refine go_newW ?_; clear hw; intro w hw) | (refine go_newS ?_; clear hw; intro s w hw))
    refine st_call rfl (PValue_spec (hw.rdE 5 rfl) hR (by omega) hpe (hw.row hkl)) ?_
    rintro _ w' ⟨rfl, hk'⟩
    replace hw := hw.call0 hk'
    clear hk'
    refine ⟨_, rfl, ?_⟩
    repeat (first | refine go_run ?_ | (refine go_newP ?_; clear hw; intro p w hw) | (refine go_newW ?_; clear hw; intro w hw) | (refine go_newS ?_; clear hw; intro s w hw))
    refine st_call rfl (Value_spec (p := pd) (rdbO hw) hdb (hw.row hkl)) ?_
    rintro _ w' ⟨rfl, hk'⟩
    replace hw := hw.call0 hk'
    clear hk'
    refine ⟨_, rfl, ?_⟩
    repeat (first | refine go_run ?_ | (refine go_newP ?_; clear hw; intro p w hw) | (refine go_newW ?_; clear hw; intro w hw) | (refine go_newS ?_; clear hw; intro s w hw))
    have hde1 : decide (valPt t Ls Ds ((statesL t.vars).getD k []) < valD (dbI t (Ls.getD 0 []) D) ((statesL t.vars).getD k [])) = false := decide_eq_false (by omega)
    simp only [hde1, gvff]
    repeat (first | refine go_run ?_ | (refine go_newP ?_; clear hw; intro p w hw) | (refine go_newW ?_; clear hw; intro w hw) | (refine go_newS ?_; clear hw; intro s w hw))
    refine st_call rfl (PValue_spec (hw.rdE 4 rfl) hR2 hl2 (fun i hi => (hin2 i hi).2.2) (hw.row hkl)) ?_
    rintro _ w' ⟨rfl, hk'⟩
    replace hw := hw.call0 hk'
    clear hk'
    refine ⟨_, rfl, ?_⟩
    repeat (first | refine go_run ?_ | (refine go_newP ?_; clear hw; intro p w hw) | (refine go_newW ?_; clear hw; intro w hw) | (refine go_newS ?_; clear hw; intro s w hw))
    refine st_call rfl (PValue_spec (hw.rdE 5 rfl) hR (by omega) hpe (hw.row hkl)) ?_
    rintro _ w' ⟨rfl, hk'⟩
    replace hw := hw.call0 hk'
    clear hk'
    refine ⟨_, rfl, ?_⟩
    repeat (first | refine go_run ?_ | (refine go_newP ?_; clear hw; intro p w hw) | (refine go_newW ?_; clear hw; intro w hw) | (refine go_newS ?_; clear hw; intro s w hw))
    have hde2 : decide (valPt t (Ls ++ [M]) Ds2 ((statesL t.vars).getD k []) < valPt t Ls Ds ((statesL t.vars).getD k [])) = false := decide_eq_false (by omega)
    simp only [hde2, Bool.or_self, gvff]
    repeat (first | refine go_run ?_ | (refine go_newP ?_; clear hw; intro p w hw) | (refine go_newW ?_; clear hw; intro w hw) | (refine go_newS ?_; clear hw; intro s w hw))
    refine st_call rfl (PValue_spec (hw.rdE 2 rfl) hR3 hl3 (fun i hi => (hin3 i hi).2.2) (hw.row hkl)) ?_
    rintro _ w' ⟨rfl, hk'⟩
    replace hw := hw.call0 hk'
    clear hk'
    refine ⟨_, rfl, ?_⟩
    repeat (first | refine go_run ?_ | (refine go_newP ?_; clear hw; intro p w hw) | (refine go_newW ?_; clear hw; intro w hw) | (refine go_newS ?_; clear hw; intro s w hw))
    rw [hd3]
    refine st_call rfl (Value_spec (p := pd) (rdbO hw) hdb (hw.row hkl)) ?_
    rintro _ w' ⟨rfl, hk'⟩
    replace hw := hw.call0 hk'
    clear hk'
    refine ⟨_, rfl, ?_⟩
    repeat (first | refine go_run ?_ | (refine go_newP ?_; clear hw; intro p w hw) | (refine go_newW ?_; clear hw; intro w hw) | (refine go_newS ?_; clear hw; intro s w hw))
    simp only [decide_true, Bool.not_true, Bool.or_self]
    repeat (first | refine go_run ?_ | (refine go_newP ?_; clear hw; intro p w hw) | (refine go_newW ?_; clear hw; intro w hw) | (refine go_newS ?_; clear hw; intro s w hw))
    exact ⟨k + 1, ⟨rfl, trivial⟩, by repeat (first | exact agree_refl | (apply agree_upd rfl) | (apply agree_mix rfl) | (apply agree_sets rfl)), ⟨by omega, hw⟩, by omega⟩
  · repeat (first | refine go_run ?_ | (refine go_newP ?_; clear hw; intro p w hw) | (refine go_newW ?_; clear hw; intro w hw) | (refine go_newS ?_; clear hw; intro s w hw))
    exact res_one (v := .bool true) rfl rfl ⟨rfl, sat_none hw⟩
end Go.Proofs.Ytnoiagnmbipppaa
