
/-
  The statement 'PatternsMore' returns true.
-/
import Derived.Test.YtemnlcnjpjdoaaaGreatDoorW42c
set_option linter.unusedSimpArgs false
set_option linter.unusedVariables false
namespace Go.Proofs.YtemnlcnjpjdoaaaGreatDoor
open Go.Sl Go
attribute [local irreducible] vc opsW opsD opV opW PureV ReadV Thn Blk
theorem pats_rev {t : TTask} {Ls : List (List Int)} (h : PatsOk t Ls) (hl : Ls.length ≤ 6) : PatsOk t Ls.reverse where
  small := h.small
  len := by rw [List.length_reverse]; omega
  inv := fun i hi => by
    rw [List.length_reverse] at hi
    have e : Ls.reverse.getD i [] = Ls.getD (Ls.length - 1 - i) [] := by
      rw [List.getD_eq_getElem?_getD, List.getD_eq_getElem?_getD, List.getElem?_reverse (by omega)]
    rw [e]; exact h.inv _ (by omega)
  cnt := fun i hi => by
    rw [List.length_reverse] at hi
    have e : Ls.reverse.getD i [] = Ls.getD (Ls.length - 1 - i) [] := by
      rw [List.getD_eq_getElem?_getD, List.getD_eq_getElem?_getD, List.getElem?_reverse (by omega)]
    rw [e]; exact h.cnt _ (by omega)
  full := fun _ => few_not_full (by rw [List.length_reverse]; omega)
theorem pats_snoc {t : TTask} {Ls : List (List Int)} {P : List Int} (h : PatsOk t Ls) (hl : Ls.length ≤ 6) (hP : InV t.vars P) (hc : cntL t.vars P ≤ 64) : PatsOk t (Ls ++ [P]) where
  small := h.small
  len := by simp only [List.length_append, List.length_singleton]; omega
  inv := fun i hi => by
    simp only [List.length_append, List.length_singleton] at hi
    by_cases e : i < Ls.length
    · rw [getD_app_l e]; exact h.inv i e
    · rw [getD_app_at (by omega)]; exact hP
  cnt := fun i hi => by
    simp only [List.length_append, List.length_singleton] at hi
    by_cases e : i < Ls.length
    · rw [getD_app_l e]; exact h.cnt i e
    · rw [getD_app_at (by omega)]; exact hc
  full := fun _ => few_not_full (by simp only [List.length_append, List.length_singleton]; omega)
theorem rls_rev {w : World} {s : Value} {ss : List Value} {Ls : List (List Int)} {lv : Value} (h : RLs w lv ss Ls) (hr : RS tVal w s ss.reverse) : RLs w s ss.reverse Ls.reverse := ⟨hr, by rw [List.length_reverse, List.length_reverse, h.len], fun i hi => by
  rw [List.length_reverse] at hi
  have hl := h.len
  have e1 : Ls.reverse.getD i [] = Ls.getD (Ls.length - 1 - i) [] := by
    rw [List.getD_eq_getElem?_getD, List.getD_eq_getElem?_getD, List.getElem?_reverse (by omega)]
  have e2 : vget ss.reverse i = vget ss (Ls.length - 1 - i) := by
    rw [vget_eq, vget_eq, List.getD_eq_getElem?_getD, List.getD_eq_getElem?_getD, List.getElem?_reverse (by omega), hl]
  rw [e1, e2]
  exact h.at_ _ (by omega)⟩
theorem rls_app {w : World} {s lv pv : Value} {ss ps : List Value} {Ls : List (List Int)} {P : List Int} (h : RLs w lv ss Ls) (hp : RLs w pv ps [P]) (hr : RS tVal w s (ss ++ ps)) : RLs w s (ss ++ ps) (Ls ++ [P]) := ⟨hr, by simp only [List.length_append, h.len, hp.len], fun i hi => by
  have hl := h.len
  have hl2 := hp.len
  simp only [List.length_append, List.length_singleton] at hi hl2
  obtain ⟨p, rfl⟩ : ∃ p, ps = [p] := List.length_eq_one_iff.1 hl2
  by_cases e : i < Ls.length
  · rw [getD_app_l e, vget_app_l (by omega)]; exact h.at_ i e
  · rw [getD_app_at (by omega), vget_app_at (by omega)]
    have := hp.at_ 0 (by simp)
    rw [show vget [p] 0 = p by unfold vget; rfl] at this
    exact this⟩
theorem beq_tfM : (true == false) = false := rfl
theorem beq_ftM : (false == true) = false := rfl
theorem gv_fM (v : Value) : gv false v = undef := by unfold gv; rfl
theorem gv_tM (v : Value) : gv true v = v := gv_true rfl
theorem drop_valM {ss : List Value} {k : Nat} (h : k < ss.length) : ss.drop k = vget ss k :: ss.drop (k + 1) := by
  rw [List.drop_eq_getElem_cons h, vget_eq, getD_at h]
theorem rows_oneM {w w0 : World} {Γ : List HP} {α : Type} {T : Ty α} {e : TypeId} {ss : List Value} {xss : List (List α)} (h : Sat w0 w (RowsAt T e ss xss :: Γ)) : ∀ y ∈ ss, y.oneCell' = true := fun y hy => by
  have hl := h.rowsLen
  obtain ⟨i, hi, rfl⟩ := List.getElem_of_mem hy
  have := (h.row (i := i) (by omega)).one
  rwa [vget_eq, getD_at hi] at this
set_option maxRecDepth 8000 in
set_option maxHeartbeats 4000000 in
theorem PatternsMore_walk {w0 : World} {a b c d xv : Value} {vs : List OpV} {t : TTask} {xs : List Int} {more : Int} (ht : RTask w0 a b c d vs t) (hx : RS tU16 w0 xv xs) (hT : TabB w0) :
    Calls Tryz.prog 6 #[.agg #[a, b, c, d], xv, .int .u16 more] w0 fun e w' => e = .returned (.bool true) ∧ Sat w0 w' [] := by
  have ht' := ht
  obtain ⟨ha, hb, hc, hd⟩ := ht
  have hrs := hd.rs
  have hdl := hd.len
  have hll := hrs.big
  have hw := Sat.start w0
  refine calls_of_vc (args := [.agg #[a, b, c, d], xv, .int .u16 more]) mixed Tryz.func6 rfl (by kernel_rfl) (Nat.le_of_ble_eq_true rfl) ?_
  repeat (first | refine go_run ?_ | (refine go_newP ?_; clear hw; intro p w hw) | (refine go_newWr ?_; clear hw; intro w hw) | (refine go_newS ?_; clear hw; intro s w hw))
  obtain ⟨pt, hpt⟩ : ∃ pt, pt = p := ⟨p, rfl⟩
  subst hpt
  refine st_call rfl (picked42_spec (ht'.at hw) (hx.at hw)) ?_
  rintro _ w' (⟨_, rfl, hk'⟩ | ⟨hpk, lv, ls, rfl, hk'⟩)
  · replace hw := hw.call0 hk'
    clear hk'
    refine ⟨_, rfl, ?_⟩
    repeat (first | refine go_run ?_ | (refine go_newP ?_; clear hw; intro p w hw) | (refine go_newW ?_; clear hw; intro w hw) | (refine go_newSv ?_; clear hw; intro s w hw))
    refine st_buildSlice1 tU16 (x1 := more) rfl rfl rfl (Nat.le_of_ble_eq_true rfl) (Nat.zero_lt_succ _) hw ?_
    clear hw
    intro uv w hw
    repeat (first | refine go_run ?_ | (refine go_newP ?_; clear hw; intro p w hw) | (refine go_newW ?_; clear hw; intro w hw) | (refine go_newS ?_; clear hw; intro s w hw))
    refine st_call rfl (picked42_spec (xv := uv) (xs := [more]) (ht'.at hw) (rsO hw)) ?_
    rintro _ w' (⟨_, rfl, hk'⟩ | ⟨_, pv, ps, rfl, hk'⟩)
    · replace hw := hw.call0 hk'
      clear hk'
      refine ⟨_, rfl, ?_⟩
      repeat (first | refine go_run ?_ | (refine go_newP ?_; clear hw; intro p w hw) | (refine go_newW ?_; clear hw; intro w hw) | (refine go_newS ?_; clear hw; intro s w hw))
      refine st_call rfl (awake42_spec (hT.at hw)) ?_
      rintro _ w' ⟨rfl, hk'⟩
      replace hw := hw.call0 hk'
      clear hk'
      refine ⟨_, rfl, ?_⟩
      repeat (first | refine go_run ?_ | (refine go_newP ?_; clear hw; intro p w hw) | (refine go_newW ?_; clear hw; intro w hw) | (refine go_newS ?_; clear hw; intro s w hw))
      exact res_one (v := .bool true) rfl rfl ⟨rfl, sat_none hw⟩
    · replace hw := hw.call2 hk'
      clear hk'
      refine ⟨_, rfl, ?_⟩
      repeat (first | refine go_run ?_ | (refine go_newP ?_; clear hw; intro p w hw) | (refine go_newW ?_; clear hw; intro w hw) | (refine go_newS ?_; clear hw; intro s w hw))
      refine st_call rfl (awake42_spec (hT.at hw)) ?_
      rintro _ w' ⟨rfl, hk'⟩
      replace hw := hw.call0 hk'
      clear hk'
      refine ⟨_, rfl, ?_⟩
      repeat (first | refine go_run ?_ | (refine go_newP ?_; clear hw; intro p w hw) | (refine go_newW ?_; clear hw; intro w hw) | (refine go_newS ?_; clear hw; intro s w hw))
      exact res_one (v := .bool true) rfl rfl ⟨rfl, sat_none hw⟩
  replace hw := hw.call2 hk'
  clear hk'
  refine ⟨_, rfl, ?_⟩
  repeat (first | refine go_run ?_ | (refine go_newP ?_; clear hw; intro p w hw) | (refine go_newW ?_; clear hw; intro w hw) | (refine go_newSv ?_; clear hw; intro s w hw))
  refine st_buildSlice1 tU16 (x1 := more) rfl rfl rfl (Nat.le_of_ble_eq_true rfl) (Nat.zero_lt_succ _) hw ?_
  clear hw
  intro uv w hw
  repeat (first | refine go_run ?_ | (refine go_newP ?_; clear hw; intro p w hw) | (refine go_newW ?_; clear hw; intro w hw) | (refine go_newS ?_; clear hw; intro s w hw))
  refine st_call rfl (picked42_spec (xv := uv) (xs := [more]) (ht'.at hw) (rsO hw)) ?_
  rintro _ w' (⟨_, rfl, hk'⟩ | ⟨hpk2, pv, ps, rfl, hk'⟩)
  · replace hw := hw.call0 hk'
    clear hk'
    refine ⟨_, rfl, ?_⟩
    repeat (first | refine go_run ?_ | (refine go_newP ?_; clear hw; intro p w hw) | (refine go_newW ?_; clear hw; intro w hw) | (refine go_newS ?_; clear hw; intro s w hw))
    refine st_call rfl (awake42_spec (hT.at hw)) ?_
    rintro _ w' ⟨rfl, hk'⟩
    replace hw := hw.call0 hk'
    clear hk'
    refine ⟨_, rfl, ?_⟩
    repeat (first | refine go_run ?_ | (refine go_newP ?_; clear hw; intro p w hw) | (refine go_newW ?_; clear hw; intro w hw) | (refine go_newS ?_; clear hw; intro s w hw))
    exact res_one (v := .bool true) rfl rfl ⟨rfl, sat_none hw⟩
  replace hw := hw.call2 hk'
  clear hk'
  refine ⟨_, rfl, ?_⟩
  have hpo := hpk.pats
  have hs := hpk.1
  have hg := hs.good
  have hV := hs.vars
  have hO := hs.ops
  have hM := hs.many
  have hlen : (statesL t.vars).length ≤ 512 := by rw [statesL_len hg.pos]; omega
  have hL6 : (pickLs t xs).length ≤ 6 := by rw [pickLs_len]; exact hpk.2.1
  have hPi := chosen_inV t.vars more
  have hPc : cntL t.vars (chosenK more t.vars.length) ≤ 64 := hpk2.2.2 0 (by simp)
  obtain ⟨P, hPe⟩ : ∃ P, P = chosenK more t.vars.length := ⟨_, rfl⟩
  rw [show pickLs t [more] = [chosenK more t.vars.length] from rfl, ← hPe] at hw
  rw [← hPe] at hPi hPc
  obtain ⟨Ls, hLs⟩ : ∃ Ls, Ls = pickLs t xs := ⟨_, rfl⟩
  rw [← hLs] at hw hpo hL6
  have hol := (hw.focus 3 rfl).rowsLen
  repeat (first | refine go_run ?_ | (refine go_newP ?_; clear hw; intro p w hw) | (refine go_newW ?_; clear hw; intro w hw) | (refine go_newS ?_; clear hw; intro s w hw))
  refine st_call rfl (awake42_spec (hT.at hw)) ?_
  rintro _ w' ⟨rfl, hk'⟩
  replace hw := hw.call0 hk'
  clear hk'
  refine ⟨_, rfl, ?_⟩
  have hw1 : Sat w0 w' [RowsAt tInt 3 ls Ls, OS tVal 22 lv ls, RowsAt tInt 3 ps [P], OS tVal 22 pv ps, Box pt 26 [a, b, c, d]] := by
    have hw2 : Sat w0 w' [RowsAt tInt 3 ps [P], OS tVal 22 pv ps, OS tU16 59 uv [more], RowsAt tInt 3 ls Ls, OS tVal 22 lv ls, Box pt 26 [a, b, c, d]] := hw
    exact hw2.sel
  clear hw
  have hw := hw1
  clear hw1
  repeat (first | refine go_run ?_ | (refine go_newP ?_; clear hw; intro p w hw) | (refine go_newW ?_; clear hw; intro w hw) | (refine go_newS ?_; clear hw; intro s w hw))
  have hw1 : Sat w0 w' [OS tVal 22 (.slice none 0 0) (ls.drop ls.length).reverse, RowsAt tInt 3 ls Ls, OS tVal 22 lv ls, RowsAt tInt 3 ps [P], OS tVal 22 pv ps, Box pt 26 [a, b, c, d]] := by
    rw [List.drop_length, List.reverse_nil]
    exact hw.nil (T := tVal) (e := 22)
  clear hw
  refine vc_loop2 [11, 12, 50, 51, 52, 53, 54, 55, 56, 57, 58, 59, 60] (G := Nat) (H := Value) (fun m tv => [(12, .int .i64 ((m : Int) - 1)), (11, tv)]) (fun m tv w => m ≤ ls.length ∧ Sat w0 w [OS tVal 22 tv (ls.drop m).reverse, RowsAt tInt 3 ls Ls, OS tVal 22 lv ls, RowsAt tInt 3 ps [P], OS tVal 22 pv ps, Box pt 26 [a, b, c, d]]) (fun m _ => m) ls.length (.slice none 0 0) (fun _ _ => rfl) ⟨rfl, rfl, trivial⟩ ⟨Nat.le_refl _, hw1⟩ ?_
  clear hw1
  rintro σ m tv w ⟨hm, hw⟩
  have hrl : (ls.drop m).reverse.length ≤ 6 := by rw [List.length_reverse, List.length_drop]; omega
  repeat (first | refine go_run ?_ | (refine go_newP ?_; clear hw; intro p w hw) | (refine go_newW ?_; clear hw; intro w hw) | (refine go_newS ?_; clear hw; intro s w hw))
  refine go_if (fun h1 => ?_) (fun h1 => ?_)
  · have hm1 : 1 ≤ m := by omega
    have he1 : ((m : Int) - 1).toNat = m - 1 := by omega
    have hone := ((hw.focus 1 rfl).row (i := m - 1) (by omega)).one
    have ho1 : ∀ y ∈ [vget ls (m - 1)], ∀ v ∈ tVal.enc y, v.oneCell' = true := fun y hy v hv => by
      rw [List.mem_singleton.1 hv, List.mem_singleton.1 hy]; exact hone
    have hc1 := ((hw.focus 1 rfl).row (i := m - 1) (by omega)).cells1
    have he2 : ((m - 1 : Nat) : Int) = (m : Int) - 1 := by omega
    have he3 : (ls.drop m).reverse ++ [vget ls (m - 1)] = (ls.drop (m - 1)).reverse := by
      rw [drop_valM (show m - 1 < ls.length by omega), List.reverse_cons, show m - 1 + 1 = m by omega]
    repeat (first | refine go_run ?_ | (refine go_newP ?_; clear hw; intro p w hw) | (refine go_newW ?_; clear hw; intro w hw) | (refine go_newSv ?_; clear hw; intro s w hw))
    simp only [he1]
    repeat (first | refine go_run ?_ | (refine go_newP ?_; clear hw; intro p w hw) | (refine go_newW ?_; clear hw; intro w hw) | (refine go_newSv ?_; clear hw; intro s w hw))
    refine st_buildSlice1 tVal (x1 := vget ls (m - 1)) rfl hc1 rfl (Nat.le_of_ble_eq_true rfl) (Nat.zero_lt_succ _) hw ?_
    clear hw
    intro b1 w hw
    refine st_append (s := tv) (s2 := b1) inferInstance rfl rfl (rsO (s := b1) hw) rfl rfl ho1 (by simp only [List.length_singleton]; omega) (by unfold big; simp only [List.length_singleton]; omega) hw ?_
    clear hw
    intro tv2 w hw
    rw [he3] at hw
    repeat (first | refine go_run ?_ | (refine go_newP ?_; clear hw; intro p w hw) | (refine go_newW ?_; clear hw; intro w hw) | (refine go_newS ?_; clear hw; intro s w hw))
    exact ⟨m - 1, tv2, ⟨by rw [he2]; rfl, rfl, trivial⟩, by repeat (first | exact agree_refl | (apply agree_upd rfl) | (apply agree_mix rfl) | (apply agree_sets rfl)), ⟨by omega, hw.tail⟩, by omega⟩
  have hm0 : m = 0 := by omega
  subst hm0
  rw [List.drop_zero] at hw
  clear h1 hrl hm
  have hls6 : ls.length ≤ 6 := by omega
  repeat (first | refine go_run ?_ | (refine go_newP ?_; clear hw; intro p w hw) | (refine go_newW ?_; clear hw; intro w hw) | (refine go_newS ?_; clear hw; intro s w hw))
  refine st_call rfl (paNew_ok (s := lv) (ss := ls) (Ls := Ls) (ht'.at hw) ⟨hw.rs 2 rfl, (hw.focus 1 rfl).rowsLen, fun i hi => (hw.focus 1 rfl).row hi⟩ (hT.at hw) hpo) ?_
  rintro _ w' ⟨p1, D1, C1, rfl, hC1, hk'⟩
  replace hw := hw.call1 hk'
  clear hk'
  refine ⟨_, rfl, ?_⟩
  have hpl := (hw.focus 4 rfl).rowsLen
  have hon1 : ∀ y ∈ ls, ∀ v ∈ tVal.enc y, v.oneCell' = true := fun y hy v hv => by
    rw [List.mem_singleton.1 hv]; exact rows_oneM (hw.focus 2 rfl) y hy
  have hon2 : ∀ y ∈ ps, ∀ v ∈ tVal.enc y, v.oneCell' = true := fun y hy v hv => by
    rw [List.mem_singleton.1 hv]; exact rows_oneM (hw.focus 4 rfl) y hy
  simp only [List.length_singleton] at hpl
  repeat (first | refine go_run ?_ | (refine go_newP ?_; clear hw; intro p w hw) | (refine go_newWr ?_; clear hw; intro w hw) | (refine go_newS ?_; clear hw; intro s w hw))
  refine vc_plan [.op 0, .op 1, .chk 0, .op 2, .op 3, .chk 0, .op 4, .op 5, .chk 0, .op 6, .op 7, .op 8, .op 9, .op 10, .op 11] hw (by kernel_rfl) ?_; clear hw; intro w hw
  repeat (first | refine go_run ?_ | (refine go_newP ?_; clear hw; intro p w hw) | (refine go_newW ?_; clear hw; intro w hw) | (refine go_newSv ?_; clear hw; intro s w hw))
  refine st_buildSlice0 tVal hw ?_
  clear hw
  intro e0 w hw
  repeat (first | refine go_run ?_ | (refine go_newP ?_; clear hw; intro p w hw) | (refine go_newW ?_; clear hw; intro w hw) | (refine go_newSv ?_; clear hw; intro s w hw))
  refine st_append (s := e0) (s2 := lv) inferInstance rfl rfl (rsO (s := lv) hw) rfl rfl hon1 (by simp only [List.length_nil]; omega) (by unfold big; simp only [List.length_nil]; omega) hw ?_
  clear hw
  intro a1 w hw
  rw [List.nil_append] at hw
  repeat (first | refine go_run ?_ | (refine go_newP ?_; clear hw; intro p w hw) | (refine go_newW ?_; clear hw; intro w hw) | (refine go_newSv ?_; clear hw; intro s w hw))
  refine st_append (s := a1) (s2 := pv) inferInstance rfl rfl (rsO (s := pv) hw) rfl rfl hon2 (by omega) (by unfold big; omega) hw ?_
  clear hw
  intro a2 w hw
  repeat (first | refine go_run ?_ | (refine go_newP ?_; clear hw; intro p w hw) | (refine go_newW ?_; clear hw; intro w hw) | (refine go_newSv ?_; clear hw; intro s w hw))
  have hls := fun (w : World) (h : Sat w0 w [OS tVal 22 a2 (ls ++ ps), RdH (fun w => RCan w p1 t Ls D1 C1), OS tVal 22 tv ls.reverse, RowsAt tInt 3 ls Ls, OS tVal 22 lv ls, RowsAt tInt 3 ps [P], OS tVal 22 pv ps, Box pt 26 [a, b, c, d]]) => (⟨h.rs 4 rfl, (h.focus 3 rfl).rowsLen, fun i hi => (h.focus 3 rfl).row hi⟩ : RLs w lv ls Ls)
  have hpsr := fun (w : World) (h : Sat w0 w [OS tVal 22 a2 (ls ++ ps), RdH (fun w => RCan w p1 t Ls D1 C1), OS tVal 22 tv ls.reverse, RowsAt tInt 3 ls Ls, OS tVal 22 lv ls, RowsAt tInt 3 ps [P], OS tVal 22 pv ps, Box pt 26 [a, b, c, d]]) => (⟨h.rs 6 rfl, (h.focus 5 rfl).rowsLen, fun i hi => (h.focus 5 rfl).row hi⟩ : RLs w pv ps [P])
  have hpo2 := pats_snoc hpo hL6 hPi hPc
  have hpo3 := pats_rev hpo hL6
  refine st_call rfl (paNew_ok (s := a2) (ss := ls ++ ps) (Ls := Ls ++ [P]) (ht'.at hw) (rls_app (hls _ hw) (hpsr _ hw) (hw.rs 0 rfl)) (hT.at hw) hpo2) ?_
  rintro _ w' ⟨p2, D2, C2, rfl, hC2, hk'⟩
  replace hw := hw.call1 hk'
  clear hk'
  refine ⟨_, rfl, ?_⟩
  repeat (first | refine go_run ?_ | (refine go_newP ?_; clear hw; intro p w hw) | (refine go_newW ?_; clear hw; intro w hw) | (refine go_newS ?_; clear hw; intro s w hw))
  refine st_call rfl (paNew_ok (s := tv) (ss := ls.reverse) (Ls := Ls.reverse) (ht'.at hw) (rls_rev (hls _ hw.tail) (hw.rs 3 rfl)) (hT.at hw) hpo3) ?_
  rintro _ w' ⟨p3, D3, C3, rfl, hC3, hk'⟩
  replace hw := hw.call1 hk'
  clear hk'
  refine ⟨_, rfl, ?_⟩
  repeat (first | refine go_run ?_ | (refine go_newP ?_; clear hw; intro p w hw) | (refine go_newWr ?_; clear hw; intro w hw) | (refine go_newS ?_; clear hw; intro s w hw))
  refine vc_plan [.op 0, .op 1, .op 2, .op 3, .op 4, .op 5, .op 6, .op 7, .op 8, .op 9] hw (by kernel_rfl) ?_; clear hw; intro w hw
  have hp0 := (hw.focus 7 rfl).row (i := 0) (by simp)
  repeat (first | refine go_run ?_ | (refine go_newP ?_; clear hw; intro p w hw) | (refine go_newWr ?_; clear hw; intro w hw) | (refine go_newS ?_; clear hw; intro s w hw))
  have hbe : bErr t P [] = 0 := bErr_zero hg ⟨by simp, by simp⟩ (small_err hs hPi).1
  refine st_call rfl (Build_spec (kv := .slice none 0 0) (vp := vget ps 0) (L := P) (cs := []) (ht'.at hw) ((hw.focus 7 rfl).row (i := 0) (by simp)) RS.nil) ?_
  rintro _ w' (⟨h1, _⟩ | ⟨_, _, hUl, hUc, pd, D4, rfl, hD4, hk'⟩)
  · exact absurd hbe h1
  replace hw := hw.call1 hk'
  clear hk'
  refine ⟨_, rfl, ?_⟩
  have hdb := dbI_ok (small_err hs hPi).1 hD4
  have hw1 : Sat w0 w' [DbO pd (dbI t P D4), RdH (fun w => RCan w p3 t Ls.reverse D3 C3), RdH (fun w => RCan w p2 t (Ls ++ [P]) D2 C2), RdH (fun w => RCan w p1 t Ls D1 C1), Box pt 26 [a, b, c, d]] := by
    have hw2 : Sat w0 w' [DbO pd (dbI t P D4), RdH (fun w => RCan w p3 t Ls.reverse D3 C3), RdH (fun w => RCan w p2 t (Ls ++ [P]) D2 C2), OS tVal 22 a2 (ls ++ ps), RdH (fun w => RCan w p1 t Ls D1 C1), OS tVal 22 tv ls.reverse, RowsAt tInt 3 ls Ls, OS tVal 22 lv ls, RowsAt tInt 3 ps [P], OS tVal 22 pv ps, Box pt 26 [a, b, c, d]] := hw
    exact hw2.sel
  clear hw
  have hw := hw1
  clear hw1
  repeat (first | refine go_run ?_ | (refine go_newP ?_; clear hw; intro p w hw) | (refine go_newW ?_; clear hw; intro w hw) | (refine go_newS ?_; clear hw; intro s w hw))
  refine st_call rfl (States_spec (ha.at hw) hg.pos hg.vars (by omega)) ?_
  rintro _ w' ⟨sv, ss, rfl, hk'⟩
  replace hw := hw.call2 hk'
  clear hk'
  have hss := hw.rowsLen
  refine ⟨_, rfl, ?_⟩
  repeat (first | refine go_run ?_ | (refine go_newP ?_; clear hw; intro p w hw) | (refine go_newW ?_; clear hw; intro w hw) | (refine go_newS ?_; clear hw; intro s w hw))
  refine vc_loop [6, 22, 109, 110, 111, 112, 113, 114, 115, 116, 117, 118, 119, 120, 121, 122, 123, 124, 125, 126, 127, 128, 129, 130, 131, 132, 133, 134, 135, 136, 137, 138] (G := Nat) (fun k => [(109, .int .i64 k)]) (fun k w => k ≤ (statesL t.vars).length ∧ Sat w0 w [RowsAt tInt 3 ss (statesL t.vars), OS tVal 22 sv ss, DbO pd (dbI t P D4), RdH (fun w => RCan w p3 t Ls.reverse D3 C3), RdH (fun w => RCan w p2 t (Ls ++ [P]) D2 C2), RdH (fun w => RCan w p1 t Ls D1 C1), Box pt 26 [a, b, c, d]]) (fun k => (statesL t.vars).length - k) 0 (fun _ => rfl) ⟨rfl, trivial⟩ ⟨Nat.zero_le _, hw⟩ ?_
  clear hw
  rintro σ k w ⟨hk, hw⟩
  repeat (first | refine go_run ?_ | (refine go_newP ?_; clear hw; intro p w hw) | (refine go_newW ?_; clear hw; intro w hw) | (refine go_newS ?_; clear hw; intro s w hw))
  refine go_if (fun h5 => ?_) (fun h5 => ?_)
  · have hkl : k < (statesL t.vars).length := by omega
    obtain ⟨hst, hrk⟩ := statesL_at hg.pos hkl
    have hq1 := hC1.rev hC3 hst
    have hq2 := hC1.more hC2 hst
    have hq3 := hC2.one hst (k := Ls.length) (by simp)
    have hk4 : valK t (Ls ++ [P]) D2 ((statesL t.vars).getD k []) Ls.length = valD (dbI t P D4) ((statesL t.vars).getD k []) := by
      have h2 := hC2.dist Ls.length (by simp)
      have e : (Ls ++ [P]).getD Ls.length [] = P := getD_app_at rfl
      rw [e] at h2
      have hu : D2.getD Ls.length [] = D4 := h2.unique hD4
      rw [valD_ok hst]
      unfold valK
      rw [e, hu]; rfl
    rw [hk4] at hq3
    rw [hq1] at hq2
    have hd2 : decide (canV t (Ls ++ [P]) D2 C2 ((statesL t.vars).getD k []) < canV t Ls.reverse D3 C3 ((statesL t.vars).getD k [])) = false := decide_eq_false (by omega)
    have hd3 : decide (canV t (Ls ++ [P]) D2 C2 ((statesL t.vars).getD k []) < valD (dbI t P D4) ((statesL t.vars).getD k [])) = false := decide_eq_false (by omega)
    repeat (first | refine go_run ?_ | (refine go_newP ?_; clear hw; intro p w hw) | (refine go_newWr ?_; clear hw; intro w hw) | (refine go_newS ?_; clear hw; intro s w hw))
    refine st_call rfl (CValue_ok (p := p1) (hw.rdE 5 rfl) hC1 (hw.row hkl)) ?_
    rintro _ w' ⟨rfl, hk'⟩
    replace hw := hw.call0 hk'
    clear hk'
    rw [canW_ok hst, hq1]
    refine ⟨_, rfl, ?_⟩
    repeat (first | refine go_run ?_ | (refine go_newP ?_; clear hw; intro p w hw) | (refine go_newWr ?_; clear hw; intro w hw) | (refine go_newS ?_; clear hw; intro s w hw))
    refine st_call rfl (CValue_ok (p := p3) (hw.rdE 3 rfl) hC3 (hw.row hkl)) ?_
    rintro _ w' ⟨rfl, hk'⟩
    replace hw := hw.call0 hk'
    clear hk'
    rw [canW_ok hst]
    refine ⟨_, rfl, ?_⟩
    repeat (first | refine go_run ?_ | (refine go_newP ?_; clear hw; intro p w hw) | (refine go_newWr ?_; clear hw; intro w hw) | (refine go_newS ?_; clear hw; intro s w hw))
    simp only [decide_true, beq_self_eq_true, beq_tfM, beq_ftM, Bool.false_and, Bool.true_and, Bool.not_true, Bool.not_false, Bool.cond_true, Bool.cond_false, gv_fM, gv_tM]
    repeat (first | refine go_run ?_ | (refine go_newP ?_; clear hw; intro p w hw) | (refine go_newWr ?_; clear hw; intro w hw) | (refine go_newS ?_; clear hw; intro s w hw))
    refine st_call rfl (CValue_ok (p := p2) (hw.rdE 4 rfl) hC2 (hw.row hkl)) ?_
    rintro _ w' ⟨rfl, hk'⟩
    replace hw := hw.call0 hk'
    clear hk'
    rw [canW_ok hst]
    refine ⟨_, rfl, ?_⟩
    repeat (first | refine go_run ?_ | (refine go_newP ?_; clear hw; intro p w hw) | (refine go_newWr ?_; clear hw; intro w hw) | (refine go_newS ?_; clear hw; intro s w hw))
    refine st_call rfl (CValue_ok (p := p1) (hw.rdE 5 rfl) hC1 (hw.row hkl)) ?_
    rintro _ w' ⟨rfl, hk'⟩
    replace hw := hw.call0 hk'
    clear hk'
    rw [canW_ok hst, hq1]
    refine ⟨_, rfl, ?_⟩
    repeat (first | refine go_run ?_ | (refine go_newP ?_; clear hw; intro p w hw) | (refine go_newWr ?_; clear hw; intro w hw) | (refine go_newS ?_; clear hw; intro s w hw))
    simp only [hd2, decide_true, beq_self_eq_true, beq_tfM, beq_ftM, Bool.false_and, Bool.true_and, Bool.not_true, Bool.not_false, Bool.cond_true, Bool.cond_false, gv_fM, gv_tM]
    repeat (first | refine go_run ?_ | (refine go_newP ?_; clear hw; intro p w hw) | (refine go_newWr ?_; clear hw; intro w hw) | (refine go_newS ?_; clear hw; intro s w hw))
    refine st_call rfl (CValue_ok (p := p2) (hw.rdE 4 rfl) hC2 (hw.row hkl)) ?_
    rintro _ w' ⟨rfl, hk'⟩
    replace hw := hw.call0 hk'
    clear hk'
    rw [canW_ok hst]
    refine ⟨_, rfl, ?_⟩
    repeat (first | refine go_run ?_ | (refine go_newP ?_; clear hw; intro p w hw) | (refine go_newWr ?_; clear hw; intro w hw) | (refine go_newS ?_; clear hw; intro s w hw))
    refine st_call rfl (Value_spec (p := pd) (rdbO hw) hdb (hw.row hkl)) ?_
    rintro _ w' ⟨rfl, hk'⟩
    replace hw := hw.call0 hk'
    clear hk'
    refine ⟨_, rfl, ?_⟩
    repeat (first | refine go_run ?_ | (refine go_newP ?_; clear hw; intro p w hw) | (refine go_newWr ?_; clear hw; intro w hw) | (refine go_newS ?_; clear hw; intro s w hw))
    simp only [hd3, decide_true, beq_self_eq_true, beq_tfM, beq_ftM, Bool.false_and, Bool.true_and, Bool.not_true, Bool.not_false, Bool.cond_true, Bool.cond_false, gv_fM, gv_tM]
    repeat (first | refine go_run ?_ | (refine go_newP ?_; clear hw; intro p w hw) | (refine go_newWr ?_; clear hw; intro w hw) | (refine go_newS ?_; clear hw; intro s w hw))
    exact ⟨k + 1, ⟨rfl, trivial⟩, by repeat (first | exact agree_refl | (apply agree_upd rfl) | (apply agree_mix rfl) | (apply agree_sets rfl)), ⟨by omega, hw⟩, by omega⟩
  · repeat (first | refine go_run ?_ | (refine go_newP ?_; clear hw; intro p w hw) | (refine go_newW ?_; clear hw; intro w hw) | (refine go_newS ?_; clear hw; intro s w hw))
    exact res_one (v := .bool true) rfl rfl ⟨rfl, sat_none hw⟩
end Go.Proofs.YtemnlcnjpjdoaaaGreatDoor
