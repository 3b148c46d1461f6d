
/-
  The reference of layer 42: contracts of 'grown' and 'Systematic'.
-/
import Derived.Test.YtemnlcnjpjdoaaaGreatDoorWRef39c
import Derived.Test.YtemnlcnjpjdoaaaGreatDoorWSyst2
set_option linter.unusedSimpArgs false
set_option linter.unusedVariables false
namespace Go.Proofs.YtemnlcnjpjdoaaaGreatDoor
open Go.Sl Go
attribute [local irreducible] vc opsW opsD opV opW PureV ReadV Thn Blk
set_option maxRecDepth 8000 in
set_option maxHeartbeats 4000000 in
theorem grown_spec {w0 : World} {V M : Nat} (hV : V ≤ 12) (hM : M ≤ 3) :
    Calls Tryz.prog 40 #[.int .i64 V, .int .i64 M] w0 fun e w' => ∃ ov os, e = .returned ov ∧ Sat w0 w' [RowsAt tInt 3 os (grL V M), OS tVal 22 ov os] := by
  have hw := Sat.start w0
  refine calls_of_vc (args := [.int .i64 V, .int .i64 M]) mixed Tryz.func40 rfl (by kernel_rfl) (Nat.le_of_ble_eq_true rfl) ?_
  repeat (first | refine go_run ?_ | (refine go_newP ?_; clear hw; intro p w hw) | (refine go_newW ?_; clear hw; intro w hw) | (refine go_newS ?_; clear hw; intro s w hw))
  obtain ⟨o0, ho0⟩ : ∃ o0, o0 = s := ⟨s, rfl⟩
  subst ho0
  have hw1 : Sat w0 w [RowsAt tInt 3 [.slice none 0 0] (grL V 0), OS tVal 22 o0 [.slice none 0 0]] := by
    have h2 : Sat w0 w [RowsAt tInt 3 [] [], OS tVal 22 o0 ([] ++ [.slice none 0 0])] := hw.rows0
    have h3 := Sat.rowPush (h2.nil (T := tInt) (e := 3))
    exact h3
  clear hw
  refine vc_loop3 [5, 6, 8, 9, 10, 13, 14, 15, 16, 17, 18, 19, 20, 21, 22, 23, 24, 25, 26, 27, 28, 29, 30, 31, 32, 33, 34, 35, 36, 37, 38, 39, 40, 41, 42, 43, 44, 45, 46, 47, 48] (G := Nat) (H := Value) (I := List Value) (fun m ov _ => [(13, .int .i64 m), (5, ov)]) (fun m ov os w => m ≤ M ∧ Sat w0 w [RowsAt tInt 3 os (grL V m), OS tVal 22 ov os]) (fun m _ _ => M - m) 0 o0 _ (fun _ _ _ => rfl) ⟨rfl, rfl, trivial⟩ ⟨Nat.zero_le _, hw1⟩ ?_
  clear hw1
  rintro σ m ov os w ⟨hm, hw⟩
  have hgl := grL_bd (n := V) (m := m) hV (by omega)
  have hol := hw.rowsLen
  repeat (first | refine go_run ?_ | (refine go_newP ?_; clear hw; intro p w hw) | (refine go_newW ?_; clear hw; intro w hw) | (refine go_newS ?_; clear hw; intro s w hw))
  refine go_if (fun h1 => ?_) (fun h1 => ?_)
  · have hmM : m < M := by omega
    have hgl2 := grL_bd (n := V) (m := m + 1) hV (by omega)
    repeat (first | refine go_run ?_ | (refine go_newP ?_; clear hw; intro p w hw) | (refine go_newW ?_; clear hw; intro w hw) | (refine go_newS ?_; clear hw; intro s w hw))
    have hw1 : Sat w0 w [RowsAt tInt 3 [] (grK V m 0), OS tVal 22 (.slice none 0 0) [], RowsAt tInt 3 os (grL V m), OS tVal 22 ov os] := (hw.nil (T := tVal) (e := 22)).rows0
    clear hw
    refine vc_loop3 [6, 8, 9, 10, 17, 18, 19, 20, 21, 22, 23, 24, 25, 26, 27, 28, 29, 30, 31, 32, 33, 34, 35, 36, 37, 38, 39, 40, 41, 42, 43, 44, 45, 46] (G := Nat) (H := Value) (I := List Value) (fun k nv _ => [(17, .int .i64 k), (6, nv)]) (fun k nv ns w => k ≤ (grL V m).length ∧ Sat w0 w [RowsAt tInt 3 ns (grK V m k), OS tVal 22 nv ns, RowsAt tInt 3 os (grL V m), OS tVal 22 ov os]) (fun k _ _ => (grL V m).length - k) 0 (.slice none 0 0) [] (fun _ _ _ => rfl) ⟨rfl, rfl, trivial⟩ ⟨Nat.zero_le _, hw1⟩ ?_
    clear hw1
    rintro σ1 k nv ns w ⟨hk, hw⟩
    repeat (first | refine go_run ?_ | (refine go_newP ?_; clear hw; intro p w hw) | (refine go_newW ?_; clear hw; intro w hw) | (refine go_newS ?_; clear hw; intro s w hw))
    refine go_if (fun h2 => ?_) (fun h2 => ?_)
    · have hkl : k < (grL V m).length := by omega
      obtain ⟨row, hrow⟩ : ∃ row, row = (grL V m).getD k [] := ⟨_, rfl⟩
      have hmem : row ∈ grL V m := by rw [hrow]; exact mem_getD [] hkl
      obtain ⟨hrl, hrb⟩ := grL_mem hmem
      have hr := (hw.focus 2 rfl).row hkl
      rw [← hrow] at hr
      have hfV : firstV row ≤ V := by
        by_cases e : 0 < row.length
        · rw [firstV_at e]
          have := hrb _ (mem_getD tInt.dflt (show row.length - 1 < row.length by omega))
          omega
        · have : row = [] := List.eq_nil_of_length_eq_zero (by omega)
          subst this; exact Nat.zero_le _
      repeat (first | refine go_runC ?_ | (refine go_newP ?_; clear hw; intro p w hw) | (refine go_newW ?_; clear hw; intro w hw) | (refine go_newS ?_; clear hw; intro s w hw))
      refine vc_cut [24, 25, 26, 27, 28, 29, 30, 9] (G := Unit) (fun _ => [(9, .int .i64 (firstV row))]) (fun _ w => Sat w0 w [RowsAt tInt 3 ns (grK V m k), OS tVal 22 nv ns, RowsAt tInt 3 os (grL V m), OS tVal 22 ov os]) (fun _ => rfl) ?_ ?_
      · refine go_if (fun h3 => ?_) (fun h3 => ?_)
        · have hpos : 0 < row.length := by omega
          have hfe := firstV_at hpos
          have hlast := hrb _ (mem_getD tInt.dflt (show row.length - 1 < row.length by omega))
          have he1 : ((row.length : Int) - 1).toNat = row.length - 1 := by omega
          repeat (first | refine go_run ?_ | (refine go_newP ?_; clear hw; intro p w hw) | (refine go_newW ?_; clear hw; intro w hw) | (refine go_newS ?_; clear hw; intro s w hw))
          simp only [he1]
          repeat (first | refine go_run ?_ | (refine go_newP ?_; clear hw; intro p w hw) | (refine go_newW ?_; clear hw; intro w hw) | (refine go_newS ?_; clear hw; intro s w hw))
          refine ⟨(), ⟨?_, trivial⟩, by repeat (first | exact agree_refl | (apply agree_upd rfl) | (apply agree_mix rfl) | (apply agree_sets rfl)), hw⟩
          show Value.int .i64 (row.getD (row.length - 1) tInt.dflt + 1) = .int .i64 ((firstV row : Nat) : Int)
          congr 1
          omega
        · have hz : row = [] := List.eq_nil_of_length_eq_zero (by omega)
          repeat (first | refine go_run ?_ | (refine go_newP ?_; clear hw; intro p w hw) | (refine go_newW ?_; clear hw; intro w hw) | (refine go_newS ?_; clear hw; intro s w hw))
          refine ⟨(), ⟨?_, trivial⟩, by repeat (first | exact agree_refl | (apply agree_upd rfl) | (apply agree_mix rfl) | (apply agree_sets rfl)), hw⟩
          rw [hz]; rfl
      clear hw hr
      rintro σ2 _ w hw
      have hr := (hw.focus 2 rfl).row hkl
      rw [← hrow] at hr
      repeat (first | refine go_run ?_ | (refine go_newP ?_; clear hw; intro p w hw) | (refine go_newW ?_; clear hw; intro w hw) | (refine go_newS ?_; clear hw; intro s w hw))
      have hgr0 : grK V m k = grK V m k ++ grR V row (firstV row) := by rw [grR_nil (Nat.le_refl _), List.append_nil]
      rw [hgr0] at hw
      refine vc_loop3 [6, 10, 32, 33, 34, 35, 36, 37, 38, 39, 40, 41, 42, 43, 44, 45] (G := Nat) (H := Value) (I := List Value) (fun v nv _ => [(10, .int .i64 v), (6, nv)]) (fun v nv ns w => firstV row ≤ v ∧ v ≤ V ∧ Sat w0 w [RowsAt tInt 3 ns (grK V m k ++ grR V row v), OS tVal 22 nv ns, RowsAt tInt 3 os (grL V m), OS tVal 22 ov os]) (fun v _ _ => V - v) (firstV row) nv ns (fun _ _ _ => rfl) ⟨rfl, rfl, trivial⟩ ⟨Nat.le_refl _, hfV, hw⟩ ?_
      clear hw hr
      rintro σ3 v nv2 ns2 w ⟨hv1, hv2, hw⟩
      have hr := (hw.focus 2 rfl).row hkl
      rw [← hrow] at hr
      have hgp := gr_part (n := V) (m := m) (k := k) (j := v) hkl hv2
      rw [← hrow] at hgp
      have hnl := hw.rowsLen
      rw [List.length_append] at hnl
      repeat (first | refine go_run ?_ | (refine go_newP ?_; clear hw; intro p w hw) | (refine go_newW ?_; clear hw; intro w hw) | (refine go_newS ?_; clear hw; intro s w hw))
      refine go_if (fun h4 => ?_) (fun h4 => ?_)
      · have hvV : v < V := by omega
        repeat (first | refine go_run ?_ | (refine go_newP ?_; clear hw; intro p w hw) | (refine go_newW ?_; clear hw; intro w hw) | (refine go_newS ?_; clear hw; intro s w hw))
        refine st_buildSlice0 tInt hw ?_
        clear hw
        intro e0 w hw
        repeat (first | refine go_run ?_ | (refine go_newP ?_; clear hw; intro p w hw) | (refine go_newW ?_; clear hw; intro w hw) | (refine go_newS ?_; clear hw; intro s w hw))
        have hr2 := (hw.tail.focus 2 rfl).row hkl
        rw [← hrow] at hr2
        refine st_append (s := e0) (s2 := vget os k) inferInstance rfl rfl hr2 rfl rfl (fun x hx v hv => by rw [List.mem_singleton.1 hv]; rfl) (by simp only [List.length_nil]; omega) (by unfold big; simp only [List.length_nil]; omega) hw ?_
        clear hw hr hr2
        intro cv w hw
        rw [List.nil_append] at hw
        repeat (first | refine go_run ?_ | (refine go_newP ?_; clear hw; intro p w hw) | (refine go_newW ?_; clear hw; intro w hw) | (refine go_newS ?_; clear hw; intro s w hw))
        have hw2 := hw.tail.tail.rowPush
        rw [List.append_assoc, ← grR_succ hv1] at hw2
        exact ⟨v + 1, _, _, ⟨rfl, rfl, trivial⟩, by repeat (first | exact agree_refl | (apply agree_upd rfl) | (apply agree_mix rfl) | (apply agree_sets rfl)), ⟨by omega, by omega, hw2⟩, by omega⟩
      · have hve : v = V := by omega
        subst hve
        rw [hrow, ← grK_succ hkl] at hw
        repeat (first | refine go_run ?_ | (refine go_newP ?_; clear hw; intro p w hw) | (refine go_newW ?_; clear hw; intro w hw) | (refine go_newS ?_; clear hw; intro s w hw))
        exact ⟨k + 1, nv2, ns2, ⟨rfl, rfl, trivial⟩, by repeat (first | exact agree_refl | (apply agree_upd rfl) | (apply agree_mix rfl) | (apply agree_sets rfl)), ⟨by omega, hw⟩, by omega⟩
    · have hke : k = (grL V m).length := by omega
      subst hke
      rw [grK_end] at hw
      repeat (first | refine go_run ?_ | (refine go_newP ?_; clear hw; intro p w hw) | (refine go_newW ?_; clear hw; intro w hw) | (refine go_newS ?_; clear hw; intro s w hw))
      exact ⟨m + 1, nv, ns, ⟨rfl, rfl, trivial⟩, by repeat (first | exact agree_refl | (apply agree_upd rfl) | (apply agree_mix rfl) | (apply agree_sets rfl)), ⟨by omega, hw.sel⟩, by omega⟩
  · have hme : m = M := by omega
    subst hme
    repeat (first | refine go_run ?_ | (refine go_newP ?_; clear hw; intro p w hw) | (refine go_newW ?_; clear hw; intro w hw) | (refine go_newS ?_; clear hw; intro s w hw))
    exact res_one (v := ov) rfl rfl ⟨ov, os, rfl, hw⟩
theorem goal_ex {t : TTask} {p : List Int} : goalP t p ↔ ∃ i, i < t.goal.length ∧ (t.goal.getD i tFact.dflt).var ∈ p := by
  constructor
  · rintro ⟨v, hv, f, hf, rfl⟩
    obtain ⟨i, hi, rfl⟩ := List.getElem_of_mem hf
    exact ⟨i, hi, by rw [getD_at hi]; exact hv⟩
  · rintro ⟨i, hi, h⟩
    exact ⟨_, h, _, mem_getD tFact.dflt hi, rfl⟩
theorem mem_ex {p : List Int} {x : Int} : x ∈ p ↔ ∃ i, i < p.length ∧ x = p.getD i tInt.dflt := by
  constructor
  · intro h
    obtain ⟨i, hi, rfl⟩ := List.getElem_of_mem h
    exact ⟨i, hi, by rw [getD_at hi]⟩
  · rintro ⟨i, hi, rfl⟩
    exact mem_getD _ hi
theorem sat_rowHead {w w0 : World} {Γ : List HP} {α : Type} {T : Ty α} {e : TypeId} {s : Value} {x : List α} {ss : List Value} {xss : List (List α)} (h : Sat w0 w (RowsAt T e (s :: ss) (x :: xss) :: Γ)) : Sat w0 w (OS T e s x :: RowsAt T e ss xss :: Γ) := by
  obtain ⟨hl, h⟩ := Sat.flat h
  exact Sat.tailMono (fun g hg => by
    obtain ⟨h1, h2, d, s1, s2, ha, hg⟩ := SatL.split _ hg
    exact ⟨h1, h2, d, s1, s2, ⟨by simpa using hl, ha⟩, hg⟩) (show Sat w0 w (OS T e s x :: (List.zipWith (OS T e) ss xss ++ Γ)) from h)
theorem drop_val {ss : List Value} {k : Nat} (h : k < ss.length) : ss.drop k = vget ss k :: ss.drop (k + 1) := by
  rw [List.drop_eq_getElem_cons h, vget_eq, getD_at h]
theorem drop_row {α : Type} {L : List (List α)} {k : Nat} (h : k < L.length) : L.drop k = L.getD k [] :: L.drop (k + 1) := by
  rw [List.drop_eq_getElem_cons h, getD_at h]
set_option maxRecDepth 8000 in
set_option maxHeartbeats 4000000 in
theorem rSystematic_spec {w0 : World} {a b c d : Value} {vs : List OpV} {t : TTask} {size : Int} (ht : RTask w0 a b c d vs t) (hV : t.vars.length ≤ 12) :
    Calls Tryz.prog 13 #[.agg #[a, b, c, d], .int .i64 size] w0 fun e w' => ∃ ov os, e = .returned ov ∧ Sat w0 w' [RowsAt tInt 3 os (sysL t (clip3 size)), OS tVal 22 ov os] := by
  have ht' := ht
  obtain ⟨ha, hb, hc, hd⟩ := ht
  have hla := ha.big
  have hlc := hc.big
  have hcl := clip3_rng size
  have hce : max 1 (min size 3) = (clip3 size : Int) := by unfold clip3; omega
  have hw := Sat.start w0
  refine calls_of_vc (args := [.agg #[a, b, c, d], .int .i64 size]) mixed Tryz.func13 rfl (by kernel_rfl) (Nat.le_of_ble_eq_true rfl) ?_
  repeat (first | refine go_run ?_ | (refine go_newP ?_; clear hw; intro p w hw) | (refine go_newW ?_; clear hw; intro w hw) | (refine go_newS ?_; clear hw; intro s w hw))
  obtain ⟨pt, hpt⟩ : ∃ pt, pt = p := ⟨p, rfl⟩
  subst hpt
  have hw1 : Sat w0 w [RowsAt tInt 3 [] (sysL t 0), OS tVal 22 (.slice none 0 0) [], Box pt 26 [a, b, c, d]] := by rw [sysL_zero]; exact (hw.nil (T := tVal) (e := 22)).rows0
  clear hw
  refine vc_loop3 [5, 6, 8, 9, 11, 13, 14, 15, 16, 17, 18, 19, 20, 21, 22, 23, 24, 25, 26, 27, 28, 29, 30, 31, 32, 33, 34, 35, 36, 37, 38, 39, 40, 41, 42, 43, 44, 45, 46, 47, 48, 49, 50, 51, 52, 53, 54, 55, 56, 57, 58, 59, 60, 61, 62] (G := Nat) (H := Value) (I := List Value) (fun m ov _ => [(6, .int .i64 ((m + 1 : Nat) : Int)), (5, ov)]) (fun m ov os w => m ≤ clip3 size ∧ Sat w0 w [RowsAt tInt 3 os (sysL t m), OS tVal 22 ov os, Box pt 26 [a, b, c, d]]) (fun m _ _ => clip3 size - m) 0 (.slice none 0 0) [] (fun _ _ _ => rfl) ⟨rfl, rfl, trivial⟩ ⟨Nat.zero_le _, hw1⟩ ?_
  clear hw1
  rintro σ m ov os w ⟨hm, hw⟩
  have hsl := sysL_len hV (m := m) (by omega)
  have hol := hw.rowsLen
  repeat (first | refine go_run ?_ | (refine go_newP ?_; clear hw; intro p w hw) | (refine go_newW ?_; clear hw; intro w hw) | (refine go_newS ?_; clear hw; intro s w hw))
  refine st_call rfl (Clip_spec size 1 3) ?_
  rintro _ w' ⟨rfl, hk'⟩
  replace hw := hw.call0 hk'
  clear hk'
  refine ⟨_, rfl, ?_⟩
  rw [hce]
  repeat (first | refine go_run ?_ | (refine go_newP ?_; clear hw; intro p w hw) | (refine go_newW ?_; clear hw; intro w hw) | (refine go_newS ?_; clear hw; intro s w hw))
  refine go_if (fun h1 => ?_) (fun h1 => ?_)
  · have hmc : m < clip3 size := by omega
    repeat (first | refine go_run ?_ | (refine go_newP ?_; clear hw; intro p w hw) | (refine go_newW ?_; clear hw; intro w hw) | (refine go_newS ?_; clear hw; intro s w hw))
    refine st_call rfl (grown_spec (V := t.vars.length) (M := m + 1) hV (by omega)) ?_
    rintro _ w' ⟨gv, gs, rfl, hk'⟩
    replace hw := hw.call2 hk'
    clear hk'
    refine ⟨_, rfl, ?_⟩
    have hgsl := hw.rowsLen
    have hgl2 := grL_bd (n := t.vars.length) (m := m + 1) hV (by omega)
    repeat (first | refine go_run ?_ | (refine go_newP ?_; clear hw; intro p w hw) | (refine go_newW ?_; clear hw; intro w hw) | (refine go_newS ?_; clear hw; intro s w hw))
    have hw1 : Sat w0 w' [RowsAt tInt 3 os (sysL t m ++ sysF t (m + 1) 0), OS tVal 22 ov os, RowsAt tInt 3 (gs.drop 0) ((grL t.vars.length (m + 1)).drop 0), OS tVal 22 gv gs, Box pt 26 [a, b, c, d]] := by rw [sysF_zero, List.append_nil, List.drop_zero, List.drop_zero]; exact hw.sel
    clear hw hol
    refine vc_loop3 [5, 8, 9, 11, 13, 26, 27, 28, 29, 30, 31, 32, 33, 34, 35, 36, 37, 38, 39, 40, 41, 42, 43, 44, 45, 46, 47, 48, 49, 50, 51, 52, 53, 54, 55, 56, 57, 58, 59, 60, 61, 62] (G := Nat) (H := Value) (I := List Value) (fun k ov _ => [(26, .int .i64 k), (5, ov)]) (fun k ov os w => k ≤ (grL t.vars.length (m + 1)).length ∧ Sat w0 w [RowsAt tInt 3 os (sysL t m ++ sysF t (m + 1) k), OS tVal 22 ov os, RowsAt tInt 3 (gs.drop k) ((grL t.vars.length (m + 1)).drop k), OS tVal 22 gv gs, Box pt 26 [a, b, c, d]]) (fun k _ _ => (grL t.vars.length (m + 1)).length - k) 0 ov os (fun _ _ _ => rfl) ⟨rfl, rfl, trivial⟩ ⟨Nat.zero_le _, hw1⟩ ?_
    clear hw1
    rintro σ1 k ov os w ⟨hk, hw⟩
    have hfl := sysF_len hV (t := t) (m := m + 1) (k := k) (by omega)
    have hol := hw.rowsLen
    rw [List.length_append] at hol
    repeat (first | refine go_run ?_ | (refine go_newP ?_; clear hw; intro p w hw) | (refine go_newW ?_; clear hw; intro w hw) | (refine go_newS ?_; clear hw; intro s w hw))
    refine go_if (fun h2 => ?_) (fun h2 => ?_)
    · have hkl : k < (grL t.vars.length (m + 1)).length := by omega
      have hw1 : Sat w0 w [RowsAt tInt 3 (gs.drop k) ((grL t.vars.length (m + 1)).drop k), RowsAt tInt 3 os (sysL t m ++ sysF t (m + 1) k), OS tVal 22 ov os, OS tVal 22 gv gs, Box pt 26 [a, b, c, d]] := hw.sel
      clear hw
      rw [drop_val (show k < gs.length by omega), drop_row hkl] at hw1
      have hw := sat_rowHead hw1
      clear hw1
      obtain ⟨row, hrow⟩ : ∃ row, row = (grL t.vars.length (m + 1)).getD k [] := ⟨_, rfl⟩
      have hmem : row ∈ grL t.vars.length (m + 1) := by rw [hrow]; exact mem_getD [] hkl
      obtain ⟨hrl, hrb⟩ := grL_mem hmem
      rw [← hrow] at hw
      obtain ⟨rv, hrv⟩ : ∃ rv, rv = vget gs k := ⟨_, rfl⟩
      repeat (first | refine go_run ?_ | (refine go_newP ?_; clear hw; intro p w hw) | (refine go_newW ?_; clear hw; intro w hw) | (refine go_newS ?_; clear hw; intro s w hw))
      rw [← hrv] at hw ⊢
      repeat (first | refine go_run ?_ | (refine go_newP ?_; clear hw; intro p w hw) | (refine go_newW ?_; clear hw; intro w hw) | (refine go_newS ?_; clear hw; intro s w hw))
      refine vc_loop2 [9, 11, 13, 33, 34, 35, 36, 37, 38, 39, 40, 41, 42, 43, 44, 45, 46, 47, 48, 49, 50, 51] (G := Nat) (H := Bool) (fun i r => [(33, .int .i64 i), (9, .bool r)]) (fun i r w => i ≤ t.goal.length ∧ (r = true ↔ ∃ x, x < i ∧ (t.goal.getD x tFact.dflt).var ∈ row) ∧ Sat w0 w [OS tInt 3 rv row, RowsAt tInt 3 (gs.drop (k + 1)) ((grL t.vars.length (m + 1)).drop (k + 1)), RowsAt tInt 3 os (sysL t m ++ sysF t (m + 1) k), OS tVal 22 ov os, OS tVal 22 gv gs, Box pt 26 [a, b, c, d]]) (fun i _ => t.goal.length - i) 0 false (fun _ _ => rfl) ⟨rfl, rfl, trivial⟩ ⟨Nat.zero_le _, iffF fun ⟨x, hx, _⟩ => absurd hx (Nat.not_lt_zero _), hw⟩ ?_
      clear hw
      rintro σ2 i r w ⟨hi, hR, hw⟩
      repeat (first | refine go_run ?_ | (refine go_newP ?_; clear hw; intro p w hw) | (refine go_newW ?_; clear hw; intro w hw) | (refine go_newS ?_; clear hw; intro s w hw))
      refine go_if (fun h3 => ?_) (fun h3 => ?_)
      · have hil : i < t.goal.length := by omega
        repeat (first | refine go_run ?_ | (refine go_newP ?_; clear hw; intro p w hw) | (refine go_newW ?_; clear hw; intro w hw) | (refine go_newS ?_; clear hw; intro s w hw))
        obtain ⟨pf, hpf⟩ : ∃ pf, pf = p := ⟨p, rfl⟩
        subst hpf
        refine vc_loop2 [9, 13, 39, 40, 41, 42, 43, 44, 45, 46, 47, 48, 49, 50] (G := Nat) (H := Bool) (fun j r => [(39, .int .i64 j), (9, .bool r)]) (fun j r w => j ≤ row.length ∧ (r = true ↔ (∃ x, x < i ∧ (t.goal.getD x tFact.dflt).var ∈ row) ∨ ∃ y, y < j ∧ (t.goal.getD i tFact.dflt).var = row.getD y tInt.dflt) ∧ Sat w0 w [Box pf 84 (tFact.enc (t.goal.getD i tFact.dflt)), OS tInt 3 rv row, RowsAt tInt 3 (gs.drop (k + 1)) ((grL t.vars.length (m + 1)).drop (k + 1)), RowsAt tInt 3 os (sysL t m ++ sysF t (m + 1) k), OS tVal 22 ov os, OS tVal 22 gv gs, Box pt 26 [a, b, c, d]]) (fun j _ => row.length - j) 0 r (fun _ _ => rfl) ⟨rfl, rfl, trivial⟩ ⟨Nat.zero_le _, hR.trans ⟨.inl, fun h => h.elim id fun ⟨y, hy, _⟩ => absurd hy (Nat.not_lt_zero _)⟩, hw⟩ ?_
        clear hw hR
        rintro σ3 j r w ⟨hj, hR, hw⟩
        repeat (first | refine go_run ?_ | (refine go_newP ?_; clear hw; intro p w hw) | (refine go_newW ?_; clear hw; intro w hw) | (refine go_newS ?_; clear hw; intro s w hw))
        refine go_if (fun h4 => ?_) (fun h4 => ?_)
        · have hjl : j < row.length := by omega
          repeat (first | refine go_run ?_ | (refine go_newP ?_; clear hw; intro p w hw) | (refine go_newW ?_; clear hw; intro w hw) | (refine go_newS ?_; clear hw; intro s w hw))
          exact ⟨j + 1, _, ⟨rfl, rfl, trivial⟩, by repeat (first | exact agree_refl | (apply agree_upd rfl) | (apply agree_mix rfl) | (apply agree_sets rfl)), ⟨by omega, (orP hR).trans (by rw [or_assoc, ← ex_succ (p := fun y => (t.goal.getD i tFact.dflt).var = row.getD y tInt.dflt)]), hw⟩, by omega⟩
        · have hje : j = row.length := by omega
          subst hje
          rw [← mem_ex, ← ex_succ (p := fun x => (t.goal.getD x tFact.dflt).var ∈ row)] at hR
          repeat (first | refine go_run ?_ | (refine go_newP ?_; clear hw; intro p w hw) | (refine go_newW ?_; clear hw; intro w hw) | (refine go_newS ?_; clear hw; intro s w hw))
          exact ⟨i + 1, r, ⟨rfl, rfl, trivial⟩, by repeat (first | exact agree_refl | (apply agree_upd rfl) | (apply agree_mix rfl) | (apply agree_sets rfl)), ⟨by omega, hR, hw.tail⟩, by omega⟩
      have hie : i = t.goal.length := by omega
      subst hie
      rw [← goal_ex] at hR
      cases r
      · have hno : ¬ sysP t ((grL t.vars.length (m + 1)).getD k []) := fun h => by
          have := hR.2 (by rw [hrow]; exact h.1)
          cases this
        rw [← sysF_out hkl hno] at hw
        repeat (first | refine go_run ?_ | (refine go_newP ?_; clear hw; intro p w hw) | (refine go_newW ?_; clear hw; intro w hw) | (refine go_newS ?_; clear hw; intro s w hw))
        exact ⟨k + 1, ov, os, ⟨rfl, rfl, trivial⟩, by repeat (first | exact agree_refl | (apply agree_upd rfl) | (apply agree_mix rfl) | (apply agree_sets rfl)), ⟨by omega, hw.sel⟩, by omega⟩
      repeat (first | refine go_run ?_ | (refine go_newP ?_; clear hw; intro p w hw) | (refine go_newW ?_; clear hw; intro w hw) | (refine go_newS ?_; clear hw; intro s w hw))
      refine st_call rfl (rConnected_spec (pv := rv) (p := row) (ht'.at hw) (rsO hw) (by omega)) ?_
      rintro _ w' ⟨⟨r2, rfl, hr2⟩, hk'⟩
      replace hw := hw.call0 hk'
      clear hk'
      refine ⟨_, rfl, ?_⟩
      cases r2
      · have hno : ¬ sysP t ((grL t.vars.length (m + 1)).getD k []) := fun h => by
          have := hr2.2 (by rw [hrow]; exact h.2)
          cases this
        rw [← sysF_out hkl hno] at hw
        repeat (first | refine go_run ?_ | (refine go_newP ?_; clear hw; intro p w hw) | (refine go_newW ?_; clear hw; intro w hw) | (refine go_newS ?_; clear hw; intro s w hw))
        exact ⟨k + 1, ov, os, ⟨rfl, rfl, trivial⟩, by repeat (first | exact agree_refl | (apply agree_upd rfl) | (apply agree_mix rfl) | (apply agree_sets rfl)), ⟨by omega, hw.sel⟩, by omega⟩
      have hyes : sysP t ((grL t.vars.length (m + 1)).getD k []) := by rw [← hrow]; exact ⟨hR.1 rfl, hr2.1 rfl⟩
      repeat (first | refine go_run ?_ | (refine go_newP ?_; clear hw; intro p w hw) | (refine go_newW ?_; clear hw; intro w hw) | (refine go_newS ?_; clear hw; intro s w hw))
      have hw2 : Sat w0 w [OS tInt 3 rv row, RowsAt tInt 3 os (sysL t m ++ sysF t (m + 1) k), OS tVal 22 s (os ++ [rv]), RowsAt tInt 3 (gs.drop (k + 1)) ((grL t.vars.length (m + 1)).drop (k + 1)), OS tVal 22 gv gs, Box pt 26 [a, b, c, d]] := hw.sel
      have hw3 := hw2.rowPush
      rw [List.append_assoc, hrow, ← sysF_in hkl hyes] at hw3
      exact ⟨k + 1, s, _, ⟨rfl, rfl, trivial⟩, by repeat (first | exact agree_refl | (apply agree_upd rfl) | (apply agree_mix rfl) | (apply agree_sets rfl)), ⟨by omega, hw3⟩, by omega⟩
    · have hke : k = (grL t.vars.length (m + 1)).length := by omega
      subst hke
      rw [sysF_end, ← sysL_succ] at hw
      repeat (first | refine go_run ?_ | (refine go_newP ?_; clear hw; intro p w hw) | (refine go_newW ?_; clear hw; intro w hw) | (refine go_newS ?_; clear hw; intro s w hw))
      exact ⟨m + 1, ov, os, ⟨rfl, rfl, trivial⟩, by repeat (first | exact agree_refl | (apply agree_upd rfl) | (apply agree_mix rfl) | (apply agree_sets rfl)), ⟨by omega, hw.sel⟩, by omega⟩
  · have hme : m = clip3 size := by omega
    subst hme
    repeat (first | refine go_run ?_ | (refine go_newP ?_; clear hw; intro p w hw) | (refine go_newW ?_; clear hw; intro w hw) | (refine go_newS ?_; clear hw; intro s w hw))
    exact res_one (v := ov) rfl rfl ⟨ov, os, rfl, hw.sel⟩
end Go.Proofs.YtemnlcnjpjdoaaaGreatDoor
