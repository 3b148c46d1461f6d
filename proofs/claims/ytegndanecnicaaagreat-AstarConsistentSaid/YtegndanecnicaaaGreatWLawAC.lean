
/-
  The statement 'AstarConsistent' returns true.
-/
import Derived.Test.YtegndanecnicaaaGreatWA49Aw
import Derived.Test.YtegndanecnicaaaGreatTLeast
import Derived.Test.YtegndanecnicaaaGreatTAstN
import Derived.Test.YtegndanecnicaaaGreatWCost48
set_option linter.unusedSimpArgs false
set_option linter.unusedVariables false
namespace Go.Proofs.YtegndanecnicaaaGreat
open Go.Sl Go
attribute [local irreducible] vc opsW opsD opV opW PureV ReadV Thn Blk
theorem zero_tab {t : TTask} (hg : GoodT t) {n : Nat} (hn : n = (statesL t.vars).length) : ∀ y, tabH t (List.replicate n 0) y = 0 := fun y => by
  by_cases h : StateOk t.vars y
  · have hr := statesL_of hg.pos h
    rw [tabH_ok h, getD_at (by rw [List.length_replicate]; omega)]
    simp
  · exact tabH_no h
/-- An estimate that is consistent, and small where it is finite. -/
structure ConsH (t : TTask) (H : List Int → Int) : Prop where
  ok : HOk t H
  c : Cons t H
  a : ∀ y q d, Pln t y q d → H y < inf ∧ H y ≤ d
  m : ∀ y, H y < inf → H y ≤ 4294967296
theorem consH_hmax {t : TTask} (hg : GoodT t) : ConsH t (hmaxH t) := by
  refine ⟨hmax_ok hg, hmax_consA hg, fun y q d hq => ⟨?_, hmax_adm hg hq⟩, hmax_small hg⟩
  induction hq with
  | goal hh => rw [hmax_goal hg hh]; decide
  | @step s op p c ho ha _ ih =>
    by_cases hs : StateOk t.vars s
    · have h1 := hmax_cons hg hs ho ha
      have h2 := hmax_small hg _ ih
      have h3 := opC_rng hg ho
      have e : inf = 1125899906842624 := rfl
      omega
    · rw [hmax_no hs]; decide
theorem consH_zero {t : TTask} (hg : GoodT t) {n : Nat} (hn : n = (statesL t.vars).length) : ConsH t (tabH t (List.replicate n 0)) := by
  have hz := zero_tab hg hn
  refine ⟨⟨hg, fun y => by rw [hz y]; exact Int.le_refl _, fun y => by rw [hz y]; decide⟩, fun s op _ ho _ => ?_, fun y q d hq => ?_, fun y _ => by rw [hz y]; decide⟩
  · rw [hz, hz]; have := opC_rng hg ho; omega
  · rw [hz]; exact ⟨by decide, hq.nn hg⟩
set_option maxRecDepth 8000 in
set_option maxHeartbeats 8000000 in
theorem AstarConsistent_walk {w0 : World} {a b c d : Value} {vs : List OpV} {t : TTask} {bl : Bool} (ht : RTask w0 a b c d vs t) :
    Calls Tryz.prog 5 #[.agg #[a, b, c, d], .bool bl] w0 fun e w' => e = .returned (.bool true) ∧ Sat w0 w' [] := by
  have hw := Sat.start w0
  refine calls_of_vc (args := [.agg #[a, b, c, d], .bool bl]) mixed Tryz.func5 rfl (by kernel_rfl) (Nat.le_of_ble_eq_true rfl) ?_
  repeat (first | refine go_run ?_ | (refine go_newP ?_; clear hw; intro p w hw) | (refine go_newWr ?_; clear hw; intro w hw) | (refine go_newS ?_; clear hw; intro s w hw))
  obtain ⟨pt, hpt⟩ : ∃ pt, pt = p := ⟨p, rfl⟩
  subst hpt
  refine st_call rfl (Small_spec (ht.at hw)) ?_
  rintro _ w' ⟨⟨r, rfl, hr⟩, hk'⟩
  replace hw := hw.call0 hk'
  clear hk'
  refine ⟨_, rfl, ?_⟩
  cases r
  · repeat (first | refine go_run ?_ | (refine go_newP ?_; clear hw; intro p w hw) | (refine go_newWr ?_; clear hw; intro w hw) | (refine go_newS ?_; clear hw; intro s w hw))
    refine st_call rfl aawake_spec ?_
    rintro _ w' ⟨rfl, hk'⟩
    replace hw := hw.call0 hk'
    clear hk'
    refine ⟨_, rfl, ?_⟩
    repeat (first | refine go_run ?_ | (refine go_newP ?_; clear hw; intro p w hw) | (refine go_newWr ?_; clear hw; intro w hw) | (refine go_newS ?_; clear hw; intro s w hw))
    exact res_one (v := .bool true) rfl rfl ⟨rfl, sat_none hw⟩
  have hs := hr.1 rfl
  have hg := hs.good
  have hB := hs.many
  have hsl : (statesL t.vars).length = (prodL t.vars).toNat := statesL_len hg.pos
  have hpp := prodL_pos hg.pos
  repeat (first | refine go_run ?_ | (refine go_newP ?_; clear hw; intro p w hw) | (refine go_newWr ?_; clear hw; intro w hw) | (refine go_newS ?_; clear hw; intro s w hw))
  refine st_call rfl aawake_spec ?_
  rintro _ w' ⟨rfl, hk'⟩
  replace hw := hw.call0 hk'
  clear hk'
  refine ⟨_, rfl, ?_⟩
  replace hw : Sat w0 w' [Box pt 26 [a, b, c, d]] := hw
  repeat (first | refine go_run ?_ | (refine go_newP ?_; clear hw; intro p w hw) | (refine go_newWr ?_; clear hw; intro w hw) | (refine go_newS ?_; clear hw; intro s w hw))
  refine st_call rfl (HMax_spec (ht.at hw) hg) ?_
  rintro _ w' ⟨ph, rfl, hk'⟩
  replace hw : Sat w0 w' [RdH fun w => REst w ph t (hmaxH t), Box pt 26 [a, b, c, d]] := hw.call1 hk'
  clear hk'
  refine ⟨_, rfl, ?_⟩
  obtain ⟨n, hn⟩ : ∃ n : Nat, n = (statesL t.vars).length := ⟨_, rfl⟩
  have hmany : manyL t.vars 512 = (n : Int) := by rw [manyL, if_pos hB]; omega
  repeat (first | refine go_run ?_ | (refine go_newP ?_; clear hw; intro p w hw) | (refine go_newWr ?_; clear hw; intro w hw) | (refine go_newS ?_; clear hw; intro s w hw))
  refine vc_cut [29, 30, 31, 32, 33, 34, 35, 36, 37, 5, 6] (G := Addr) (fun pe => [(5, .pointer (some pe)), (6, .nilIface)]) (fun pe w => ∃ H, ConsH t H ∧ Sat w0 w [RdH fun w => REst w pe t H, Box pt 26 [a, b, c, d]]) (fun _ => rfl) ?_ ?_
  · cases bl
    · repeat (first | refine go_run ?_ | (refine go_newP ?_; clear hw; intro p w hw) | (refine go_newWr ?_; clear hw; intro w hw) | (refine go_newS ?_; clear hw; intro s w hw))
      exact ⟨ph, ⟨rfl, rfl, trivial⟩, by repeat (first | exact agree_refl | (apply agree_upd rfl) | (apply agree_mix rfl) | (apply agree_sets rfl)), _, consH_hmax hg, hw⟩
    · repeat (first | refine go_run ?_ | (refine go_newP ?_; clear hw; intro p w hw) | (refine go_newWr ?_; clear hw; intro w hw) | (refine go_newS ?_; clear hw; intro s w hw))
      refine vc_plan [.op 0, .op 1, .op 2, .op 3, .chk 0, .op 4, .chk 0, .op 5, .op 6, .op 7, .op 8, .op 9, .op 10] hw (by kernel_rfl) ?_; clear hw; intro w hw
      repeat (first | refine go_run ?_ | (refine go_newP ?_; clear hw; intro p w hw) | (refine go_newWr ?_; clear hw; intro w hw) | (refine go_newS ?_; clear hw; intro s w hw))
      refine st_call rfl (Many_spec (ht.vars.at hw) hg.pos (by decide) (by decide)) ?_
      rintro _ w' ⟨rfl, hk'⟩
      replace hw := hw.call0 hk'
      clear hk'
      refine ⟨_, rfl, ?_⟩
      rw [hmany]
      repeat (first | refine go_run ?_ | (refine go_newP ?_; clear hw; intro p w hw) | (refine go_newWr ?_; clear hw; intro w hw) | (refine go_newS ?_; clear hw; intro s w hw))
      obtain ⟨sv, hsv⟩ : ∃ sv, sv = s := ⟨s, rfl⟩
      subst hsv
      rw [Int.toNat_natCast] at hw
      have einf : inf = 1125899906842624 := rfl
      have hz0 : ∀ x ∈ List.replicate n (0 : Int), 0 ≤ x ∧ x ≤ inf := fun x hx => by rw [List.eq_of_mem_replicate hx]; decide
      have hzl : (List.replicate n (0 : Int)).length = n := List.length_replicate
      have htT : tErr t (List.replicate n (0 : Int)) = 0 := by
        unfold tErr
        rw [if_neg (by rw [hzl]; omega), if_neg (fun ⟨x, hx, h⟩ => by have := hz0 x hx; omega)]
      refine st_call rfl (eTable_spec (ht.at hw) hg (rsO (s := sv) hw) (by omega)) ?_
      rintro _ w' (⟨h1, _⟩ | ⟨_, pe, rfl, hk'⟩)
      · exact absurd htT h1
      replace hw := hw.call1 hk'
      clear hk'
      refine ⟨_, rfl, ?_⟩
      repeat (first | refine go_run ?_ | (refine go_newP ?_; clear hw; intro p w hw) | (refine go_newWr ?_; clear hw; intro w hw) | (refine go_newS ?_; clear hw; intro s w hw))
      exact ⟨pe, ⟨rfl, rfl, trivial⟩, by repeat (first | exact agree_refl | (apply agree_upd rfl) | (apply agree_mix rfl) | (apply agree_sets rfl)), _, consH_zero hg hn, hw.sel⟩
  clear hw
  rintro σ0 pe w ⟨H, hCH, hw⟩
  have hH := hCH.ok
  repeat (first | refine go_run ?_ | (refine go_newP ?_; clear hw; intro p w hw) | (refine go_newWr ?_; clear hw; intro w hw) | (refine go_newS ?_; clear hw; intro s w hw))
  refine st_call rfl (aSearch_spec (ev := .pointer (some pe)) (L := 100000) (lim := 100000) (ht.at hw) hH (.inr ⟨pe, rfl, hw.rdE 0 rfl⟩) rfl (by decide) (.inl hB)) ?_
  rintro _ w' ⟨pv, pl, rfl, hP, hk'⟩
  replace hw := hw.call1 hk'
  clear hk'
  refine ⟨_, rfl, ?_⟩
  have opv := (rsO (s := pv) hw).one
  have hBst := fun m (hm : Least t t.init m) => srch_best (A := ⟨t, H, none⟩) hH hCH.a hm hP
  have hAll := fun m (hm : Least t t.init m) => srch_all (A := ⟨t, H, none⟩) (lim := 100000) (M := 4294967296) hH hCH.c hCH.a rfl hCH.m (by decide) (by show (statesL t.vars).length < 100000; omega) hm
  generalize srchA ⟨t, H, none⟩ 100000 = R at hP hBst hAll ⊢
  repeat (first | refine go_run ?_ | (refine go_newP ?_; clear hw; intro p w hw) | (refine go_newS ?_; clear hw; intro s w hw))
  obtain ⟨p7, hp7⟩ : ∃ p7, p7 = p := ⟨p, rfl⟩
  subst hp7
  refine st_boxAgg (n := 4) (p := p7) (vs := [.int .i64 (vdA R.1), pv, .int .i64 (coL t pl), .int .i64 R.2.ex.length]) rfl rfl hw inferInstance rfl rfl (by simp only [List.all_cons, List.all_nil, opv]; rfl) ?_
  clear hw
  intro w hw
  repeat (first | refine go_run ?_ | (refine go_newP ?_; clear hw; intro p w hw) | (refine go_newWr ?_; clear hw; intro w hw) | (refine go_newS ?_; clear hw; intro s w hw))
  refine st_call rfl (Best_spec (ht.at hw) hg hB) ?_
  rintro _ w' ⟨m, rfl, hm, hk'⟩
  replace hw := hw.call0 hk'
  clear hk'
  refine ⟨_, rfl, ?_⟩
  obtain ⟨hpl, hxl, hcase⟩ := hBst m hm
  obtain ⟨hnu, S, hSx, hSn, hEx⟩ := hAll m hm
  have hpl1 : pl.length ≤ (statesL t.vars).length := hpl
  have hpl2 : pl.length ≤ 1048576 := by omega
  have hSn1 : S.ex.length ≤ (statesL t.vars).length := hSn
  have hres : (inf ≤ m ∧ vdA R.1 = 2 ∧ pl = [] ∧ coL t pl = 0) ∨ (m < inf ∧ vdA R.1 = 1 ∧ Pln t t.init pl m ∧ coL t pl = m) := by
    rcases hcase with ⟨i, r1, r2, r3, r4, _⟩ | ⟨r1, r2, r3⟩ | ⟨r1, _, _⟩
    · exact .inr ⟨r4, by rw [r1]; rfl, r2, r3⟩
    · refine .inl ⟨?_, by rw [r1]; rfl, r2, by rw [r2]; rfl⟩
      rcases r3 with r3 | ⟨bd, h1, _⟩
      · omega
      · cases h1
    · exact absurd r1 hnu
  clear hcase hBst hAll hnu
  repeat (first | refine go_run ?_ | (refine go_newP ?_; clear hw; intro p w hw) | (refine go_newWr ?_; clear hw; intro w hw) | (refine go_newS ?_; clear hw; intro s w hw))
  refine st_call rfl (Result_spec (pv := pv) (p := pl) (vd := vdA R.1) (co := coL t pl) (ex := R.2.ex.length) (best := m) (ht.at hw) hg (rsO (s := pv) hw) hpl2 hres) ?_
  rintro _ w' ⟨rfl, hk'⟩
  replace hw := hw.call0 hk'
  clear hk'
  refine ⟨_, rfl, ?_⟩
  repeat (first | refine go_run ?_ | (refine go_newP ?_; clear hw; intro p w hw) | (refine go_newWr ?_; clear hw; intro w hw) | (refine go_newS ?_; clear hw; intro s w hw))
  refine st_call rfl (States_spec (ht.at hw).vars hg.pos hg.vars (by omega)) ?_
  rintro _ w' ⟨av, ss, rfl, hk'⟩
  replace hw := hw.call2 hk'
  clear hk'
  have hss := hw.rowsLen
  refine ⟨_, rfl, ?_⟩
  repeat (first | refine go_run ?_ | (refine go_newP ?_; clear hw; intro p w hw) | (refine go_newWr ?_; clear hw; intro w hw) | (refine go_newS ?_; clear hw; intro s w hw))
  refine st_call rfl (costs48_spec (ht.at hw) hg hB) ?_
  rintro _ w' ⟨dv, D, rfl, hD, hk'⟩
  replace hw := hw.call1 hk'
  clear hk'
  refine ⟨_, rfl, ?_⟩
  have hDl := hD.len
  have hlo := lo_le hg hD hEx
  have hup := up_ge (M := 4294967296) (by decide) hg hD hEx hm.le hCH.m (by have e : inf = 1125899906842624 := rfl; omega) (by have := hm.le; omega)
  rw [hSx] at hlo hup
  have hcl := cntP_le (loB t H D m)
  have hcu := cntP_le (upB t H D m)
  repeat (first | refine go_run ?_ | (refine go_newP ?_; clear hw; intro p w hw) | (refine go_newWr ?_; clear hw; intro w hw) | (refine go_newS ?_; clear hw; intro s w hw))
  refine vc_loop [9, 10, 12, 13, 14, 63, 64, 65, 66, 67, 68, 69, 70, 71, 72, 73, 74, 75, 76, 77, 78, 79, 80, 81, 82, 83, 84, 85, 86, 87, 88, 89, 90, 91, 92, 93, 94] (G := Nat) (fun k => [(63, .int .i64 k), (9, .int .i64 (cntP (loB t H D m) k)), (10, .int .i64 (cntP (upB t H D m) k))]) (fun k w => k ≤ D.length ∧ Sat w0 w [OS tInt 3 dv D, RowsAt tInt 3 ss (statesL t.vars), OS tVal 22 av ss, Box p7 38 [.int .i64 (vdA R.1), pv, .int .i64 (coL t pl), .int .i64 R.2.ex.length], OS tInt 3 pv pl, RdH fun w => REst w pe t H, Box pt 26 [a, b, c, d]]) (fun k => D.length - k) 0 (fun _ => rfl) ⟨rfl, rfl, rfl, trivial⟩ ⟨Nat.zero_le _, hw⟩ ?_
  clear hw
  rintro σ k w ⟨hk, hw⟩
  repeat (first | refine go_run ?_ | (refine go_newP ?_; clear hw; intro p w hw) | (refine go_newW ?_; clear hw; intro w hw) | (refine go_newS ?_; clear hw; intro s w hw))
  refine go_if (fun h1 => ?_) (fun h1 => ?_)
  · have hkl : k < D.length := by omega
    have hks : k < (statesL t.vars).length := by omega
    have hDr := hD.rng k hkl
    have hso := (statesL_at hg.pos hks).1
    have hev : estV t H ((statesL t.vars).getD k []) = H (stI t k) := if_pos hso
    have hHr := hH.le (stI t k)
    have hHn := hH.nn (stI t k)
    have einf : inf = 1125899906842624 := rfl
    have c1 := hcl k
    have c2 := hcu k
    repeat (first | refine go_run ?_ | (refine go_newP ?_; clear hw; intro p w hw) | (refine go_newWr ?_; clear hw; intro w hw) | (refine go_newS ?_; clear hw; intro s w hw))
    refine st_call rfl (eValue_spec (hw.rdE 5 rfl) ((hw.focus 1 rfl).row hks)) ?_
    rintro _ w' ⟨rfl, hk'⟩
    replace hw := hw.call0 hk'
    clear hk'
    refine ⟨_, rfl, ?_⟩
    rw [hev]
    have hst : stI t k = (statesL t.vars).getD k [] := rfl
    have y9 : loB t H D m k = true → cntP (loB t H D m) (k + 1) = cntP (loB t H D m) k + 1 := fun h => by rw [cntP_succ, if_pos h]
    have n9 : loB t H D m k = false → cntP (loB t H D m) (k + 1) = cntP (loB t H D m) k := fun h => by rw [cntP_succ, h]; rfl
    have y10 : upB t H D m k = true → cntP (upB t H D m) (k + 1) = cntP (upB t H D m) k + 1 := fun h => by rw [cntP_succ, if_pos h]
    have n10 : upB t H D m k = false → cntP (upB t H D m) (k + 1) = cntP (upB t H D m) k := fun h => by rw [cntP_succ, h]; rfl
    repeat (first | refine go_run ?_ | (refine go_newP ?_; clear hw; intro p w hw) | (refine go_newWr ?_; clear hw; intro w hw) | (refine go_newS ?_; clear hw; intro s w hw))
    refine go_if (fun h2 => ?_) (fun h2 => ?_)
    · have hfo : fOk t H D k = false := by
        unfold fOk
        rcases h2 with h2 | h2
        · rw [decide_eq_false (show ¬ D.getD k tInt.dflt < inf by omega)]; rfl
        · rw [decide_eq_false (show ¬ H (stI t k) < inf by omega), Bool.and_false]
      have e9 : loB t H D m k = false := by unfold loB; rw [hfo]; rfl
      have e10 : upB t H D m k = false := by unfold upB; rw [hfo]; rfl
      have hs9 := n9 e9
      have hs10 := n10 e10
      have hk9 : (k : Int) + 1 < 9223372036854775808 := by omega
      repeat (first | refine go_run ?_ | (refine go_newP ?_; clear hw; intro p w hw) | (refine go_newW ?_; clear hw; intro w hw) | (refine go_newS ?_; clear hw; intro s w hw))
      exact ⟨k + 1, ⟨rfl, by rw [hs9]; rfl, by rw [hs10]; rfl, trivial⟩, by repeat (first | exact agree_refl | (apply agree_upd rfl) | (apply agree_mix rfl) | (apply agree_sets rfl)), ⟨by omega, hw⟩, by omega⟩
    have hfo : fOk t H D k = true := by
      unfold fOk
      rw [decide_eq_true (show D.getD k tInt.dflt < inf by omega), decide_eq_true (show H (stI t k) < inf by omega)]; rfl
    have l9 : loB t H D m k = decide (D.getD k tInt.dflt + H (stI t k) < m) := by unfold loB; rw [hfo, Bool.true_and]
    have l10 : upB t H D m k = decide (D.getD k tInt.dflt + H (stI t k) ≤ m) := by unfold upB; rw [hfo, Bool.true_and]
    repeat (first | refine go_run ?_ | (refine go_newP ?_; clear hw; intro p w hw) | (refine go_newWr ?_; clear hw; intro w hw) | (refine go_newS ?_; clear hw; intro s w hw))
    refine go_if (fun h3 => ?_) (fun h3 => ?_)
    · have hs9 := y9 (by rw [l9, decide_eq_true h3])
      repeat (first | refine go_run ?_ | (refine go_newP ?_; clear hw; intro p w hw) | (refine go_newWr ?_; clear hw; intro w hw) | (refine go_newS ?_; clear hw; intro s w hw))
      refine go_if (fun h4 => ?_) (fun h4 => ?_)
      · have hs10 := y10 (by rw [l10, decide_eq_true h4])
        repeat (first | refine go_run ?_ | (refine go_newP ?_; clear hw; intro p w hw) | (refine go_newW ?_; clear hw; intro w hw) | (refine go_newS ?_; clear hw; intro s w hw))
        exact ⟨k + 1, ⟨rfl, by rw [hs9]; rfl, by rw [hs10]; rfl, trivial⟩, by repeat (first | exact agree_refl | (apply agree_upd rfl) | (apply agree_mix rfl) | (apply agree_sets rfl)), ⟨by omega, hw⟩, by omega⟩
      · exfalso
        omega
    · have hs9 := n9 (by rw [l9, decide_eq_false (by omega)])
      repeat (first | refine go_run ?_ | (refine go_newP ?_; clear hw; intro p w hw) | (refine go_newWr ?_; clear hw; intro w hw) | (refine go_newS ?_; clear hw; intro s w hw))
      refine go_if (fun h4 => ?_) (fun h4 => ?_)
      · have hs10 := y10 (by rw [l10, decide_eq_true h4])
        repeat (first | refine go_run ?_ | (refine go_newP ?_; clear hw; intro p w hw) | (refine go_newW ?_; clear hw; intro w hw) | (refine go_newS ?_; clear hw; intro s w hw))
        exact ⟨k + 1, ⟨rfl, by rw [hs9]; rfl, by rw [hs10]; rfl, trivial⟩, by repeat (first | exact agree_refl | (apply agree_upd rfl) | (apply agree_mix rfl) | (apply agree_sets rfl)), ⟨by omega, hw⟩, by omega⟩
      · have hs10 := n10 (by rw [l10, decide_eq_false (by omega)])
        repeat (first | refine go_run ?_ | (refine go_newP ?_; clear hw; intro p w hw) | (refine go_newW ?_; clear hw; intro w hw) | (refine go_newS ?_; clear hw; intro s w hw))
        exact ⟨k + 1, ⟨rfl, by rw [hs9]; rfl, by rw [hs10]; rfl, trivial⟩, by repeat (first | exact agree_refl | (apply agree_upd rfl) | (apply agree_mix rfl) | (apply agree_sets rfl)), ⟨by omega, hw⟩, by omega⟩
  have hke : k = D.length := by omega
  subst hke
  have hd1 : decide (((cntP (loB t H D m) D.length : Nat) : Int) ≤ (R.2.ex.length : Int)) = true := decide_eq_true (by omega)
  have hd2 : decide ((R.2.ex.length : Int) ≤ ((cntP (upB t H D m) D.length : Nat) : Int)) = true := decide_eq_true (by omega)
  repeat (first | refine go_run ?_ | (refine go_newP ?_; clear hw; intro p w hw) | (refine go_newWr ?_; clear hw; intro w hw) | (refine go_newS ?_; clear hw; intro s w hw))
  simp only [hd1, hd2, beq_self_eq_true, beq_tfI, beq_ftI, Bool.false_and, Bool.true_and, Bool.false_or, Bool.true_or, Bool.not_true, Bool.not_false, Bool.cond_true, Bool.cond_false, gv_fI, gv_tI]
  exact res_one (v := .bool true) rfl rfl ⟨rfl, sat_none hw⟩
end Go.Proofs.YtegndanecnicaaaGreat
