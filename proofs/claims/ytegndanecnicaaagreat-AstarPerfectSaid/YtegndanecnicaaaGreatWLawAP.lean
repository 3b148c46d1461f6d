
/-
  The statement 'AstarPerfect' returns true.
-/
import Derived.Test.YtegndanecnicaaaGreatWA49Aw
import Derived.Test.YtegndanecnicaaaGreatTLeast
import Derived.Test.YtegndanecnicaaaGreatTAstP
import Derived.Test.YtegndanecnicaaaGreatTIda4
set_option linter.unusedSimpArgs false
set_option linter.unusedVariables false
namespace Go.Proofs.YtegndanecnicaaaGreat
open Go.Sl Go
attribute [local irreducible] vc opsW opsD opV opW PureV ReadV Thn Blk
theorem dTrueP (h : Decidable True) : @decide True h = true := decide_eq_true trivial
theorem dist_rngA {t : TTask} {D : List Int} (hg : GoodT t) (hl : (statesL t.vars).length ≤ 512) (hD : DistOk (edgesT t) (costsT t) (GoalS t) (statesL t.vars).length D) :
    (∀ x ∈ D, 0 ≤ x ∧ x ≤ inf) ∧ ∀ x ∈ D, x < inf → x ≤ 536870912 := by
  have hE : EOk (edgesT t) (costsT t) (statesL t.vars).length := eok_T hg ⟨costs_len t, fun x hx => by have := costs_rng hg x hx; omega⟩
  have hd : ∀ i, i < (statesL t.vars).length → (0 ≤ D.getD i tInt.dflt ∧ D.getD i tInt.dflt ≤ inf) ∧ (D.getD i tInt.dflt < inf → D.getD i tInt.dflt ≤ 536870912) := fun i hi => by
    have h1 := hD.rng i hi
    have e : dg D (i : Int) = D.getD i tInt.dflt := by unfold dg; rw [Int.toNat_natCast]
    rw [e] at h1
    refine ⟨h1, fun h => ?_⟩
    have h2 := hD.bound hE (C := 1048576) (by decide) (fun x hx => (costs_rng hg x hx).2) hi (by rw [e]; exact h)
    rw [e] at h2
    have : ((statesL t.vars).length : Int) * 1048576 ≤ 512 * 1048576 := by omega
    omega
  have hlen := hD.len
  refine ⟨fun x hx => ?_, fun x hx => ?_⟩
  · obtain ⟨i, hi, e⟩ := List.getElem_of_mem hx
    have := (hd i (by omega)).1
    rw [getD_at hi, e] at this; exact this
  · obtain ⟨i, hi, e⟩ := List.getElem_of_mem hx
    have := (hd i (by omega)).2
    rw [getD_at hi, e] at this; exact this
set_option maxRecDepth 8000 in
set_option maxHeartbeats 8000000 in
theorem AstarPerfect_walk {w0 : World} {a b c d : Value} {vs : List OpV} {t : TTask} (ht : RTask w0 a b c d vs t) :
    Calls Tryz.prog 7 #[.agg #[a, b, c, d]] w0 fun e w' => e = .returned (.bool true) ∧ Sat w0 w' [] := by
  have htr := ht.ops.rs
  have htl := ht.ops.len
  have htb := htr.big
  have hw := Sat.start w0
  refine calls_of_vc (args := [.agg #[a, b, c, d]]) mixed Tryz.func7 rfl (by kernel_rfl) (Nat.le_of_ble_eq_true rfl) ?_
  repeat (first | refine go_run ?_ | (refine go_newP ?_; clear hw; intro p w hw) | (refine go_newWr ?_; clear hw; intro w hw) | (refine go_newS ?_; clear hw; intro s w hw))
  obtain ⟨pt, hpt⟩ : ∃ pt, pt = p := ⟨p, rfl⟩
  subst hpt
  refine st_call rfl (Small_spec (ht.at hw)) ?_
  rintro _ w' ⟨⟨r, rfl, hr⟩, hk'⟩
  replace hw := hw.call0 hk'
  clear hk'
  refine ⟨_, rfl, ?_⟩
  cases r
  · repeat (first | refine go_run ?_ | (refine go_newP ?_; clear hw; intro p w hw) | (refine go_newWr ?_; clear hw; intro w hw) | (refine go_newS ?_; clear hw; intro s w hw))
    refine st_call rfl aawake_spec ?_
    rintro _ w' ⟨rfl, hk'⟩
    replace hw := hw.call0 hk'
    clear hk'
    refine ⟨_, rfl, ?_⟩
    repeat (first | refine go_run ?_ | (refine go_newP ?_; clear hw; intro p w hw) | (refine go_newWr ?_; clear hw; intro w hw) | (refine go_newS ?_; clear hw; intro s w hw))
    exact res_one (v := .bool true) rfl rfl ⟨rfl, sat_none hw⟩
  have hs := hr.1 rfl
  have hg := hs.good
  have hB := hs.many
  have hsl : (statesL t.vars).length = (prodL t.vars).toNat := statesL_len hg.pos
  have hpp := prodL_pos hg.pos
  repeat (first | refine go_run ?_ | (refine go_newP ?_; clear hw; intro p w hw) | (refine go_newWr ?_; clear hw; intro w hw) | (refine go_newS ?_; clear hw; intro s w hw))
  refine st_call rfl aawake_spec ?_
  rintro _ w' ⟨rfl, hk'⟩
  replace hw := hw.call0 hk'
  clear hk'
  refine ⟨_, rfl, ?_⟩
  replace hw : Sat w0 w' [Box pt 26 [a, b, c, d]] := hw
  repeat (first | refine go_run ?_ | (refine go_newP ?_; clear hw; intro p w hw) | (refine go_newWr ?_; clear hw; intro w hw) | (refine go_newS ?_; clear hw; intro s w hw))
  refine vc_loop [2, 4, 19, 20, 21, 22, 23, 24, 25, 26] (G := Nat) (fun i => [(19, .int .i64 i)]) (fun i w => i ≤ t.ops.length ∧ (∀ m, m < i → opC t m ≠ 0) ∧ Sat w0 w [Box pt 26 [a, b, c, d]]) (fun i => t.ops.length - i) 0 (fun _ => rfl) ⟨rfl, trivial⟩ ⟨Nat.zero_le _, fun m hm => absurd hm (Nat.not_lt_zero _), hw⟩ ?_
  clear hw
  rintro σ i w ⟨hi, hno, hw⟩
  repeat (first | refine go_run ?_ | (refine go_newP ?_; clear hw; intro p w hw) | (refine go_newW ?_; clear hw; intro w hw) | (refine go_newS ?_; clear hw; intro s w hw))
  refine go_if (fun h5 => ?_) (fun h5 => ?_)
  · have hil : i < t.ops.length := by omega
    have hx := ht.ops.at_ i hil
    have ax := hx.one
    have hco : (eget tOp vs i).cost = opC t i := hx.cost
    repeat (first | refine go_run ?_ | (refine go_newP ?_; clear hw; intro p w hw) | (refine go_newWr ?_; clear hw; intro w hw) | (refine go_newS ?_; clear hw; intro s w hw))
    refine go_if (fun h6 => ?_) (fun h6 => ?_)
    · repeat (first | refine go_run ?_ | (refine go_newP ?_; clear hw; intro p w hw) | (refine go_newWr ?_; clear hw; intro w hw) | (refine go_newS ?_; clear hw; intro s w hw))
      exact res_one (v := .bool true) rfl rfl ⟨rfl, sat_none hw⟩
    · repeat (first | refine go_run ?_ | (refine go_newP ?_; clear hw; intro p w hw) | (refine go_newWr ?_; clear hw; intro w hw) | (refine go_newS ?_; clear hw; intro s w hw))
      exact ⟨i + 1, ⟨rfl, trivial⟩, by repeat (first | exact agree_refl | (apply agree_upd rfl) | (apply agree_mix rfl) | (apply agree_sets rfl)), ⟨by omega, fun m hm => (by
        by_cases e : m = i
        · subst e; rw [← hco]; exact h6
        · exact hno m (by omega)), hw.tail⟩, by omega⟩
  have hie : i = t.ops.length := by omega
  subst hie
  have hpos : ∀ op, op < t.ops.length → 0 < opC t op := fun op ho => by
    have h1 := opC_rng hg ho
    have h2 := hno op ho
    omega
  repeat (first | refine go_run ?_ | (refine go_newP ?_; clear hw; intro p w hw) | (refine go_newWr ?_; clear hw; intro w hw) | (refine go_newS ?_; clear hw; intro s w hw))
  refine vc_plan [.op 0, .op 1, .op 2, .chk 0, .op 3, .op 4, .op 5, .op 6, .op 7, .op 8] hw (by kernel_rfl) ?_; clear hw; intro w hw
  repeat (first | refine go_run ?_ | (refine go_newP ?_; clear hw; intro p w hw) | (refine go_newWr ?_; clear hw; intro w hw) | (refine go_newS ?_; clear hw; intro s w hw))
  refine st_call rfl (Distances_spec (kv := .slice none 0 0) (ht.at hw) (.own rfl rfl) hg (by omega)) ?_
  rintro _ w' ⟨dv, D, rfl, hD, hk'⟩
  replace hw := hw.call1 hk'
  clear hk'
  refine ⟨_, rfl, ?_⟩
  have hDl := hD.len
  obtain ⟨hd1, hd2⟩ := dist_rngA hg (by omega) hD
  have htT : tErr t D = 0 := by
    unfold tErr
    rw [if_neg (by rw [hDl]; omega), if_neg (fun ⟨x, hx, h⟩ => by have := hd1 x hx; omega)]
  have hH := tab_ok hg hDl hd1
  have hadm := tab_adm (T := D) hg (by omega) hD fun i _ _ => Int.le_refl _
  have hM := tabH_small (M := 536870912) hg hDl (by decide) hd2
  have hPf : Perf t (tabH t D) := fun y hy => by rw [tabH_ok hy]; exact least_of hg (by omega) hD hy
  have hL0 := hPf _ hg.init
  repeat (first | refine go_run ?_ | (refine go_newP ?_; clear hw; intro p w hw) | (refine go_newWr ?_; clear hw; intro w hw) | (refine go_newS ?_; clear hw; intro s w hw))
  refine st_call rfl (eTable_spec (ht.at hw) hg (rsO (s := dv) hw) (by omega)) ?_
  rintro _ w' (⟨h1, _⟩ | ⟨_, pe, rfl, hk'⟩)
  · exact absurd htT h1
  replace hw := hw.call1 hk'
  clear hk'
  refine ⟨_, rfl, ?_⟩
  repeat (first | refine go_run ?_ | (refine go_newP ?_; clear hw; intro p w hw) | (refine go_newWr ?_; clear hw; intro w hw) | (refine go_newS ?_; clear hw; intro s w hw))
  refine st_call rfl (aSearch_spec (ev := .pointer (some pe)) (L := 100000) (lim := 100000) (ht.at hw) hH (.inr ⟨pe, rfl, hw.rdE 0 rfl⟩) rfl (by decide) (.inl hB)) ?_
  rintro _ w' ⟨pv, pl, rfl, hP, hk'⟩
  replace hw := hw.call1 hk'
  clear hk'
  refine ⟨_, rfl, ?_⟩
  have opv := (rsO (s := pv) hw).one
  have einf : inf = 1125899906842624 := rfl
  have hBst := srch_best (A := ⟨t, tabH t D, none⟩) hH hadm hL0 hP
  have hPer := srch_perf (A := ⟨t, tabH t D, none⟩) (lim := 100000) (M := 536870912) hH hPf hpos hadm rfl hM (by decide) (by show (statesL t.vars).length < 100000; omega)
  have hDead := srch_dead (A := ⟨t, tabH t D, none⟩) (lim := 100000)
  have hsx : (startA ⟨t, tabH t D, none⟩).ex.length = 0 := rfl
  by_cases hlt : tabH t D t.init < inf
  · obtain ⟨i, p0, r1, r2, r3⟩ := hPer hlt
    have hpp : pl = p0 := by unfold PlanR at hP; rw [r1] at hP; exact lpath_uniq hP r2
    subst hpp
    clear hPer hDead r2
    generalize srchA ⟨t, tabH t D, none⟩ 100000 = R at hP hBst r1 r3 ⊢
    obtain ⟨hpl, hxl, hcase⟩ := hBst
    have hcost : coL t pl = tabH t D t.init := by
      rcases hcase with ⟨i, _, _, r4, _⟩ | ⟨r5, _, _⟩ | ⟨r5, _, _⟩
      · exact r4
      · rw [r1] at r5; cases r5
      · rw [r1] at r5; cases r5
    have hpl1 : pl.length ≤ (statesL t.vars).length := hpl
    repeat (first | refine go_run ?_ | (refine go_newP ?_; clear hw; intro p w hw) | (refine go_newS ?_; clear hw; intro s w hw))
    obtain ⟨p7, hp7⟩ : ∃ p7, p7 = p := ⟨p, rfl⟩
    subst hp7
    refine st_boxAgg (n := 4) (p := p7) (vs := [.int .i64 (vdA R.1), pv, .int .i64 (coL t pl), .int .i64 R.2.ex.length]) rfl rfl hw inferInstance rfl rfl (by simp only [List.all_cons, List.all_nil, opv]; rfl) ?_
    clear hw
    intro w hw
    rw [show vdA R.1 = 1 by rw [r1]; rfl, ← r3] at hw
    have hdl : decide ((pl.length : Int) = (pl.length : Int)) = true := decide_eq_true rfl
    repeat (first | refine go_run ?_ | (refine go_newP ?_; clear hw; intro p w hw) | (refine go_newWr ?_; clear hw; intro w hw) | (refine go_newS ?_; clear hw; intro s w hw))
    refine vc_plan [.op 0, .op 1, .op 2, .op 3, .op 4, .op 5, .op 6, .op 7, .op 8, .op 9, .op 10, .op 11, .op 12, .op 13, .op 14, .op 15, .chk 13, .op 16, .op 17, .op 18] hw (by kernel_rfl) ?_; clear hw; intro w hw
    repeat (first | refine go_run ?_ | (refine go_newP ?_; clear hw; intro p w hw) | (refine go_newWr ?_; clear hw; intro w hw) | (refine go_newS ?_; clear hw; intro s w hw))
    simp only [hdl, dTrueP, beq_self_eq_true, beq_tfI, beq_ftI, Bool.false_and, Bool.true_and, Bool.false_or, Bool.true_or, Bool.not_true, Bool.not_false, Bool.cond_true, Bool.cond_false, gv_fI, gv_tI]
    repeat (first | refine go_run ?_ | (refine go_newP ?_; clear hw; intro p w hw) | (refine go_newWr ?_; clear hw; intro w hw) | (refine go_newS ?_; clear hw; intro s w hw))
    refine st_call rfl (Best_spec (ht.at hw) hg hB) ?_
    rintro _ w' ⟨m, rfl, hm, hk'⟩
    replace hw := hw.call0 hk'
    clear hk'
    refine ⟨_, rfl, ?_⟩
    have hme := least_uniq hm hL0
    have hdc : decide (coL t pl = m) = true := decide_eq_true (by omega)
    repeat (first | refine go_run ?_ | (refine go_newP ?_; clear hw; intro p w hw) | (refine go_newWr ?_; clear hw; intro w hw) | (refine go_newS ?_; clear hw; intro s w hw))
    simp only [hdc, dTrueP, beq_self_eq_true, beq_tfI, beq_ftI, Bool.false_and, Bool.true_and, Bool.false_or, Bool.true_or, Bool.not_true, Bool.not_false, Bool.cond_true, Bool.cond_false, gv_fI, gv_tI]
    repeat (first | refine go_run ?_ | (refine go_newP ?_; clear hw; intro p w hw) | (refine go_newWr ?_; clear hw; intro w hw) | (refine go_newS ?_; clear hw; intro s w hw))
    exact res_one (v := .bool true) rfl rfl ⟨rfl, sat_none hw⟩
  · have hinf : tabH t D t.init = inf := by have := hH.le t.init; omega
    have hR := hDead hinf
    have r1 : (srchA ⟨t, tabH t D, none⟩ 100000).1 = .none := by rw [hR]
    have r3 : (srchA ⟨t, tabH t D, none⟩ 100000).2.ex.length = 0 := by rw [hR]; rfl
    have hpp : pl = [] := by unfold PlanR at hP; rw [r1] at hP; exact hP
    subst hpp
    clear hPer hDead hR hBst hP
    generalize srchA ⟨t, tabH t D, none⟩ 100000 = R at r1 r3 ⊢
    have pl : List Int := []
    rw [coL_nil]
    repeat (first | refine go_run ?_ | (refine go_newP ?_; clear hw; intro p w hw) | (refine go_newS ?_; clear hw; intro s w hw))
    obtain ⟨p7, hp7⟩ : ∃ p7, p7 = p := ⟨p, rfl⟩
    subst hp7
    refine st_boxAgg (n := 4) (p := p7) (vs := [.int .i64 (vdA R.1), pv, .int .i64 0, .int .i64 R.2.ex.length]) rfl rfl hw inferInstance rfl rfl (by simp only [List.all_cons, List.all_nil, opv]; rfl) ?_
    clear hw
    intro w hw
    rw [show vdA R.1 = 2 by rw [r1]; rfl, r3] at hw
    repeat (first | refine go_run ?_ | (refine go_newP ?_; clear hw; intro p w hw) | (refine go_newWr ?_; clear hw; intro w hw) | (refine go_newS ?_; clear hw; intro s w hw))
    refine st_call rfl (Best_spec (ht.at hw) hg hB) ?_
    rintro _ w' ⟨m, rfl, hm, hk'⟩
    replace hw := hw.call0 hk'
    clear hk'
    refine ⟨_, rfl, ?_⟩
    have hme := least_uniq hm hL0
    have hdc : decide ((1125899906842624 : Int) ≤ m) = true := decide_eq_true (by omega)
    repeat (first | refine go_run ?_ | (refine go_newP ?_; clear hw; intro p w hw) | (refine go_newWr ?_; clear hw; intro w hw) | (refine go_newS ?_; clear hw; intro s w hw))
    simp only [hdc, dTrueP, beq_self_eq_true, beq_tfI, beq_ftI, Bool.false_and, Bool.true_and, Bool.false_or, Bool.true_or, Bool.not_true, Bool.not_false, Bool.cond_true, Bool.cond_false, gv_fI, gv_tI]
    repeat (first | refine go_run ?_ | (refine go_newP ?_; clear hw; intro p w hw) | (refine go_newWr ?_; clear hw; intro w hw) | (refine go_newS ?_; clear hw; intro s w hw))
    exact res_one (v := .bool true) rfl rfl ⟨rfl, sat_none hw⟩
end Go.Proofs.YtegndanecnicaaaGreat
