
/-
  'awake' of layer 49: the example's search, calculated.
-/
import Derived.Test.YtegndanecnicaaaGreatWA49
set_option linter.unusedSimpArgs false
set_option linter.unusedVariables false
namespace Go.Proofs.YtegndanecnicaaaGreat
open Go.Sl Go
attribute [local irreducible] vc opsW opsD opV opW PureV ReadV Thn Blk
theorem exA_un : unT exAT = [⟨0, 0, 1, 1, [0]⟩, ⟨1, 0, 1, 2, [1]⟩, ⟨2, 0, 1, 3, [2]⟩, ⟨3, 0, 5, 3, [0]⟩] := rfl
theorem exA_n : factN exAT = 4 := rfl
theorem exA_hm0 : IsHM exAT [0] [0, 1, 2, 3] := by
  have hst : StF exAT.vars [0] 0 := ⟨0, by decide, rfl⟩
  refine isHM_of (by decide) (fun g h0 h1 => ?_) (unT_ok exAT_good) (fun g hg => ?_) (fun i hi => ?_) (fun g h0 h1 h2 => ?_)
  · rw [exA_n] at h1
    have h3 : g = 0 ∨ g = 1 ∨ g = 2 ∨ g = 3 := by omega
    rcases h3 with rfl | rfl | rfl | rfl <;> decide
  · obtain ⟨v, hv, rfl⟩ := hg
    have : v = 0 := by simp [exAT] at hv; exact hv
    subst this; decide
  · rw [exA_un] at hi ⊢
    have h3 : i = 0 ∨ i = 1 ∨ i = 2 ∨ i = 3 := by simp at hi; omega
    rcases h3 with rfl | rfl | rfl | rfl <;> decide
  · rw [exA_n] at h1
    have d0 : Der (unT exAT) (StF exAT.vars [0]) 0 0 := .start hst
    have d1 : Der (unT exAT) (StF exAT.vars [0]) 1 1 := .fire (i := 0) (v := fun _ => 0) (m := 0) (by decide) (by decide) (fun n hn => by rw [exA_un] at hn; rw [List.mem_singleton.1 hn]; exact d0) (fun _ _ => Int.le_refl _)
    have d2 : Der (unT exAT) (StF exAT.vars [0]) 2 2 := .fire (i := 1) (v := fun _ => 1) (m := 1) (by decide) (by decide) (fun n hn => by rw [exA_un] at hn; rw [List.mem_singleton.1 hn]; exact d1) (fun _ _ => Int.le_refl _)
    have d3 : Der (unT exAT) (StF exAT.vars [0]) 3 3 := .fire (i := 2) (v := fun _ => 2) (m := 2) (by decide) (by decide) (fun n hn => by rw [exA_un] at hn; rw [List.mem_singleton.1 hn]; exact d2) (fun _ _ => Int.le_refl _)
    have h3 : g = 0 ∨ g = 1 ∨ g = 2 ∨ g = 3 := by omega
    rcases h3 with rfl | rfl | rfl | rfl
    · exact d0
    · exact d1
    · exact d2
    · exact d3
theorem exA_hm1 : IsHM exAT [1] [inf, 0, 1, 2] := by
  have hst : StF exAT.vars [1] 1 := ⟨0, by decide, rfl⟩
  refine isHM_of (by decide) (fun g h0 h1 => ?_) (unT_ok exAT_good) (fun g hg => ?_) (fun i hi => ?_) (fun g h0 h1 h2 => ?_)
  · rw [exA_n] at h1
    have h3 : g = 0 ∨ g = 1 ∨ g = 2 ∨ g = 3 := by omega
    rcases h3 with rfl | rfl | rfl | rfl <;> decide
  · obtain ⟨v, hv, rfl⟩ := hg
    have : v = 0 := by simp [exAT] at hv; exact hv
    subst this; decide
  · rw [exA_un] at hi ⊢
    have h3 : i = 0 ∨ i = 1 ∨ i = 2 ∨ i = 3 := by simp at hi; omega
    rcases h3 with rfl | rfl | rfl | rfl <;> decide
  · rw [exA_n] at h1
    have d1 : Der (unT exAT) (StF exAT.vars [1]) 1 0 := .start hst
    have d2 : Der (unT exAT) (StF exAT.vars [1]) 2 1 := .fire (i := 1) (v := fun _ => 0) (m := 0) (by decide) (by decide) (fun n hn => by rw [exA_un] at hn; rw [List.mem_singleton.1 hn]; exact d1) (fun _ _ => Int.le_refl _)
    have d3 : Der (unT exAT) (StF exAT.vars [1]) 3 2 := .fire (i := 2) (v := fun _ => 1) (m := 1) (by decide) (by decide) (fun n hn => by rw [exA_un] at hn; rw [List.mem_singleton.1 hn]; exact d2) (fun _ _ => Int.le_refl _)
    have h3 : g = 0 ∨ g = 1 ∨ g = 2 ∨ g = 3 := by omega
    rcases h3 with rfl | rfl | rfl | rfl
    · exact absurd h2 (by decide)
    · exact d1
    · exact d2
    · exact d3
theorem exA_hm2 : IsHM exAT [2] [inf, inf, 0, 1] := by
  have hst : StF exAT.vars [2] 2 := ⟨0, by decide, rfl⟩
  refine isHM_of (by decide) (fun g h0 h1 => ?_) (unT_ok exAT_good) (fun g hg => ?_) (fun i hi => ?_) (fun g h0 h1 h2 => ?_)
  · rw [exA_n] at h1
    have h3 : g = 0 ∨ g = 1 ∨ g = 2 ∨ g = 3 := by omega
    rcases h3 with rfl | rfl | rfl | rfl <;> decide
  · obtain ⟨v, hv, rfl⟩ := hg
    have : v = 0 := by simp [exAT] at hv; exact hv
    subst this; decide
  · rw [exA_un] at hi ⊢
    have h3 : i = 0 ∨ i = 1 ∨ i = 2 ∨ i = 3 := by simp at hi; omega
    rcases h3 with rfl | rfl | rfl | rfl <;> decide
  · rw [exA_n] at h1
    have d2 : Der (unT exAT) (StF exAT.vars [2]) 2 0 := .start hst
    have d3 : Der (unT exAT) (StF exAT.vars [2]) 3 1 := .fire (i := 2) (v := fun _ => 0) (m := 0) (by decide) (by decide) (fun n hn => by rw [exA_un] at hn; rw [List.mem_singleton.1 hn]; exact d2) (fun _ _ => Int.le_refl _)
    have h3 : g = 0 ∨ g = 1 ∨ g = 2 ∨ g = 3 := by omega
    rcases h3 with rfl | rfl | rfl | rfl
    · exact absurd h2 (by decide)
    · exact absurd h2 (by decide)
    · exact d2
    · exact d3
theorem exA_hm3 : IsHM exAT [3] [inf, inf, inf, 0] := by
  have hst : StF exAT.vars [3] 3 := ⟨0, by decide, rfl⟩
  refine isHM_of (by decide) (fun g h0 h1 => ?_) (unT_ok exAT_good) (fun g hg => ?_) (fun i hi => ?_) (fun g h0 h1 h2 => ?_)
  · rw [exA_n] at h1
    have h3 : g = 0 ∨ g = 1 ∨ g = 2 ∨ g = 3 := by omega
    rcases h3 with rfl | rfl | rfl | rfl <;> decide
  · obtain ⟨v, hv, rfl⟩ := hg
    have : v = 0 := by simp [exAT] at hv; exact hv
    subst this; decide
  · rw [exA_un] at hi ⊢
    have h3 : i = 0 ∨ i = 1 ∨ i = 2 ∨ i = 3 := by simp at hi; omega
    rcases h3 with rfl | rfl | rfl | rfl <;> decide
  · rw [exA_n] at h1
    have d3 : Der (unT exAT) (StF exAT.vars [3]) 3 0 := .start hst
    have h3 : g = 0 ∨ g = 1 ∨ g = 2 ∨ g = 3 := by omega
    rcases h3 with rfl | rfl | rfl | rfl
    · exact absurd h2 (by decide)
    · exact absurd h2 (by decide)
    · exact absurd h2 (by decide)
    · exact d3
def exH (s : List Int) : Int := if s = [0] then 3 else if s = [1] then 2 else if s = [2] then 1 else 0
theorem exA_H : hmaxH exAT = exH := by
  funext s
  by_cases hs : StateOk exAT.vars s
  · obtain ⟨h1, h2⟩ := hs
    have hl : s.length = 1 := h1
    obtain ⟨x, rfl⟩ := List.length_eq_one_iff.1 hl
    have h3 := h2 0 (by simp)
    have h4 : 0 ≤ x ∧ x < 4 := h3
    have h5 : x = 0 ∨ x = 1 ∨ x = 2 ∨ x = 3 := by omega
    rcases h5 with rfl | rfl | rfl | rfl
    · rw [hmax_eq (by decide) exA_hm0]; decide
    · rw [hmax_eq (by decide) exA_hm1]; decide
    · rw [hmax_eq (by decide) exA_hm2]; decide
    · rw [hmax_eq (by decide) exA_hm3]; decide
  · rw [hmax_no hs]
    unfold exH
    rw [if_neg (fun e => hs (by rw [e]; decide)), if_neg (fun e => hs (by rw [e]; decide)), if_neg (fun e => hs (by rw [e]; decide))]
def arN : AR → Nat | .solved i => i + 2 | .none => 0 | .unknown => 1
theorem arN_sol {r : AR} {i : Nat} (h : arN r = i + 2) : r = .solved i := by
  cases r with
  | solved j => have h2 : j + 2 = i + 2 := h; rw [show j = i by omega]
  | none => have h2 : 0 = i + 2 := h; omega
  | unknown => have h2 : 1 = i + 2 := h; omega
theorem arN_none {r : AR} (h : arN r = 0) : r = .none := by
  cases r with
  | solved j => have h2 : j + 2 = 0 := h; omega
  | none => rfl
  | unknown => have h2 : 1 = 0 := h; omega
theorem exA_run : arN (srchA ⟨exAT, exH, none⟩ 100).1 = 4 ∧ (srchA ⟨exAT, exH, none⟩ 100).2.ex.length = 3 ∧ (srchA ⟨exAT, exH, none⟩ 100).2.lk.map (fun l => l.par) = [-1, 0, 3, 1] ∧ (srchA ⟨exAT, exH, none⟩ 100).2.lk.map (fun l => l.op) = [-1, 0, 2, 1] ∧ arN (srchA ⟨exAT, exH, some 2⟩ 100).1 = 0 := by decide +kernel
theorem lk_par {lk : List Lnk} {P : List Int} (h : lk.map (fun l => l.par) = P) {i : Nat} (hi : i < P.length) : (lk.getD i dLnk).par = P.getD i 0 := by
  subst h
  have : i < lk.length := by rw [List.length_map] at hi; exact hi
  simp [List.getD, this]
theorem lk_op {lk : List Lnk} {P : List Int} (h : lk.map (fun l => l.op) = P) {i : Nat} (hi : i < P.length) : (lk.getD i dLnk).op = P.getD i 0 := by
  subst h
  have : i < lk.length := by rw [List.length_map] at hi; exact hi
  simp [List.getD, this]
theorem exA_plan : PlanR (srchA ⟨exAT, exH, none⟩ 100) [0, 1, 2] := by
  obtain ⟨r1, _, r3, r4, _⟩ := exA_run
  have e := arN_sol (i := 2) r1
  unfold PlanR
  rw [e]
  generalize (srchA ⟨exAT, exH, none⟩ 100).2.lk = lk at r3 r4
  have h0 : LPath lk 0 [] := .root (by rw [lk_par r3 (by decide)]; decide)
  have h1 : LPath lk 1 ([] ++ [(lk.getD 1 dLnk).op]) := .step (p := 0) (by rw [lk_par r3 (by decide)]; rfl) h0
  have h2 : LPath lk 3 (([] ++ [(lk.getD 1 dLnk).op]) ++ [(lk.getD 3 dLnk).op]) := .step (p := 1) (by rw [lk_par r3 (by decide)]; rfl) h1
  have h3 : LPath lk 2 ((([] ++ [(lk.getD 1 dLnk).op]) ++ [(lk.getD 3 dLnk).op]) ++ [(lk.getD 2 dLnk).op]) := .step (p := 3) (by rw [lk_par r3 (by decide)]; rfl) h2
  rw [lk_op r4 (by decide), lk_op r4 (by decide), lk_op r4 (by decide)] at h3
  exact h3
theorem exA_pln : Pln exAT exAT.init [0, 1, 2] 3 := by
  have h3 : Pln exAT [3] [] 0 := .goal (by decide)
  have h2 : Pln exAT [2] [2] (1 + 0) := .step (op := 2) (by decide) (by decide) h3
  have h1 : Pln exAT [1] [1, 2] (1 + (1 + 0)) := .step (op := 1) (by decide) (by decide) h2
  have h0 : Pln exAT [0] [0, 1, 2] (1 + (1 + (1 + 0))) := .step (t := exAT) (s := [0]) (op := 0) (by decide) (by decide) h1
  exact h0
set_option maxRecDepth 8000 in
set_option maxHeartbeats 4000000 in
theorem aawake_spec {w0 : World} :
    Calls Tryz.prog 10 #[] w0 fun e w' => e = .returned (.bool true) ∧ Sat w0 w' [] := by
  obtain ⟨r1, r2, r3, r4, r5⟩ := exA_run
  have s1 := arN_sol (i := 2) r1
  have s5 := arN_none r5
  have hw := Sat.start w0
  refine calls_of_vc (args := []) mixed Tryz.func10 rfl (by kernel_rfl) (Nat.le_of_ble_eq_true rfl) ?_
  repeat (first | refine go_run ?_ | (refine go_newP ?_; clear hw; intro p w hw) | (refine go_newWr ?_; clear hw; intro w hw) | (refine go_newS ?_; clear hw; intro s w hw))
  refine st_call rfl aexample_spec ?_
  rintro _ w' ⟨a, b, c, d, vs, rfl, hk'⟩
  replace hw := hw.call1 hk'
  clear hk'
  refine ⟨_, rfl, ?_⟩
  have ht0 := hw.rdE 0 rfl
  have o1 := ht0.vars.one
  have o2 := ht0.init.one
  have o3 := ht0.goal.one
  have o4 := ht0.ops.rs.one
  clear ht0
  repeat (first | refine go_run ?_ | (refine go_newP ?_; clear hw; intro p w hw) | (refine go_newS ?_; clear hw; intro s w hw))
  obtain ⟨pt, hpt⟩ : ∃ pt, pt = p := ⟨p, rfl⟩
  subst hpt
  refine st_boxAgg (n := 4) (p := pt) (vs := [a, b, c, d]) rfl rfl hw inferInstance rfl rfl (by simp only [List.all_cons, List.all_nil, o1, o2, o3, o4]; rfl) ?_
  clear hw
  intro w hw
  repeat (first | refine go_run ?_ | (refine go_newP ?_; clear hw; intro p w hw) | (refine go_newWr ?_; clear hw; intro w hw) | (refine go_newS ?_; clear hw; intro s w hw))
  refine st_call rfl (HMax_spec (hw.rdE 1 rfl) exAT_good) ?_
  rintro _ w' ⟨ph, rfl, hk'⟩
  replace hw := hw.call1 hk'
  clear hk'
  refine ⟨_, rfl, ?_⟩
  repeat (first | refine go_run ?_ | (refine go_newP ?_; clear hw; intro p w hw) | (refine go_newWr ?_; clear hw; intro w hw) | (refine go_newS ?_; clear hw; intro s w hw))
  refine st_call rfl (aSearch_spec (ev := .pointer (some ph)) (L := 100) (lim := 100) (hw.rdE 2 rfl) (hmax_ok exAT_good) (.inr ⟨ph, rfl, hw.rdE 0 rfl⟩) rfl (by decide) (.inl (by decide))) ?_
  rintro _ w' ⟨pv, p, rfl, hP, hk'⟩
  rw [exA_H] at hP
  rw [exA_H, s1, r2]
  obtain rfl : p = [0, 1, 2] := planR_uniq hP exA_plan
  have hco : coL exAT [0, 1, 2] = 3 := by decide
  rw [hco]
  replace hw := hw.call1 hk'
  clear hk' hP
  refine ⟨_, rfl, ?_⟩
  have opv := (rsO (s := pv) hw).one
  repeat (first | refine go_run ?_ | (refine go_newP ?_; clear hw; intro p w hw) | (refine go_newS ?_; clear hw; intro s w hw))
  obtain ⟨p1, hp1⟩ : ∃ p1, p1 = p := ⟨p, rfl⟩
  subst hp1
  refine st_boxAgg (n := 4) (p := p1) (vs := [.int .i64 1, pv, .int .i64 3, .int .i64 3]) rfl rfl hw inferInstance rfl rfl (by simp only [List.all_cons, List.all_nil, opv]; rfl) ?_
  clear hw
  intro w hw
  repeat (first | refine go_run ?_ | (refine go_newP ?_; clear hw; intro p w hw) | (refine go_newWr ?_; clear hw; intro w hw) | (refine go_newS ?_; clear hw; intro s w hw))
  refine st_call rfl (aBounded_spec (ev := .pointer (some ph)) (L := 100) (bd := 2) (lim := 100) (hw.rdE 4 rfl) (hmax_ok exAT_good) (.inr ⟨ph, rfl, hw.rdE 2 rfl⟩) rfl (by decide) (.inl (by decide))) ?_
  rintro _ w' ⟨qv, p2, rfl, hP, hk'⟩
  rw [exA_H] at hP
  rw [exA_H, s5]
  have hp2 : p2 = [] := by unfold PlanR at hP; rw [s5] at hP; exact hP
  subst hp2
  rw [coL_nil]
  replace hw := hw.call1 hk'
  clear hk' hP
  refine ⟨_, rfl, ?_⟩
  generalize (srchA ⟨exAT, exH, some 2⟩ 100).2.ex.length = nx
  have oqv := (rsO (s := qv) hw).one
  repeat (first | refine go_run ?_ | (refine go_newP ?_; clear hw; intro p w hw) | (refine go_newS ?_; clear hw; intro s w hw))
  obtain ⟨p3, hp3⟩ : ∃ p3, p3 = p := ⟨p, rfl⟩
  subst hp3
  refine st_boxAgg (n := 4) (p := p3) (vs := [.int .i64 2, qv, .int .i64 0, .int .i64 nx]) rfl rfl hw inferInstance rfl rfl (by simp only [List.all_cons, List.all_nil, oqv]; rfl) ?_
  clear hw
  intro w hw
  repeat (first | refine go_run ?_ | (refine go_newP ?_; clear hw; intro p w hw) | (refine go_newWr ?_; clear hw; intro w hw) | (refine go_newS ?_; clear hw; intro s w hw))
  refine st_call rfl (Result_spec (pv := pv) (p := [0, 1, 2]) (vd := 1) (co := 3) (ex := 3) (best := 3) (hw.rdE 6 rfl) exAT_good (rsO (s := pv) hw) (by decide) (.inr ⟨by decide, rfl, exA_pln, rfl⟩)) ?_
  rintro _ w' ⟨rfl, hk'⟩
  replace hw := hw.call0 hk'
  clear hk'
  refine ⟨_, rfl, ?_⟩
  repeat (first | refine go_run ?_ | (refine go_newP ?_; clear hw; intro p w hw) | (refine go_newWr ?_; clear hw; intro w hw) | (refine go_newS ?_; clear hw; intro s w hw))
  refine st_buildSlice (T := tInt) [0, 1, 2] [.int .i64 0, .int .i64 1, .int .i64 2] rfl rfl rfl rfl rfl (Nat.le_of_ble_eq_true rfl) (Nat.zero_lt_succ _) (Nat.le_of_ble_eq_true rfl) hw ?_
  clear hw
  intro ls w hw
  repeat (first | refine go_run ?_ | (refine go_newP ?_; clear hw; intro p w hw) | (refine go_newWr ?_; clear hw; intro w hw) | (refine go_newS ?_; clear hw; intro s w hw))
  refine st_call rfl (Ints_spec (a := pv) (b := ls) (rsO (s := pv) hw) (rsO (s := ls) hw)) ?_
  rintro _ w' ⟨⟨r, rfl, hr⟩, hk'⟩
  replace hw := hw.call0 hk'
  clear hk'
  refine ⟨_, rfl, ?_⟩
  obtain rfl : r = true := hr.2 rfl
  repeat (first | refine go_run ?_ | (refine go_newP ?_; clear hw; intro p w hw) | (refine go_newWr ?_; clear hw; intro w hw) | (refine go_newS ?_; clear hw; intro s w hw))
  exact res_one (v := .bool true) rfl rfl ⟨rfl, sat_none hw⟩
end Go.Proofs.YtegndanecnicaaaGreat
