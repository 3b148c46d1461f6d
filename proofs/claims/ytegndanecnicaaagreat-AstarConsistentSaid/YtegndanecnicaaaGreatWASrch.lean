
/-
  Contracts of A*'s 'begin', 'Search', 'Bounded'.
-/
import Derived.Test.YtegndanecnicaaaGreatWARun
import Derived.Test.YtegndanecnicaaaGreatWEst3
set_option linter.unusedSimpArgs false
set_option linter.unusedVariables false
namespace Go.Proofs.YtegndanecnicaaaGreat
open Go.Sl Go
attribute [local irreducible] vc opsW opsD opV opW PureV ReadV Thn Blk
/-- The estimate of a search: a given one, or the blind one. -/
def EstA (w0 : World) (ev : Value) (t : TTask) (H : List Int → Int) : Prop := (ev = .pointer none ∧ H = blindH t) ∨ ∃ pe, ev = .pointer (some pe) ∧ REst w0 pe t H
theorem EstA.at {w0 w : World} {Γ : List HP} {ev : Value} {t : TTask} {H : List Int → Int} (h : EstA w0 ev t H) (hw : Sat w0 w Γ) : EstA w ev t H := by
  rcases h with ⟨h1, h2⟩ | ⟨pe, h1, h2⟩
  · exact .inl ⟨h1, h2⟩
  · exact .inr ⟨pe, h1, h2.at hw⟩
set_option maxRecDepth 8000 in
set_option maxHeartbeats 8000000 in
theorem abegin_spec {w0 : World} {a b c d ev : Value} {vs : List OpV} {t : TTask} {H : List Int → Int} (ht : RTask w0 a b c d vs t) (hH : HOk t H) (he : EstA w0 ev t H) :
    Calls Tryz.prog 35 #[.agg #[a, b, c, d], ev] w0 fun e w' => ∃ q pe pg pr, e = .returned (.tuple #[.pointer (some q), .nilIface]) ∧
      ((ev = .pointer (some pe) ∧ Sat w0 w' [Box q 82 [a, b, c, d, .pointer (some pe), .pointer (some pg), .pointer (some pr), .slice none 0 0, .slice none 0 0, .slice none 0 0, .slice none 0 0, .int .i64 0, .bool false, .int .i64 0, .int .i64 0], RegH pr t.vars [] [], RdH fun w => RGen w pg t]) ∨
       (ev = .pointer none ∧ H = blindH t ∧ Sat w0 w' [Box q 82 [a, b, c, d, .pointer (some pe), .pointer (some pg), .pointer (some pr), .slice none 0 0, .slice none 0 0, .slice none 0 0, .slice none 0 0, .int .i64 0, .bool false, .int .i64 0, .int .i64 0], RegH pr t.vars [] [], RdH fun w => RGen w pg t, RdH fun w => REst w pe t H])) := by
  have hg := hH.good
  have hch := (good_iff t).2 hg
  have hw := Sat.start w0
  obtain ⟨ea, hea⟩ : ∃ ea : Option Addr, ev = .pointer ea := by
    rcases he with ⟨rfl, _⟩ | ⟨pe, rfl, _⟩
    · exact ⟨none, rfl⟩
    · exact ⟨some pe, rfl⟩
  subst hea
  refine calls_of_vc (args := [.agg #[a, b, c, d], .pointer ea]) mixed Tryz.func35 rfl (by kernel_rfl) (Nat.le_of_ble_eq_true rfl) ?_
  refine vc_seq ?_
  refine vc_region ?_
  refine go_box ?_
  clear hw
  intro pt w hw
  replace hw : Sat w0 w [Box pt 26 [a, b, c, d]] := hw
  repeat (first | refine go_run ?_ | (refine go_newP ?_; clear hw; intro p w hw) | (refine go_newWr ?_; clear hw; intro w hw) | (refine go_newS ?_; clear hw; intro s w hw))
  refine st_call rfl (Check_spec (ht.at hw)) ?_
  rintro _ w' ⟨rfl, hk'⟩
  replace hw := hw.call0 hk'
  clear hk'
  refine ⟨_, rfl, ?_⟩
  rw [errV_zero hch]
  rcases he with ⟨h1, hHb⟩ | ⟨pe, h1, hest⟩
  · have h2 : ea = none := by injection h1
    subst h2
    repeat (first | refine go_run ?_ | (refine go_newP ?_; clear hw; intro p w hw) | (refine go_newWr ?_; clear hw; intro w hw) | (refine go_newS ?_; clear hw; intro s w hw))
    refine st_call rfl (Blind_spec (ht.at hw) hg) ?_
    rintro _ w' ⟨pe, rfl, hk'⟩
    replace hw := hw.call1 hk'
    clear hk'
    refine ⟨_, rfl, ?_⟩
    repeat (first | refine go_run ?_ | (refine go_newP ?_; clear hw; intro p w hw) | (refine go_newWr ?_; clear hw; intro w hw) | (refine go_newS ?_; clear hw; intro s w hw))
    refine st_call rfl (sNew_spec (ht.at hw) hg) ?_
    rintro _ w' ⟨pg, rfl, hk'⟩
    replace hw := hw.call1 hk'
    clear hk'
    refine ⟨_, rfl, ?_⟩
    repeat (first | refine go_run ?_ | (refine go_newP ?_; clear hw; intro p w hw) | (refine go_newWr ?_; clear hw; intro w hw) | (refine go_newS ?_; clear hw; intro s w hw))
    refine st_call rfl (rgNew_spec (ht.at hw).vars hg.vars hg.dom) ?_
    rintro _ w' ⟨pr, rfl, hk'⟩
    replace hw := hw.call1 hk'
    clear hk'
    refine ⟨_, rfl, ?_⟩
    have o1 := (ht.vars.at hw).cells1
    have o2 := (ht.init.at hw).cells1
    have o3 := (ht.goal.at hw).cells1
    have o4 := (ht.ops.rs.at hw).cells1
    repeat (first | refine go_run ?_ | (refine go_newP ?_; clear hw; intro p w hw) | (refine go_newWr ?_; clear hw; intro w hw) | (refine go_newS ?_; clear hw; intro s w hw))
    refine st_buildN (vs := [(0, .agg #[a, b, c, d]), (1, .pointer (some pe)), (2, .pointer (some pg)), (3, .pointer (some pr))]) (ls := [(0, [a, b, c, d]), (1, [.pointer (some pe)]), (2, [.pointer (some pg)]), (3, [.pointer (some pr)])]) rfl rfl rfl ?_
    refine st_boxAggNew (vs := [a, b, c, d, .pointer (some pe), .pointer (some pg), .pointer (some pr), .slice none 0 0, .slice none 0 0, .slice none 0 0, .slice none 0 0, .int .i64 0, .bool false, .int .i64 0, .int .i64 0]) rfl hw ?_
    clear hw
    intro q w hw
    repeat (first | refine go_run ?_ | (refine go_newP ?_; clear hw; intro p w hw) | (refine go_newWr ?_; clear hw; intro w hw) | (refine go_newS ?_; clear hw; intro s w hw))
    subst hHb
    exact res_two (v := .pointer (some q)) (v' := .nilIface) rfl rfl rfl ⟨q, pe, pg, pr, rfl, .inr ⟨rfl, rfl, hw.sel⟩⟩
  · have h2 : ea = some pe := by injection h1
    subst h2
    repeat (first | refine go_run ?_ | (refine go_newP ?_; clear hw; intro p w hw) | (refine go_newWr ?_; clear hw; intro w hw) | (refine go_newS ?_; clear hw; intro s w hw))
    refine st_call rfl (eFor_spec (hest.at hw) (ht.at hw)) ?_
    rintro _ w' ⟨⟨r, rfl, hr⟩, hk'⟩
    replace hw := hw.call0 hk'
    clear hk'
    refine ⟨_, rfl, ?_⟩
    have hrt : r = true := hr.2 rfl
    subst hrt
    repeat (first | refine go_run ?_ | (refine go_newP ?_; clear hw; intro p w hw) | (refine go_newWr ?_; clear hw; intro w hw) | (refine go_newS ?_; clear hw; intro s w hw))
    refine st_call rfl (sNew_spec (ht.at hw) hg) ?_
    rintro _ w' ⟨pg, rfl, hk'⟩
    replace hw := hw.call1 hk'
    clear hk'
    refine ⟨_, rfl, ?_⟩
    repeat (first | refine go_run ?_ | (refine go_newP ?_; clear hw; intro p w hw) | (refine go_newWr ?_; clear hw; intro w hw) | (refine go_newS ?_; clear hw; intro s w hw))
    refine st_call rfl (rgNew_spec (ht.at hw).vars hg.vars hg.dom) ?_
    rintro _ w' ⟨pr, rfl, hk'⟩
    replace hw := hw.call1 hk'
    clear hk'
    refine ⟨_, rfl, ?_⟩
    have o1 := (ht.vars.at hw).cells1
    have o2 := (ht.init.at hw).cells1
    have o3 := (ht.goal.at hw).cells1
    have o4 := (ht.ops.rs.at hw).cells1
    repeat (first | refine go_run ?_ | (refine go_newP ?_; clear hw; intro p w hw) | (refine go_newWr ?_; clear hw; intro w hw) | (refine go_newS ?_; clear hw; intro s w hw))
    refine st_buildN (vs := [(0, .agg #[a, b, c, d]), (1, .pointer (some pe)), (2, .pointer (some pg)), (3, .pointer (some pr))]) (ls := [(0, [a, b, c, d]), (1, [.pointer (some pe)]), (2, [.pointer (some pg)]), (3, [.pointer (some pr)])]) rfl rfl rfl ?_
    refine st_boxAggNew (vs := [a, b, c, d, .pointer (some pe), .pointer (some pg), .pointer (some pr), .slice none 0 0, .slice none 0 0, .slice none 0 0, .slice none 0 0, .int .i64 0, .bool false, .int .i64 0, .int .i64 0]) rfl hw ?_
    clear hw
    intro q w hw
    repeat (first | refine go_run ?_ | (refine go_newP ?_; clear hw; intro p w hw) | (refine go_newWr ?_; clear hw; intro w hw) | (refine go_newS ?_; clear hw; intro s w hw))
    exact res_two (v := .pointer (some q)) (v' := .nilIface) rfl rfl rfl ⟨q, pe, pg, pr, rfl, .inl ⟨rfl, hw.sel⟩⟩
set_option maxRecDepth 8000 in
set_option maxHeartbeats 8000000 in
theorem aSearch_spec {w0 : World} {a b c d ev : Value} {vs : List OpV} {t : TTask} {H : List Int → Int} {L : Int} {lim : Nat} (ht : RTask w0 a b c d vs t) (hH : HOk t H) (he : EstA w0 ev t H) (hlim : lim = L.toNat) (hL : L ≤ 1048576) (hN : prodL t.vars ≤ 512 ∨ 1 + lim * t.ops.length < 65536) :
    Calls Tryz.prog 12 #[.agg #[a, b, c, d], ev, .int .i64 L] w0 fun e w' => ∃ pv p, e = .returned (.tuple #[.agg #[.int .i64 (vdA (srchA ⟨t, H, none⟩ lim).1), pv, .int .i64 (coL t p), .int .i64 (srchA ⟨t, H, none⟩ lim).2.ex.length], .nilIface]) ∧ PlanR (srchA ⟨t, H, none⟩ lim) p ∧ Sat w0 w' [OS tInt 3 pv p] := by
  have hw := Sat.start w0
  refine calls_of_vc (args := [.agg #[a, b, c, d], ev, .int .i64 L]) mixed Tryz.func12 rfl (by kernel_rfl) (Nat.le_of_ble_eq_true rfl) ?_
  refine vc_seq ?_
  refine vc_region ?_
  refine go_box ?_
  clear hw
  intro pt w hw
  replace hw : Sat w0 w [Box pt 26 [a, b, c, d]] := hw
  repeat (first | refine go_run ?_ | (refine go_newP ?_; clear hw; intro p w hw) | (refine go_newWr ?_; clear hw; intro w hw) | (refine go_newS ?_; clear hw; intro s w hw))
  obtain ⟨px, hpx⟩ : ∃ px, px = p := ⟨p, rfl⟩
  subst hpx
  refine st_call rfl (abegin_spec (ht.at hw) hH (he.at hw)) ?_
  rintro _ w' ⟨q, pe, pg, pr, rfl, hk'⟩
  have hex : ∃ Γe, Kept w0 Γe (fun w => REst w pe t H) ∧ Sat w0 w' (Box q 82 [a, b, c, d, .pointer (some pe), .pointer (some pg), .pointer (some pr), .slice none 0 0, .slice none 0 0, .slice none 0 0, .slice none 0 0, .int .i64 0, .bool false, .int .i64 0, .int .i64 0] :: RegH pr t.vars [] [] :: RdH (fun w => RGen w pg t) :: Box px 38 [.int .i64 0, .slice none 0 0, .int .i64 0, .int .i64 0] :: Γe) := by
    rcases hk' with ⟨h1, hk'⟩ | ⟨h1, h2, hk'⟩
    · rcases he with ⟨h3, _⟩ | ⟨pe2, h3, h4⟩
      · rw [h3] at h1; cases h1
      · have e1 : pe2 = pe := by rw [h3] at h1; injection h1 with h1; injection h1
        subst e1
        have h5 : Sat w0 w' [Box q 82 [a, b, c, d, .pointer (some pe2), .pointer (some pg), .pointer (some pr), .slice none 0 0, .slice none 0 0, .slice none 0 0, .slice none 0 0, .int .i64 0, .bool false, .int .i64 0, .int .i64 0], RegH pr t.vars [] [], RdH fun w => RGen w pg t, Box px 38 [.int .i64 0, .slice none 0 0, .int .i64 0, .int .i64 0], Box pt 26 [a, b, c, d]] := hw.call hk'
        exact ⟨[], Kept.of fun w Γ' h => h4.at h, h5.sel⟩
    · have h5 : Sat w0 w' [Box q 82 [a, b, c, d, .pointer (some pe), .pointer (some pg), .pointer (some pr), .slice none 0 0, .slice none 0 0, .slice none 0 0, .slice none 0 0, .int .i64 0, .bool false, .int .i64 0, .int .i64 0], RegH pr t.vars [] [], RdH fun w => RGen w pg t, RdH fun w => REst w pe t H, Box px 38 [.int .i64 0, .slice none 0 0, .int .i64 0, .int .i64 0], Box pt 26 [a, b, c, d]] := hw.call hk'
      exact ⟨[RdH fun w => REst w pe t H], Kept.rd, h5.sel⟩
  clear hw hk'
  obtain ⟨Γe, hKe, hw⟩ := hex
  refine ⟨_, rfl, ?_⟩
  repeat (first | refine go_run ?_ | (refine go_newP ?_; clear hw; intro p w hw) | (refine go_newWr ?_; clear hw; intro w hw) | (refine go_newS ?_; clear hw; intro s w hw))
  refine st_call rfl (arun_spec (A := ⟨t, H, none⟩) hlim hH hL hN (.inl ⟨rfl, rfl⟩) (Kept.of fun w Γ' h => ht.at h) ((hKe.more (Box px 38 [.int .i64 0, .slice none 0 0, .int .i64 0, .int .i64 0])).more _) Kept.rd hw) ?_
  clear hw
  rintro _ w' ⟨pv, p, rfl, hP, hw⟩
  refine ⟨_, rfl, ?_⟩
  have opv := (rsO (s := pv) hw).one
  generalize srchA _ lim = R at hP ⊢
  repeat (first | refine go_run ?_ | (refine go_newP ?_; clear hw; intro p w hw) | (refine go_newS ?_; clear hw; intro s w hw))
  refine st_boxAgg (n := 4) (p := px) (vs := [.int .i64 (vdA R.1), pv, .int .i64 (coL t p), .int .i64 R.2.ex.length]) rfl rfl hw inferInstance rfl rfl (by simp only [List.all_cons, List.all_nil, opv]; rfl) ?_
  clear hw
  intro w hw
  repeat (first | refine go_run ?_ | (refine go_newP ?_; clear hw; intro p w hw) | (refine go_newW ?_; clear hw; intro w hw) | (refine go_newS ?_; clear hw; intro s w hw))
  exact res_cellTmp (p := px) (vs := [.int .i64 (vdA R.1), pv, .int .i64 (coL t p), .int .i64 R.2.ex.length]) rfl rfl rfl rfl (hw.boxR 2 rfl) ⟨pv, p, rfl, hP, hw.only⟩
set_option maxRecDepth 8000 in
set_option maxHeartbeats 8000000 in
theorem aBounded_spec {w0 : World} {a b c d ev : Value} {vs : List OpV} {t : TTask} {H : List Int → Int} {L bd : Int} {lim : Nat} (ht : RTask w0 a b c d vs t) (hH : HOk t H) (he : EstA w0 ev t H) (hlim : lim = L.toNat) (hL : L ≤ 1048576) (hN : prodL t.vars ≤ 512 ∨ 1 + lim * t.ops.length < 65536) :
    Calls Tryz.prog 13 #[.agg #[a, b, c, d], ev, .int .i64 L, .int .i64 bd] w0 fun e w' => ∃ pv p, e = .returned (.tuple #[.agg #[.int .i64 (vdA (srchA ⟨t, H, some bd⟩ lim).1), pv, .int .i64 (coL t p), .int .i64 (srchA ⟨t, H, some bd⟩ lim).2.ex.length], .nilIface]) ∧ PlanR (srchA ⟨t, H, some bd⟩ lim) p ∧ Sat w0 w' [OS tInt 3 pv p] := by
  have hw := Sat.start w0
  refine calls_of_vc (args := [.agg #[a, b, c, d], ev, .int .i64 L, .int .i64 bd]) mixed Tryz.func13 rfl (by kernel_rfl) (Nat.le_of_ble_eq_true rfl) ?_
  refine vc_seq ?_
  refine vc_region ?_
  refine go_box ?_
  clear hw
  intro pt w hw
  replace hw : Sat w0 w [Box pt 26 [a, b, c, d]] := hw
  repeat (first | refine go_run ?_ | (refine go_newP ?_; clear hw; intro p w hw) | (refine go_newWr ?_; clear hw; intro w hw) | (refine go_newS ?_; clear hw; intro s w hw))
  obtain ⟨px, hpx⟩ : ∃ px, px = p := ⟨p, rfl⟩
  subst hpx
  refine st_call rfl (abegin_spec (ht.at hw) hH (he.at hw)) ?_
  rintro _ w' ⟨q, pe, pg, pr, rfl, hk'⟩
  have hex : ∃ Γe, Kept w0 Γe (fun w => REst w pe t H) ∧ Sat w0 w' (Box q 82 [a, b, c, d, .pointer (some pe), .pointer (some pg), .pointer (some pr), .slice none 0 0, .slice none 0 0, .slice none 0 0, .slice none 0 0, .int .i64 0, .bool false, .int .i64 0, .int .i64 0] :: RegH pr t.vars [] [] :: RdH (fun w => RGen w pg t) :: Box px 38 [.int .i64 0, .slice none 0 0, .int .i64 0, .int .i64 0] :: Γe) := by
    rcases hk' with ⟨h1, hk'⟩ | ⟨h1, h2, hk'⟩
    · rcases he with ⟨h3, _⟩ | ⟨pe2, h3, h4⟩
      · rw [h3] at h1; cases h1
      · have e1 : pe2 = pe := by rw [h3] at h1; injection h1 with h1; injection h1
        subst e1
        have h5 : Sat w0 w' [Box q 82 [a, b, c, d, .pointer (some pe2), .pointer (some pg), .pointer (some pr), .slice none 0 0, .slice none 0 0, .slice none 0 0, .slice none 0 0, .int .i64 0, .bool false, .int .i64 0, .int .i64 0], RegH pr t.vars [] [], RdH fun w => RGen w pg t, Box px 38 [.int .i64 0, .slice none 0 0, .int .i64 0, .int .i64 0], Box pt 26 [a, b, c, d]] := hw.call hk'
        exact ⟨[], Kept.of fun w Γ' h => h4.at h, h5.sel⟩
    · have h5 : Sat w0 w' [Box q 82 [a, b, c, d, .pointer (some pe), .pointer (some pg), .pointer (some pr), .slice none 0 0, .slice none 0 0, .slice none 0 0, .slice none 0 0, .int .i64 0, .bool false, .int .i64 0, .int .i64 0], RegH pr t.vars [] [], RdH fun w => RGen w pg t, RdH fun w => REst w pe t H, Box px 38 [.int .i64 0, .slice none 0 0, .int .i64 0, .int .i64 0], Box pt 26 [a, b, c, d]] := hw.call hk'
      exact ⟨[RdH fun w => REst w pe t H], Kept.rd, h5.sel⟩
  clear hw hk'
  obtain ⟨Γe, hKe, hw⟩ := hex
  refine ⟨_, rfl, ?_⟩
  repeat (first | refine go_run ?_ | (refine go_newP ?_; clear hw; intro p w hw) | (refine go_newWr ?_; clear hw; intro w hw) | (refine go_newS ?_; clear hw; intro s w hw))
  simp only [List.set_cons_succ, List.set_cons_zero] at hw
  refine st_call rfl (arun_spec (A := ⟨t, H, some bd⟩) hlim hH hL hN (.inr ⟨bd, rfl, rfl, rfl⟩) (Kept.of fun w Γ' h => ht.at h) ((hKe.more (Box px 38 [.int .i64 0, .slice none 0 0, .int .i64 0, .int .i64 0])).more _) Kept.rd hw) ?_
  clear hw
  rintro _ w' ⟨pv, p, rfl, hP, hw⟩
  refine ⟨_, rfl, ?_⟩
  have opv := (rsO (s := pv) hw).one
  generalize srchA _ lim = R at hP ⊢
  repeat (first | refine go_run ?_ | (refine go_newP ?_; clear hw; intro p w hw) | (refine go_newS ?_; clear hw; intro s w hw))
  refine st_boxAgg (n := 4) (p := px) (vs := [.int .i64 (vdA R.1), pv, .int .i64 (coL t p), .int .i64 R.2.ex.length]) rfl rfl hw inferInstance rfl rfl (by simp only [List.all_cons, List.all_nil, opv]; rfl) ?_
  clear hw
  intro w hw
  repeat (first | refine go_run ?_ | (refine go_newP ?_; clear hw; intro p w hw) | (refine go_newW ?_; clear hw; intro w hw) | (refine go_newS ?_; clear hw; intro s w hw))
  exact res_cellTmp (p := px) (vs := [.int .i64 (vdA R.1), pv, .int .i64 (coL t p), .int .i64 R.2.ex.length]) rfl rfl rfl rfl (hw.boxR 2 rfl) ⟨pv, p, rfl, hP, hw.only⟩
end Go.Proofs.YtegndanecnicaaaGreat
