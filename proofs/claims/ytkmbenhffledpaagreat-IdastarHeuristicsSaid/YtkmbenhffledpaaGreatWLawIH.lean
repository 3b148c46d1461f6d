
/-
  The statement 'IdastarHeuristics' returns true.
-/
import Derived.Test.YtkmbenhffledpaaGreatWIAw
import Derived.Test.YtkmbenhffledpaaGreatMTA
import Derived.Test.YtkmbenhffledpaaGreatWRlxM
import Derived.Test.YtkmbenhffledpaaGreatWLm9
import Derived.Test.YtkmbenhffledpaaGreatTAdm
import Derived.Test.YtkmbenhffledpaaGreatMSlB
set_option linter.unusedSimpArgs false
set_option linter.unusedVariables false
namespace Go.Proofs.YtkmbenhffledpaaGreat
open Go.Sl Go
attribute [local irreducible] vc opsW opsD opV opW PureV ReadV Thn Blk
set_option maxRecDepth 8000 in
set_option maxHeartbeats 8000000 in
theorem IdastarHeuristics_walk {w0 : World} {a b c d : Value} {vs : List OpV} {t : TTask} {kind : Int} (ht : RTask w0 a b c d vs t) (hkd : 0 ≤ kind ∧ kind ≤ 255) :
    Calls Tryz.prog 4 #[.agg #[a, b, c, d], .int .u8 kind] w0 fun e w' => e = .returned (.bool true) ∧ Sat w0 w' [] := by
  have hw := Sat.start w0
  refine calls_of_vc (args := [.agg #[a, b, c, d], .int .u8 kind]) mixed Tryz.func4 rfl (by kernel_rfl) (Nat.le_of_ble_eq_true rfl) ?_
  repeat (first | refine go_run ?_ | (refine go_newP ?_; clear hw; intro p w hw) | (refine go_newWr ?_; clear hw; intro w hw) | (refine go_newS ?_; clear hw; intro s w hw))
  obtain ⟨pt, hpt⟩ : ∃ pt, pt = p := ⟨p, rfl⟩
  subst hpt
  refine st_call rfl (ifits_spec (ht.at hw)) ?_
  rintro _ w' ⟨⟨r, rfl, hr⟩, hk'⟩
  replace hw := hw.call0 hk'
  clear hk'
  refine ⟨_, rfl, ?_⟩
  cases r
  · repeat (first | refine go_run ?_ | (refine go_newP ?_; clear hw; intro p w hw) | (refine go_newWr ?_; clear hw; intro w hw) | (refine go_newS ?_; clear hw; intro s w hw))
    refine st_call rfl iawake_spec ?_
    rintro _ w' ⟨rfl, hk'⟩
    replace hw := hw.call0 hk'
    clear hk'
    refine ⟨_, rfl, ?_⟩
    repeat (first | refine go_run ?_ | (refine go_newP ?_; clear hw; intro p w hw) | (refine go_newWr ?_; clear hw; intro w hw) | (refine go_newS ?_; clear hw; intro s w hw))
    exact res_one (v := .bool true) rfl rfl ⟨rfl, sat_none hw⟩
  obtain ⟨hs, hmy⟩ := hr.1 rfl
  have hg := hs.good
  have hB := hs.many
  have hvl := hg.vars
  have hsl : (statesL t.vars).length = (prodL t.vars).toNat := statesL_len hg.pos
  have hpp := prodL_pos hg.pos
  repeat (first | refine go_run ?_ | (refine go_newP ?_; clear hw; intro p w hw) | (refine go_newWr ?_; clear hw; intro w hw) | (refine go_newS ?_; clear hw; intro s w hw))
  refine st_call rfl iawake_spec ?_
  rintro _ w' ⟨rfl, hk'⟩
  replace hw := hw.call0 hk'
  clear hk'
  refine ⟨_, rfl, ?_⟩
  replace hw : Sat w0 w' [Box pt 26 [a, b, c, d]] := hw
  repeat (first | refine go_run ?_ | (refine go_newP ?_; clear hw; intro p w hw) | (refine go_newWr ?_; clear hw; intro w hw) | (refine go_newS ?_; clear hw; intro s w hw))
  refine step_pure rfl (pv_remK rfl rfl (by decide)) ?_
  have h3 := tmod3 hkd.1
  generalize kind.tmod 3 = m at h3 ⊢
  rcases h3 with rfl | rfl | rfl
  · obtain ⟨H, hHe⟩ : ∃ H, H = blindH t := ⟨_, rfl⟩
    obtain ⟨ev, hev⟩ : ∃ ev, ev = Value.pointer none := ⟨_, rfl⟩
    have hH : HOk t H := by rw [hHe]; exact blind_ok hg
    have hadm : ∀ y q d, Pln t y q d → H y < inf ∧ H y ≤ d := fun y q d hp => by rw [hHe]; exact blind_adm hg hp
    repeat (first | refine go_run ?_ | (refine go_newP ?_; clear hw; intro p w hw) | (refine go_newWr ?_; clear hw; intro w hw) | (refine go_newS ?_; clear hw; intro s w hw))
    have heG : EstG w' ev t H := .inl ⟨hev, hHe⟩
    rw [← hev]
    refine st_call rfl (Search_spec (ev := ev) (L := 20000) (ht.at hw) hH heG (by decide)) ?_
    rintro _ w' ⟨pv, rfl, hk'⟩
    replace hw := hw.call1 hk'
    clear hk'
    refine ⟨_, rfl, ?_⟩
    have opv := (rsO (s := pv) hw).one
    obtain ⟨R, hR⟩ : ∃ R, R = runR t H (20000 : Int).toNat := ⟨_, rfl⟩
    have hRk : RunOk t H 20000 R := by rw [hR]; exact runR_ok hH (by decide)
    rw [← hR] at hw ⊢
    have hlm := hRk.lm
    repeat (first | refine go_run ?_ | (refine go_newP ?_; clear hw; intro p w hw) | (refine go_newS ?_; clear hw; intro s w hw))
    obtain ⟨p7, hp7⟩ : ∃ p7, p7 = p := ⟨p, rfl⟩
    subst hp7
    refine st_boxAgg (n := 4) (p := p7) (vs := [.int .i64 (vdC R.1), pv, .int .i64 (coR t R), .int .i64 R.2.1.exp]) rfl rfl hw inferInstance rfl rfl (by simp only [List.all_cons, List.all_nil, opv]; rfl) ?_
    clear hw
    intro w hw
    have hpl := runR_path (t := t) (H := H) (lim := 20000) (by decide) hH
    rw [show runR t H 20000 = R from hR.symm] at hpl
    cases hvd : R.1 with
    | unknown =>
      have e1 : vdC R.1 = 3 := by rw [hvd]; rfl
      have e2 : plR R = [] := by unfold plR; rw [hvd]
      have e3 : coR t R = 0 := by unfold coR; rw [hvd]
      have e4 := hRk.unk hvd
      rw [e1, e3, e4, e2] at hw
      repeat (first | refine go_run ?_ | (refine go_newP ?_; clear hw; intro p w hw) | (refine go_newWr ?_; clear hw; intro w hw) | (refine go_newS ?_; clear hw; intro s w hw))
      refine vc_plan [.op 0, .op 1, .op 2, .op 3, .op 4, .op 5, .op 6, .op 7, .op 8, .op 9, .op 10, .op 11, .op 12, .chk 9, .chk 10, .op 13, .op 14, .op 15] hw (by kernel_rfl) ?_; clear hw; intro w hw
      repeat (first | refine go_run ?_ | (refine go_newP ?_; clear hw; intro p w hw) | (refine go_newWr ?_; clear hw; intro w hw) | (refine go_newS ?_; clear hw; intro s w hw))
      exact res_one (v := .bool true) rfl rfl ⟨rfl, sat_none hw⟩
    | solved =>
      have e1 : vdC R.1 = 1 := by rw [hvd]; rfl
      have e2 : plR R = R.2.1.path := by unfold plR; rw [hvd]
      have e3 : coR t R = coL t R.2.1.path := by unfold coR; rw [hvd]
      rw [e1, e3, e2] at hw
      repeat (first | refine go_run ?_ | (refine go_newP ?_; clear hw; intro p w hw) | (refine go_newWr ?_; clear hw; intro w hw) | (refine go_newS ?_; clear hw; intro s w hw))
      refine vc_plan [.op 0, .op 1, .op 2, .op 3, .op 4, .op 5, .op 6, .op 7, .op 8, .op 9, .op 10, .op 11, .op 12, .chk 9, .chk 10, .op 13, .op 14, .op 15] hw (by kernel_rfl) ?_; clear hw; intro w hw
      repeat (first | refine go_run ?_ | (refine go_newP ?_; clear hw; intro p w hw) | (refine go_newWr ?_; clear hw; intro w hw) | (refine go_newS ?_; clear hw; intro s w hw))
      refine st_call rfl (Best_spec (ht.at hw) hg hB) ?_
      rintro _ w' ⟨m, rfl, hm, hk'⟩
      replace hw := hw.call0 hk'
      clear hk'
      refine ⟨_, rfl, ?_⟩
      obtain ⟨b1, b2, b3⟩ := run_best hRk hadm hm
      obtain ⟨b4, b5, _⟩ := b1 hvd
      obtain ⟨_, b6⟩ := b4.fin
      repeat (first | refine go_run ?_ | (refine go_newP ?_; clear hw; intro p w hw) | (refine go_newWr ?_; clear hw; intro w hw) | (refine go_newS ?_; clear hw; intro s w hw))
      refine st_call rfl (Result_spec (pv := pv) (p := R.2.1.path) (vd := 1) (co := coL t R.2.1.path) (ex := R.2.1.exp) (best := m) (ht.at hw) hg (rsO (s := pv) hw) (by omega) (.inr ⟨b5, rfl, b4, b6.symm⟩)) ?_
      rintro _ w' ⟨rfl, hk'⟩
      replace hw := hw.call0 hk'
      clear hk'
      refine ⟨_, rfl, ?_⟩
      repeat (first | refine go_run ?_ | (refine go_newP ?_; clear hw; intro p w hw) | (refine go_newWr ?_; clear hw; intro w hw) | (refine go_newS ?_; clear hw; intro s w hw))
      exact res_one (v := .bool true) rfl rfl ⟨rfl, sat_none hw⟩
    | goOn =>
      have e1 : vdC R.1 = 2 := by rw [hvd]; rfl
      have e2 : plR R = [] := by unfold plR; rw [hvd]
      have e3 : coR t R = 0 := by unfold coR; rw [hvd]
      rw [e1, e3, e2] at hw
      repeat (first | refine go_run ?_ | (refine go_newP ?_; clear hw; intro p w hw) | (refine go_newWr ?_; clear hw; intro w hw) | (refine go_newS ?_; clear hw; intro s w hw))
      refine vc_plan [.op 0, .op 1, .op 2, .op 3, .op 4, .op 5, .op 6, .op 7, .op 8, .op 9, .op 10, .op 11, .op 12, .chk 9, .chk 10, .op 13, .op 14, .op 15] hw (by kernel_rfl) ?_; clear hw; intro w hw
      repeat (first | refine go_run ?_ | (refine go_newP ?_; clear hw; intro p w hw) | (refine go_newWr ?_; clear hw; intro w hw) | (refine go_newS ?_; clear hw; intro s w hw))
      refine st_call rfl (Best_spec (ht.at hw) hg hB) ?_
      rintro _ w' ⟨m, rfl, hm, hk'⟩
      replace hw := hw.call0 hk'
      clear hk'
      refine ⟨_, rfl, ?_⟩
      obtain ⟨b1, b2, b3⟩ := run_best hRk hadm hm
      have b7 := b2 hvd
      repeat (first | refine go_run ?_ | (refine go_newP ?_; clear hw; intro p w hw) | (refine go_newWr ?_; clear hw; intro w hw) | (refine go_newS ?_; clear hw; intro s w hw))
      refine st_call rfl (Result_spec (pv := pv) (p := []) (vd := 2) (co := 0) (ex := R.2.1.exp) (best := m) (ht.at hw) hg (rsO (s := pv) hw) (by decide) (.inl ⟨by omega, rfl, rfl, rfl⟩)) ?_
      rintro _ w' ⟨rfl, hk'⟩
      replace hw := hw.call0 hk'
      clear hk'
      refine ⟨_, rfl, ?_⟩
      repeat (first | refine go_run ?_ | (refine go_newP ?_; clear hw; intro p w hw) | (refine go_newWr ?_; clear hw; intro w hw) | (refine go_newS ?_; clear hw; intro s w hw))
      exact res_one (v := .bool true) rfl rfl ⟨rfl, sat_none hw⟩
  · repeat (first | refine go_run ?_ | (refine go_newP ?_; clear hw; intro p w hw) | (refine go_newWr ?_; clear hw; intro w hw) | (refine go_newS ?_; clear hw; intro s w hw))
    refine st_call rfl (HMax_spec (ht.at hw) hg) ?_
    rintro _ w' ⟨pe, rfl, hk'⟩
    replace hw := hw.call1 hk'
    clear hk'
    refine ⟨_, rfl, ?_⟩
    obtain ⟨H, hHe⟩ : ∃ H, H = hmaxH t := ⟨_, rfl⟩
    obtain ⟨ev, hev⟩ : ∃ ev, ev = Value.pointer (some pe) := ⟨_, rfl⟩
    rw [← hHe] at hw
    have hH : HOk t H := by rw [hHe]; exact hmax_ok hg
    have hadm : ∀ y q d, Pln t y q d → H y < inf ∧ H y ≤ d := fun y q d hp => by rw [hHe]; exact hmax_adm2 hg hp
    repeat (first | refine go_run ?_ | (refine go_newP ?_; clear hw; intro p w hw) | (refine go_newWr ?_; clear hw; intro w hw) | (refine go_newS ?_; clear hw; intro s w hw))
    have heG : EstG w' ev t H := .inr ⟨pe, hev, hw.rdE 0 rfl⟩
    rw [← hev]
    refine st_call rfl (Search_spec (ev := ev) (L := 20000) (ht.at hw) hH heG (by decide)) ?_
    rintro _ w' ⟨pv, rfl, hk'⟩
    replace hw := hw.call1 hk'
    clear hk'
    refine ⟨_, rfl, ?_⟩
    have opv := (rsO (s := pv) hw).one
    obtain ⟨R, hR⟩ : ∃ R, R = runR t H (20000 : Int).toNat := ⟨_, rfl⟩
    have hRk : RunOk t H 20000 R := by rw [hR]; exact runR_ok hH (by decide)
    rw [← hR] at hw ⊢
    have hlm := hRk.lm
    repeat (first | refine go_run ?_ | (refine go_newP ?_; clear hw; intro p w hw) | (refine go_newS ?_; clear hw; intro s w hw))
    obtain ⟨p7, hp7⟩ : ∃ p7, p7 = p := ⟨p, rfl⟩
    subst hp7
    refine st_boxAgg (n := 4) (p := p7) (vs := [.int .i64 (vdC R.1), pv, .int .i64 (coR t R), .int .i64 R.2.1.exp]) rfl rfl hw inferInstance rfl rfl (by simp only [List.all_cons, List.all_nil, opv]; rfl) ?_
    clear hw
    intro w hw
    have hpl := runR_path (t := t) (H := H) (lim := 20000) (by decide) hH
    rw [show runR t H 20000 = R from hR.symm] at hpl
    cases hvd : R.1 with
    | unknown =>
      have e1 : vdC R.1 = 3 := by rw [hvd]; rfl
      have e2 : plR R = [] := by unfold plR; rw [hvd]
      have e3 : coR t R = 0 := by unfold coR; rw [hvd]
      have e4 := hRk.unk hvd
      rw [e1, e3, e4, e2] at hw
      repeat (first | refine go_run ?_ | (refine go_newP ?_; clear hw; intro p w hw) | (refine go_newWr ?_; clear hw; intro w hw) | (refine go_newS ?_; clear hw; intro s w hw))
      refine vc_plan [.op 0, .op 1, .op 2, .op 3, .op 4, .op 5, .op 6, .op 7, .op 8, .op 9, .op 10, .op 11, .op 12, .chk 9, .chk 10, .op 13, .op 14, .op 15] hw (by kernel_rfl) ?_; clear hw; intro w hw
      repeat (first | refine go_run ?_ | (refine go_newP ?_; clear hw; intro p w hw) | (refine go_newWr ?_; clear hw; intro w hw) | (refine go_newS ?_; clear hw; intro s w hw))
      exact res_one (v := .bool true) rfl rfl ⟨rfl, sat_none hw⟩
    | solved =>
      have e1 : vdC R.1 = 1 := by rw [hvd]; rfl
      have e2 : plR R = R.2.1.path := by unfold plR; rw [hvd]
      have e3 : coR t R = coL t R.2.1.path := by unfold coR; rw [hvd]
      rw [e1, e3, e2] at hw
      repeat (first | refine go_run ?_ | (refine go_newP ?_; clear hw; intro p w hw) | (refine go_newWr ?_; clear hw; intro w hw) | (refine go_newS ?_; clear hw; intro s w hw))
      refine vc_plan [.op 0, .op 1, .op 2, .op 3, .op 4, .op 5, .op 6, .op 7, .op 8, .op 9, .op 10, .op 11, .op 12, .chk 9, .chk 10, .op 13, .op 14, .op 15] hw (by kernel_rfl) ?_; clear hw; intro w hw
      repeat (first | refine go_run ?_ | (refine go_newP ?_; clear hw; intro p w hw) | (refine go_newWr ?_; clear hw; intro w hw) | (refine go_newS ?_; clear hw; intro s w hw))
      refine st_call rfl (Best_spec (ht.at hw) hg hB) ?_
      rintro _ w' ⟨m, rfl, hm, hk'⟩
      replace hw := hw.call0 hk'
      clear hk'
      refine ⟨_, rfl, ?_⟩
      obtain ⟨b1, b2, b3⟩ := run_best hRk hadm hm
      obtain ⟨b4, b5, _⟩ := b1 hvd
      obtain ⟨_, b6⟩ := b4.fin
      repeat (first | refine go_run ?_ | (refine go_newP ?_; clear hw; intro p w hw) | (refine go_newWr ?_; clear hw; intro w hw) | (refine go_newS ?_; clear hw; intro s w hw))
      refine st_call rfl (Result_spec (pv := pv) (p := R.2.1.path) (vd := 1) (co := coL t R.2.1.path) (ex := R.2.1.exp) (best := m) (ht.at hw) hg (rsO (s := pv) hw) (by omega) (.inr ⟨b5, rfl, b4, b6.symm⟩)) ?_
      rintro _ w' ⟨rfl, hk'⟩
      replace hw := hw.call0 hk'
      clear hk'
      refine ⟨_, rfl, ?_⟩
      repeat (first | refine go_run ?_ | (refine go_newP ?_; clear hw; intro p w hw) | (refine go_newWr ?_; clear hw; intro w hw) | (refine go_newS ?_; clear hw; intro s w hw))
      exact res_one (v := .bool true) rfl rfl ⟨rfl, sat_none hw⟩
    | goOn =>
      have e1 : vdC R.1 = 2 := by rw [hvd]; rfl
      have e2 : plR R = [] := by unfold plR; rw [hvd]
      have e3 : coR t R = 0 := by unfold coR; rw [hvd]
      rw [e1, e3, e2] at hw
      repeat (first | refine go_run ?_ | (refine go_newP ?_; clear hw; intro p w hw) | (refine go_newWr ?_; clear hw; intro w hw) | (refine go_newS ?_; clear hw; intro s w hw))
      refine vc_plan [.op 0, .op 1, .op 2, .op 3, .op 4, .op 5, .op 6, .op 7, .op 8, .op 9, .op 10, .op 11, .op 12, .chk 9, .chk 10, .op 13, .op 14, .op 15] hw (by kernel_rfl) ?_; clear hw; intro w hw
      repeat (first | refine go_run ?_ | (refine go_newP ?_; clear hw; intro p w hw) | (refine go_newWr ?_; clear hw; intro w hw) | (refine go_newS ?_; clear hw; intro s w hw))
      refine st_call rfl (Best_spec (ht.at hw) hg hB) ?_
      rintro _ w' ⟨m, rfl, hm, hk'⟩
      replace hw := hw.call0 hk'
      clear hk'
      refine ⟨_, rfl, ?_⟩
      obtain ⟨b1, b2, b3⟩ := run_best hRk hadm hm
      have b7 := b2 hvd
      repeat (first | refine go_run ?_ | (refine go_newP ?_; clear hw; intro p w hw) | (refine go_newWr ?_; clear hw; intro w hw) | (refine go_newS ?_; clear hw; intro s w hw))
      refine st_call rfl (Result_spec (pv := pv) (p := []) (vd := 2) (co := 0) (ex := R.2.1.exp) (best := m) (ht.at hw) hg (rsO (s := pv) hw) (by decide) (.inl ⟨by omega, rfl, rfl, rfl⟩)) ?_
      rintro _ w' ⟨rfl, hk'⟩
      replace hw := hw.call0 hk'
      clear hk'
      refine ⟨_, rfl, ?_⟩
      repeat (first | refine go_run ?_ | (refine go_newP ?_; clear hw; intro p w hw) | (refine go_newWr ?_; clear hw; intro w hw) | (refine go_newS ?_; clear hw; intro s w hw))
      exact res_one (v := .bool true) rfl rfl ⟨rfl, sat_none hw⟩
  · repeat (first | refine go_run ?_ | (refine go_newP ?_; clear hw; intro p w hw) | (refine go_newWr ?_; clear hw; intro w hw) | (refine go_newS ?_; clear hw; intro s w hw))
    refine st_call rfl (Cut_spec (ht.at hw) hg) ?_
    rintro _ w' ⟨pe, rfl, hk'⟩
    replace hw := hw.call1 hk'
    clear hk'
    refine ⟨_, rfl, ?_⟩
    obtain ⟨H, hHe⟩ : ∃ H, H = lmH t := ⟨_, rfl⟩
    obtain ⟨ev, hev⟩ : ∃ ev, ev = Value.pointer (some pe) := ⟨_, rfl⟩
    rw [← hHe] at hw
    have hH : HOk t H := by rw [hHe]; exact lm_ok hg
    have hadm : ∀ y q d, Pln t y q d → H y < inf ∧ H y ≤ d := fun y q d hp => by rw [hHe]; exact lm_adm hg hp
    repeat (first | refine go_run ?_ | (refine go_newP ?_; clear hw; intro p w hw) | (refine go_newWr ?_; clear hw; intro w hw) | (refine go_newS ?_; clear hw; intro s w hw))
    have heG : EstG w' ev t H := .inr ⟨pe, hev, hw.rdE 0 rfl⟩
    rw [← hev]
    refine st_call rfl (Search_spec (ev := ev) (L := 20000) (ht.at hw) hH heG (by decide)) ?_
    rintro _ w' ⟨pv, rfl, hk'⟩
    replace hw := hw.call1 hk'
    clear hk'
    refine ⟨_, rfl, ?_⟩
    have opv := (rsO (s := pv) hw).one
    obtain ⟨R, hR⟩ : ∃ R, R = runR t H (20000 : Int).toNat := ⟨_, rfl⟩
    have hRk : RunOk t H 20000 R := by rw [hR]; exact runR_ok hH (by decide)
    rw [← hR] at hw ⊢
    have hlm := hRk.lm
    repeat (first | refine go_run ?_ | (refine go_newP ?_; clear hw; intro p w hw) | (refine go_newS ?_; clear hw; intro s w hw))
    obtain ⟨p7, hp7⟩ : ∃ p7, p7 = p := ⟨p, rfl⟩
    subst hp7
    refine st_boxAgg (n := 4) (p := p7) (vs := [.int .i64 (vdC R.1), pv, .int .i64 (coR t R), .int .i64 R.2.1.exp]) rfl rfl hw inferInstance rfl rfl (by simp only [List.all_cons, List.all_nil, opv]; rfl) ?_
    clear hw
    intro w hw
    have hpl := runR_path (t := t) (H := H) (lim := 20000) (by decide) hH
    rw [show runR t H 20000 = R from hR.symm] at hpl
    cases hvd : R.1 with
    | unknown =>
      have e1 : vdC R.1 = 3 := by rw [hvd]; rfl
      have e2 : plR R = [] := by unfold plR; rw [hvd]
      have e3 : coR t R = 0 := by unfold coR; rw [hvd]
      have e4 := hRk.unk hvd
      rw [e1, e3, e4, e2] at hw
      repeat (first | refine go_run ?_ | (refine go_newP ?_; clear hw; intro p w hw) | (refine go_newWr ?_; clear hw; intro w hw) | (refine go_newS ?_; clear hw; intro s w hw))
      refine vc_plan [.op 0, .op 1, .op 2, .op 3, .op 4, .op 5, .op 6, .op 7, .op 8, .op 9, .op 10, .op 11, .op 12, .chk 9, .chk 10, .op 13, .op 14, .op 15] hw (by kernel_rfl) ?_; clear hw; intro w hw
      repeat (first | refine go_run ?_ | (refine go_newP ?_; clear hw; intro p w hw) | (refine go_newWr ?_; clear hw; intro w hw) | (refine go_newS ?_; clear hw; intro s w hw))
      exact res_one (v := .bool true) rfl rfl ⟨rfl, sat_none hw⟩
    | solved =>
      have e1 : vdC R.1 = 1 := by rw [hvd]; rfl
      have e2 : plR R = R.2.1.path := by unfold plR; rw [hvd]
      have e3 : coR t R = coL t R.2.1.path := by unfold coR; rw [hvd]
      rw [e1, e3, e2] at hw
      repeat (first | refine go_run ?_ | (refine go_newP ?_; clear hw; intro p w hw) | (refine go_newWr ?_; clear hw; intro w hw) | (refine go_newS ?_; clear hw; intro s w hw))
      refine vc_plan [.op 0, .op 1, .op 2, .op 3, .op 4, .op 5, .op 6, .op 7, .op 8, .op 9, .op 10, .op 11, .op 12, .chk 9, .chk 10, .op 13, .op 14, .op 15] hw (by kernel_rfl) ?_; clear hw; intro w hw
      repeat (first | refine go_run ?_ | (refine go_newP ?_; clear hw; intro p w hw) | (refine go_newWr ?_; clear hw; intro w hw) | (refine go_newS ?_; clear hw; intro s w hw))
      refine st_call rfl (Best_spec (ht.at hw) hg hB) ?_
      rintro _ w' ⟨m, rfl, hm, hk'⟩
      replace hw := hw.call0 hk'
      clear hk'
      refine ⟨_, rfl, ?_⟩
      obtain ⟨b1, b2, b3⟩ := run_best hRk hadm hm
      obtain ⟨b4, b5, _⟩ := b1 hvd
      obtain ⟨_, b6⟩ := b4.fin
      repeat (first | refine go_run ?_ | (refine go_newP ?_; clear hw; intro p w hw) | (refine go_newWr ?_; clear hw; intro w hw) | (refine go_newS ?_; clear hw; intro s w hw))
      refine st_call rfl (Result_spec (pv := pv) (p := R.2.1.path) (vd := 1) (co := coL t R.2.1.path) (ex := R.2.1.exp) (best := m) (ht.at hw) hg (rsO (s := pv) hw) (by omega) (.inr ⟨b5, rfl, b4, b6.symm⟩)) ?_
      rintro _ w' ⟨rfl, hk'⟩
      replace hw := hw.call0 hk'
      clear hk'
      refine ⟨_, rfl, ?_⟩
      repeat (first | refine go_run ?_ | (refine go_newP ?_; clear hw; intro p w hw) | (refine go_newWr ?_; clear hw; intro w hw) | (refine go_newS ?_; clear hw; intro s w hw))
      exact res_one (v := .bool true) rfl rfl ⟨rfl, sat_none hw⟩
    | goOn =>
      have e1 : vdC R.1 = 2 := by rw [hvd]; rfl
      have e2 : plR R = [] := by unfold plR; rw [hvd]
      have e3 : coR t R = 0 := by unfold coR; rw [hvd]
      rw [e1, e3, e2] at hw
      repeat (first | refine go_run ?_ | (refine go_newP ?_; clear hw; intro p w hw) | (refine go_newWr ?_; clear hw; intro w hw) | (refine go_newS ?_; clear hw; intro s w hw))
      refine vc_plan [.op 0, .op 1, .op 2, .op 3, .op 4, .op 5, .op 6, .op 7, .op 8, .op 9, .op 10, .op 11, .op 12, .chk 9, .chk 10, .op 13, .op 14, .op 15] hw (by kernel_rfl) ?_; clear hw; intro w hw
      repeat (first | refine go_run ?_ | (refine go_newP ?_; clear hw; intro p w hw) | (refine go_newWr ?_; clear hw; intro w hw) | (refine go_newS ?_; clear hw; intro s w hw))
      refine st_call rfl (Best_spec (ht.at hw) hg hB) ?_
      rintro _ w' ⟨m, rfl, hm, hk'⟩
      replace hw := hw.call0 hk'
      clear hk'
      refine ⟨_, rfl, ?_⟩
      obtain ⟨b1, b2, b3⟩ := run_best hRk hadm hm
      have b7 := b2 hvd
      repeat (first | refine go_run ?_ | (refine go_newP ?_; clear hw; intro p w hw) | (refine go_newWr ?_; clear hw; intro w hw) | (refine go_newS ?_; clear hw; intro s w hw))
      refine st_call rfl (Result_spec (pv := pv) (p := []) (vd := 2) (co := 0) (ex := R.2.1.exp) (best := m) (ht.at hw) hg (rsO (s := pv) hw) (by decide) (.inl ⟨by omega, rfl, rfl, rfl⟩)) ?_
      rintro _ w' ⟨rfl, hk'⟩
      replace hw := hw.call0 hk'
      clear hk'
      refine ⟨_, rfl, ?_⟩
      repeat (first | refine go_run ?_ | (refine go_newP ?_; clear hw; intro p w hw) | (refine go_newWr ?_; clear hw; intro w hw) | (refine go_newS ?_; clear hw; intro s w hw))
      exact res_one (v := .bool true) rfl rfl ⟨rfl, sat_none hw⟩
end Go.Proofs.YtkmbenhffledpaaGreat
