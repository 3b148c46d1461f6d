
/-
  The statement 'IdastarBounds' returns true.
-/
import Derived.Test.YtgbijampdkahjaaWIAw
import Derived.Test.YtgbijampdkahjaaMTA
set_option linter.unusedSimpArgs false
set_option linter.unusedVariables false
namespace Go.Proofs.Ytgbijampdkahjaa
open Go.Sl Go
attribute [local irreducible] vc opsW opsD opV opW PureV ReadV Thn Blk
theorem is_nil {w : World} (d : Int) : Calls Try.prog 18 #[.nilIface, .int .i64 d] w fun e w' => e = .returned (.bool false) ∧ Sat w w' [] := by
  have h := Is_spec (w0 := w) 0 d
  rw [errV_zero rfl] at h
  refine Calls.mono h fun e w' hh => ⟨?_, hh.2⟩
  rw [hh.1]
  simp
theorem is_ten {w : World} : Calls Try.prog 18 #[errV 10, .int .i64 10] w fun e w' => e = .returned (.bool true) ∧ Sat w w' [] := by
  have h := Is_spec (w0 := w) 10 10
  refine Calls.mono h fun e w' hh => ⟨?_, hh.2⟩
  rw [hh.1]
  simp
theorem pw_at {L : List Int} (h : L.Pairwise (· < ·)) {k : Nat} (hk : k + 1 < L.length) : L.getD k tInt.dflt < L.getD (k + 1) tInt.dflt := by
  rw [getD_at hk, getD_at (by omega)]
  exact List.pairwise_iff_getElem.1 h k (k + 1) (by omega) hk (by omega)
set_option maxRecDepth 8000 in
set_option maxHeartbeats 8000000 in
theorem IdastarBounds_walk {w0 : World} {a b c d lv : Value} {vs : List OpV} {t : TTask} {less : List Int} (ht : RTask w0 a b c d vs t) (hl : RS tU8 w0 lv less) (hrl : ∀ x ∈ less, 0 ≤ x ∧ x ≤ 255) :
    Calls Try.prog 6 #[.agg #[a, b, c, d], lv] w0 fun e w' => e = .returned (.bool true) ∧ Sat w0 w' [] := by
  have hlb := hl.big
  have hw := Sat.start w0
  refine calls_of_vc (args := [.agg #[a, b, c, d], lv]) mixed Try.func6 rfl (by kernel_rfl) (Nat.le_of_ble_eq_true rfl) ?_
  repeat (first | refine go_run ?_ | (refine go_newP ?_; clear hw; intro p w hw) | (refine go_newWr ?_; clear hw; intro w hw) | (refine go_newS ?_; clear hw; intro s w hw))
  obtain ⟨pt, hpt⟩ : ∃ pt, pt = p := ⟨p, rfl⟩
  subst hpt
  refine st_call rfl (ifits_spec (ht.at hw)) ?_
  rintro _ w' ⟨⟨r, rfl, hr⟩, hk'⟩
  replace hw := hw.call0 hk'
  clear hk'
  refine ⟨_, rfl, ?_⟩
  cases r
  · repeat (first | refine go_run ?_ | (refine go_newP ?_; clear hw; intro p w hw) | (refine go_newWr ?_; clear hw; intro w hw) | (refine go_newS ?_; clear hw; intro s w hw))
    refine st_call rfl iawake_spec ?_
    rintro _ w' ⟨rfl, hk'⟩
    replace hw := hw.call0 hk'
    clear hk'
    refine ⟨_, rfl, ?_⟩
    repeat (first | refine go_run ?_ | (refine go_newP ?_; clear hw; intro p w hw) | (refine go_newWr ?_; clear hw; intro w hw) | (refine go_newS ?_; clear hw; intro s w hw))
    exact res_one (v := .bool true) rfl rfl ⟨rfl, sat_none hw⟩
  obtain ⟨hs, hmy⟩ := hr.1 rfl
  have hg := hs.good
  have hB := hs.many
  have hvl := hg.vars
  have hsl : (statesL t.vars).length = (prodL t.vars).toNat := statesL_len hg.pos
  have hpp := prodL_pos hg.pos
  by_cases h200 : (200 : Int) < (less.length : Int)
  · have hd : decide ((200 : Int) < (less.length : Int)) = true := decide_eq_true h200
    repeat (first | refine go_run ?_ | (refine go_newP ?_; clear hw; intro p w hw) | (refine go_newWr ?_; clear hw; intro w hw) | (refine go_newS ?_; clear hw; intro s w hw))
    simp only [hd, beq_self_eq_true, beq_tfI, beq_ftI, Bool.false_and, Bool.true_and, Bool.not_true, Bool.not_false, Bool.cond_true, Bool.cond_false, gv_fI, gv_tI]
    repeat (first | refine go_run ?_ | (refine go_newP ?_; clear hw; intro p w hw) | (refine go_newWr ?_; clear hw; intro w hw) | (refine go_newS ?_; clear hw; intro s w hw))
    refine st_call rfl iawake_spec ?_
    rintro _ w' ⟨rfl, hk'⟩
    replace hw := hw.call0 hk'
    clear hk'
    refine ⟨_, rfl, ?_⟩
    repeat (first | refine go_run ?_ | (refine go_newP ?_; clear hw; intro p w hw) | (refine go_newWr ?_; clear hw; intro w hw) | (refine go_newS ?_; clear hw; intro s w hw))
    exact res_one (v := .bool true) rfl rfl ⟨rfl, sat_none hw⟩
  have hd : decide ((200 : Int) < (less.length : Int)) = false := decide_eq_false h200
  repeat (first | refine go_run ?_ | (refine go_newP ?_; clear hw; intro p w hw) | (refine go_newWr ?_; clear hw; intro w hw) | (refine go_newS ?_; clear hw; intro s w hw))
  simp only [hd, beq_self_eq_true, beq_tfI, beq_ftI, Bool.false_and, Bool.true_and, Bool.not_true, Bool.not_false, Bool.cond_true, Bool.cond_false, gv_fI, gv_tI]
  repeat (first | refine go_run ?_ | (refine go_newP ?_; clear hw; intro p w hw) | (refine go_newWr ?_; clear hw; intro w hw) | (refine go_newS ?_; clear hw; intro s w hw))
  refine st_call rfl iawake_spec ?_
  rintro _ w' ⟨rfl, hk'⟩
  replace hw := hw.call0 hk'
  clear hk'
  refine ⟨_, rfl, ?_⟩
  replace hw : Sat w0 w' [Box pt 26 [a, b, c, d]] := hw
  repeat (first | refine go_run ?_ | (refine go_newP ?_; clear hw; intro p w hw) | (refine go_newWr ?_; clear hw; intro w hw) | (refine go_newS ?_; clear hw; intro s w hw))
  refine vc_plan [.op 0, .op 1, .op 2, .op 3, .chk 0, .op 4, .op 5, .op 6, .op 7, .op 8, .op 9] hw (by kernel_rfl) ?_; clear hw; intro w hw
  repeat (first | refine go_run ?_ | (refine go_newP ?_; clear hw; intro p w hw) | (refine go_newWr ?_; clear hw; intro w hw) | (refine go_newS ?_; clear hw; intro s w hw))
  refine st_call rfl (below_spec (ht.at hw) hg hB (hl.at hw) hrl) ?_
  rintro _ w' ⟨sv, D, rfl, hD, hk'⟩
  replace hw := hw.call1 hk'
  clear hk'
  refine ⟨_, rfl, ?_⟩
  obtain ⟨q1, q2, q3, q4⟩ := below_ok hg (by omega) hD hrl
  have htT : tErr t (belowL D less) = 0 := by
    unfold tErr
    rw [if_neg (by rw [q1]; omega), if_neg (fun ⟨x, hx, h⟩ => by have := q2 x hx; omega)]
  have hH := tab_ok hg q1 q2
  have hadm := tab_adm hg (by omega) hD q4
  repeat (first | refine go_run ?_ | (refine go_newP ?_; clear hw; intro p w hw) | (refine go_newWr ?_; clear hw; intro w hw) | (refine go_newS ?_; clear hw; intro s w hw))
  refine st_call rfl (eTable_spec (ht.at hw) hg (rsO (s := sv) hw) (by omega)) ?_
  rintro _ w' (⟨h1, _⟩ | ⟨_, pe, rfl, hk'⟩)
  · exact absurd htT h1
  replace hw := hw.call1 hk'
  clear hk'
  refine ⟨_, rfl, ?_⟩
  repeat (first | refine go_run ?_ | (refine go_newP ?_; clear hw; intro p w hw) | (refine go_newWr ?_; clear hw; intro w hw) | (refine go_newS ?_; clear hw; intro s w hw))
  refine st_call rfl (Rounds_spec (ev := .pointer (some pe)) (L := 20000) (ht.at hw) hH (.inr ⟨pe, rfl, hw.rdE 0 rfl⟩) (by decide)) ?_
  rintro _ w' (⟨h1, rfl, hk'⟩ | ⟨h1, bv, rfl, hk'⟩)
  · replace hw := hw.call0 hk'
    clear hk'
    refine ⟨_, rfl, ?_⟩
    repeat (first | refine go_run ?_ | (refine go_newP ?_; clear hw; intro p w hw) | (refine go_newWr ?_; clear hw; intro w hw) | (refine go_newS ?_; clear hw; intro s w hw))
    refine st_call rfl is_ten ?_
    rintro _ w' ⟨rfl, hk'⟩
    replace hw := hw.call0 hk'
    clear hk'
    refine ⟨_, rfl, ?_⟩
    repeat (first | refine go_run ?_ | (refine go_newP ?_; clear hw; intro p w hw) | (refine go_newWr ?_; clear hw; intro w hw) | (refine go_newS ?_; clear hw; intro s w hw))
    exact res_one (v := .bool true) rfl rfl ⟨rfl, sat_none hw⟩
  replace hw := hw.call1 hk'
  clear hk'
  refine ⟨_, rfl, ?_⟩
  obtain ⟨R, hR⟩ : ∃ R, R = runR t (tabH t (belowL D less)) (20000 : Int).toNat := ⟨_, rfl⟩
  have hRk : RunOk t (tabH t (belowL D less)) 20000 R := by rw [hR]; exact runR_ok hH (by decide)
  have hrg := runR_rng (lim := 20000) hH (by decide) (M := 536870912) (by decide) (tabH_small hg q1 (by decide) q3)
  rw [show runR t (tabH t (belowL D less)) 20000 = R from hR.symm] at hrg
  rw [← hR] at hw h1
  obtain ⟨L, hL⟩ : ∃ L, L = R.2.2 := ⟨_, rfl⟩
  rw [← hL] at hw hrg
  have hasc := hRk.asc
  rw [← hL] at hasc
  have obv := (rsO (s := bv) hw).big
  repeat (first | refine go_run ?_ | (refine go_newP ?_; clear hw; intro p w hw) | (refine go_newWr ?_; clear hw; intro w hw) | (refine go_newS ?_; clear hw; intro s w hw))
  refine st_call rfl (is_nil 10) ?_
  rintro _ w' ⟨rfl, hk'⟩
  replace hw := hw.call0 hk'
  clear hk'
  refine ⟨_, rfl, ?_⟩
  repeat (first | refine go_run ?_ | (refine go_newP ?_; clear hw; intro p w hw) | (refine go_newWr ?_; clear hw; intro w hw) | (refine go_newS ?_; clear hw; intro s w hw))
  refine st_call rfl (Best_spec (ht.at hw) hg hB) ?_
  rintro _ w' ⟨m, rfl, hm, hk'⟩
  replace hw : Sat w0 w' [OS tInt 3 bv L] := (hw.call0 hk').sel
  clear hk'
  refine ⟨_, rfl, ?_⟩
  obtain ⟨b1, b2, b3⟩ := run_best hRk hadm hm
  rw [← hL] at b1 b3
  have e2 : inf = 1125899906842624 := rfl
  have hle : ∀ x ∈ L, x ≤ m := fun x hx => by
    by_cases h : m < inf
    · exact b3 x hx h
    · have h2 := hrg x hx
      omega
  repeat (first | refine go_run ?_ | (refine go_newP ?_; clear hw; intro p w hw) | (refine go_newWr ?_; clear hw; intro w hw) | (refine go_newS ?_; clear hw; intro s w hw))
  refine vc_loop [4, 9, 10, 48, 49, 50, 51, 52, 53, 54, 55, 56, 57, 58, 59, 60, 61, 62, 63, 64, 65, 66, 67, 68, 69] (G := Nat) (fun k => [(48, .int .i64 k)]) (fun k w => k ≤ L.length ∧ Sat w0 w [OS tInt 3 bv L]) (fun k => L.length - k) 0 (fun _ => rfl) ⟨rfl, trivial⟩ ⟨Nat.zero_le _, hw⟩ ?_
  clear hw
  rintro σ k w ⟨hk, hw⟩
  repeat (first | refine go_run ?_ | (refine go_newP ?_; clear hw; intro p w hw) | (refine go_newW ?_; clear hw; intro w hw) | (refine go_newS ?_; clear hw; intro s w hw))
  refine go_if (fun h2 => ?_) (fun h2 => ?_)
  · have hkl : k < L.length := by omega
    have h3 := hle _ (mem_getD tInt.dflt hkl)
    have hd1 : decide (m < L.getD k tInt.dflt) = false := decide_eq_false (by omega)
    by_cases h4 : 0 < k
    · have hd2 : decide ((0 : Int) < (k : Int)) = true := decide_eq_true (by omega)
      have h5 := pw_at hasc (k := k - 1) (by omega)
      rw [show k - 1 + 1 = k by omega] at h5
      have h6 : ((k : Int) - 1).toNat = k - 1 := by omega
      have hd3 : decide (L.getD k tInt.dflt ≤ L.getD (k - 1) tInt.dflt) = false := decide_eq_false (by omega)
      repeat (first | refine go_run ?_ | (refine go_newP ?_; clear hw; intro p w hw) | (refine go_newWr ?_; clear hw; intro w hw) | (refine go_newS ?_; clear hw; intro s w hw))
      simp only [hd1, hd2, beq_self_eq_true, beq_tfI, beq_ftI, Bool.false_and, Bool.true_and, Bool.not_true, Bool.not_false, Bool.cond_true, Bool.cond_false, gv_fI, gv_tI]
      repeat (first | refine go_run ?_ | (refine go_newP ?_; clear hw; intro p w hw) | (refine go_newWr ?_; clear hw; intro w hw) | (refine go_newS ?_; clear hw; intro s w hw))
      rw [h6]
      simp only [hd3, beq_self_eq_true, beq_tfI, beq_ftI, Bool.false_and, Bool.true_and, Bool.not_true, Bool.not_false, Bool.cond_true, Bool.cond_false, gv_fI, gv_tI]
      repeat (first | refine go_run ?_ | (refine go_newP ?_; clear hw; intro p w hw) | (refine go_newWr ?_; clear hw; intro w hw) | (refine go_newS ?_; clear hw; intro s w hw))
      exact ⟨k + 1, ⟨rfl, trivial⟩, by repeat (first | exact agree_refl | (apply agree_upd rfl) | (apply agree_mix rfl) | (apply agree_sets rfl)), ⟨by omega, hw⟩, by omega⟩
    · have hd2 : decide ((0 : Int) < (k : Int)) = false := decide_eq_false (by omega)
      repeat (first | refine go_run ?_ | (refine go_newP ?_; clear hw; intro p w hw) | (refine go_newWr ?_; clear hw; intro w hw) | (refine go_newS ?_; clear hw; intro s w hw))
      simp only [hd1, hd2, beq_self_eq_true, beq_tfI, beq_ftI, Bool.false_and, Bool.true_and, Bool.not_true, Bool.not_false, Bool.cond_true, Bool.cond_false, gv_fI, gv_tI]
      repeat (first | refine go_run ?_ | (refine go_newP ?_; clear hw; intro p w hw) | (refine go_newWr ?_; clear hw; intro w hw) | (refine go_newS ?_; clear hw; intro s w hw))
      exact ⟨k + 1, ⟨rfl, trivial⟩, by repeat (first | exact agree_refl | (apply agree_upd rfl) | (apply agree_mix rfl) | (apply agree_sets rfl)), ⟨by omega, hw⟩, by omega⟩
  by_cases hmi : inf ≤ m
  · have hd1 : decide ((1125899906842624 : Int) ≤ m) = true := decide_eq_true hmi
    repeat (first | refine go_run ?_ | (refine go_newP ?_; clear hw; intro p w hw) | (refine go_newWr ?_; clear hw; intro w hw) | (refine go_newS ?_; clear hw; intro s w hw))
    simp only [hd1, beq_self_eq_true, beq_tfI, beq_ftI, Bool.false_and, Bool.true_and, Bool.not_true, Bool.not_false, Bool.cond_true, Bool.cond_false, gv_fI, gv_tI]
    repeat (first | refine go_run ?_ | (refine go_newP ?_; clear hw; intro p w hw) | (refine go_newWr ?_; clear hw; intro w hw) | (refine go_newS ?_; clear hw; intro s w hw))
    exact res_one (v := .bool true) rfl rfl ⟨rfl, sat_none hw⟩
  · have hd1 : decide ((1125899906842624 : Int) ≤ m) = false := decide_eq_false hmi
    have hsol : R.1 = .solved := by
      cases hvd : R.1 with
      | solved => rfl
      | unknown => exact absurd hvd h1
      | goOn => have := b2 hvd; omega
    obtain ⟨_, _, b6⟩ := b1 hsol
    have hlen : 0 < L.length := by
      cases L with
      | nil => simp at b6
      | cons => simp
    have h6 : ((L.length : Int) - 1).toNat = L.length - 1 := by omega
    have h7 : L.getD (L.length - 1) tInt.dflt = m := by
      rw [List.getLast?_eq_getElem?] at b6
      rw [List.getD_eq_getElem?_getD, b6]; rfl
    have hd2 : decide ((0 : Int) < (L.length : Int)) = true := decide_eq_true (by omega)
    have hd3 : decide (m = m) = true := decide_eq_true rfl
    repeat (first | refine go_run ?_ | (refine go_newP ?_; clear hw; intro p w hw) | (refine go_newWr ?_; clear hw; intro w hw) | (refine go_newS ?_; clear hw; intro s w hw))
    simp only [hd1, hd2, beq_self_eq_true, beq_tfI, beq_ftI, Bool.false_and, Bool.true_and, Bool.not_true, Bool.not_false, Bool.cond_true, Bool.cond_false, gv_fI, gv_tI]
    repeat (first | refine go_run ?_ | (refine go_newP ?_; clear hw; intro p w hw) | (refine go_newWr ?_; clear hw; intro w hw) | (refine go_newS ?_; clear hw; intro s w hw))
    rw [h6, h7]
    simp only [hd3, beq_self_eq_true, beq_tfI, beq_ftI, Bool.false_and, Bool.true_and, Bool.not_true, Bool.not_false, Bool.cond_true, Bool.cond_false, gv_fI, gv_tI]
    repeat (first | refine go_run ?_ | (refine go_newP ?_; clear hw; intro p w hw) | (refine go_newWr ?_; clear hw; intro w hw) | (refine go_newS ?_; clear hw; intro s w hw))
    exact res_one (v := .bool true) rfl rfl ⟨rfl, sat_none hw⟩
end Go.Proofs.Ytgbijampdkahjaa
