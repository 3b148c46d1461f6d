
/-
  The statement 'AstarAnyTable' returns true.
-/
import Derived.Test.YtegndanecnicaaaGreatWA49Aw
import Derived.Test.YtegndanecnicaaaGreatWLawIA
set_option linter.unusedSimpArgs false
set_option linter.unusedVariables false
namespace Go.Proofs.YtegndanecnicaaaGreat
open Go.Sl Go
attribute [local irreducible] vc opsW opsD opV opW PureV ReadV Thn Blk
instance aaInt16 : IntT Tryz.prog 62 .u16 := ⟨by kernel_rfl⟩
theorem anyTab_ok16 {xs : List Int} (h : ∀ x ∈ xs, 0 ≤ x ∧ x ≤ 65535) (n : Nat) : (anyTab xs n).length = n ∧ (∀ x ∈ anyTab xs n, 0 ≤ x ∧ x ≤ 65535) := by
  refine ⟨rowL_len _ _, fun x hx => ?_⟩
  obtain ⟨i, _, rfl⟩ := rowL_mem hx
  exact kthL_rng (by decide) h i
theorem srch_len {A : APar} (hH : HOk A.t A.H) (lim : Nat) : (srchA A lim).2.ex.length ≤ lim := by
  have hF := srch_fin hH lim
  generalize srchA A lim = R at hF ⊢
  cases hF with
  | none _ hl _ => exact hl
  | solved _ hl _ _ => exact hl
  | unknown _ hl _ _ => exact Nat.le_of_eq hl
set_option maxRecDepth 8000 in
set_option maxHeartbeats 8000000 in
theorem AstarAnyTable_walk {w0 : World} {a b c d lv : Value} {vs : List OpV} {t : TTask} {less : List Int} {n0 : Int} (ht : RTask w0 a b c d vs t) (hl : RS tU16 w0 lv less) (hrl : ∀ x ∈ less, 0 ≤ x ∧ x ≤ 65535) :
    Calls Tryz.prog 8 #[.agg #[a, b, c, d], lv, .int .i64 n0] w0 fun e w' => e = .returned (.bool true) ∧ Sat w0 w' [] := by
  have hlb := hl.big
  have hw := Sat.start w0
  refine calls_of_vc (args := [.agg #[a, b, c, d], lv, .int .i64 n0]) mixed Tryz.func8 rfl (by kernel_rfl) (Nat.le_of_ble_eq_true rfl) ?_
  repeat (first | refine go_run ?_ | (refine go_newP ?_; clear hw; intro p w hw) | (refine go_newWr ?_; clear hw; intro w hw) | (refine go_newS ?_; clear hw; intro s w hw))
  obtain ⟨pt, hpt⟩ : ∃ pt, pt = p := ⟨p, rfl⟩
  subst hpt
  refine st_call rfl (afits_spec (ht.at hw)) ?_
  rintro _ w' ⟨⟨r, rfl, hr⟩, hk'⟩
  replace hw := hw.call0 hk'
  clear hk'
  refine ⟨_, rfl, ?_⟩
  cases r
  · repeat (first | refine go_run ?_ | (refine go_newP ?_; clear hw; intro p w hw) | (refine go_newWr ?_; clear hw; intro w hw) | (refine go_newS ?_; clear hw; intro s w hw))
    refine st_call rfl aawake_spec ?_
    rintro _ w' ⟨rfl, hk'⟩
    replace hw := hw.call0 hk'
    clear hk'
    refine ⟨_, rfl, ?_⟩
    repeat (first | refine go_run ?_ | (refine go_newP ?_; clear hw; intro p w hw) | (refine go_newWr ?_; clear hw; intro w hw) | (refine go_newS ?_; clear hw; intro s w hw))
    exact res_one (v := .bool true) rfl rfl ⟨rfl, sat_none hw⟩
  obtain ⟨hs, hmy⟩ := hr.1 rfl
  have hg := hs.good
  have hB := hs.many
  have hvl := hg.vars
  have hsl : (statesL t.vars).length = (prodL t.vars).toNat := statesL_len hg.pos
  have hpp := prodL_pos hg.pos
  by_cases h200 : (200 : Int) < (less.length : Int)
  · have hd : decide ((200 : Int) < (less.length : Int)) = true := decide_eq_true h200
    repeat (first | refine go_run ?_ | (refine go_newP ?_; clear hw; intro p w hw) | (refine go_newWr ?_; clear hw; intro w hw) | (refine go_newS ?_; clear hw; intro s w hw))
    simp only [hd, beq_self_eq_true, beq_tfI, beq_ftI, Bool.false_and, Bool.true_and, Bool.false_or, Bool.true_or, Bool.not_true, Bool.not_false, Bool.cond_true, Bool.cond_false, gv_fI, gv_tI]
    repeat (first | refine go_run ?_ | (refine go_newP ?_; clear hw; intro p w hw) | (refine go_newWr ?_; clear hw; intro w hw) | (refine go_newS ?_; clear hw; intro s w hw))
    refine st_call rfl aawake_spec ?_
    rintro _ w' ⟨rfl, hk'⟩
    replace hw := hw.call0 hk'
    clear hk'
    refine ⟨_, rfl, ?_⟩
    repeat (first | refine go_run ?_ | (refine go_newP ?_; clear hw; intro p w hw) | (refine go_newWr ?_; clear hw; intro w hw) | (refine go_newS ?_; clear hw; intro s w hw))
    exact res_one (v := .bool true) rfl rfl ⟨rfl, sat_none hw⟩
  have hd : decide ((200 : Int) < (less.length : Int)) = false := decide_eq_false h200
  repeat (first | refine go_run ?_ | (refine go_newP ?_; clear hw; intro p w hw) | (refine go_newWr ?_; clear hw; intro w hw) | (refine go_newS ?_; clear hw; intro s w hw))
  simp only [hd, beq_self_eq_true, beq_tfI, beq_ftI, Bool.false_and, Bool.true_and, Bool.false_or, Bool.true_or, Bool.not_true, Bool.not_false, Bool.cond_true, Bool.cond_false, gv_fI, gv_tI]
  repeat (first | refine go_run ?_ | (refine go_newP ?_; clear hw; intro p w hw) | (refine go_newWr ?_; clear hw; intro w hw) | (refine go_newS ?_; clear hw; intro s w hw))
  refine st_call rfl aawake_spec ?_
  rintro _ w' ⟨rfl, hk'⟩
  replace hw := hw.call0 hk'
  clear hk'
  refine ⟨_, rfl, ?_⟩
  replace hw : Sat w0 w' [Box pt 26 [a, b, c, d]] := hw
  repeat (first | refine go_run ?_ | (refine go_newP ?_; clear hw; intro p w hw) | (refine go_newWr ?_; clear hw; intro w hw) | (refine go_newS ?_; clear hw; intro s w hw))
  obtain ⟨n, hn⟩ : ∃ n : Nat, prodL t.vars = (n : Int) := ⟨(prodL t.vars).toNat, by omega⟩
  have hmany : manyL t.vars 512 = (n : Int) := by rw [manyL, if_pos hB, hn]
  refine st_call rfl (Many_spec (ht.vars.at hw) hg.pos (by decide) (by decide)) ?_
  rintro _ w' ⟨rfl, hk'⟩
  replace hw := hw.call0 hk'
  clear hk'
  refine ⟨_, rfl, ?_⟩
  rw [hmany]
  repeat (first | refine go_run ?_ | (refine go_newP ?_; clear hw; intro p w hw) | (refine go_newWr ?_; clear hw; intro w hw) | (refine go_newS ?_; clear hw; intro s w hw))
  obtain ⟨sv, hsv⟩ : ∃ sv, sv = s := ⟨s, rfl⟩
  subst hsv
  rw [Int.toNat_natCast, ← mixA_zero (kthL less)] at hw
  have hm0 := mixA_len (kthL less) n 0
  have hn512 : n ≤ 512 := by omega
  have hrep : (List.replicate ((n : Int)).toNat (0 : Int)).length = n := by simp
  repeat (first | refine go_run ?_ | (refine go_newP ?_; clear hw; intro p w hw) | (refine go_newWr ?_; clear hw; intro w hw) | (refine go_newS ?_; clear hw; intro s w hw))
  refine vc_loop [8, 35, 36, 37, 38, 39, 40, 41, 42, 43, 44, 45, 46, 47, 48, 49, 50, 51, 52] (G := Nat) (fun k => [(35, .int .i64 k)]) (fun k w => k ≤ n ∧ Sat w0 w [OS tInt 3 sv (mixA (kthL less) n k), Box pt 26 [a, b, c, d]]) (fun k => n - k) 0 (fun _ => rfl) ⟨rfl, trivial⟩ ⟨Nat.zero_le _, hw⟩ ?_
  clear hw
  rintro σ k w ⟨hk, hw⟩
  have hml := mixA_len (kthL less) n k
  repeat (first | refine go_run ?_ | (refine go_newP ?_; clear hw; intro p w hw) | (refine go_newW ?_; clear hw; intro w hw) | (refine go_newS ?_; clear hw; intro s w hw))
  refine go_if (fun h1 => ?_) (fun h1 => ?_)
  · have hkl : k < n := by omega
    repeat (first | refine go_run ?_ | (refine go_newP ?_; clear hw; intro p w hw) | (refine go_newW ?_; clear hw; intro w hw) | (refine go_newS ?_; clear hw; intro s w hw))
    refine go_if (fun h2 => ?_) (fun h2 => ?_)
    · have hlp : 0 < less.length := by omega
      have e1 : ((k % less.length : Nat) : Int) = (k : Int).tmod (less.length : Int) := Int.ofNat_tmod k less.length
      have e2 := Nat.mod_lt k hlp
      have hkv : less.getD ((k : Int).tmod (less.length : Int)).toNat tInt.dflt = kthL less k := by
        unfold kthL
        rw [if_neg (by omega), ← e1, Int.toNat_natCast]
        rfl
      have hrk := hrl _ (mem_getD tInt.dflt (show ((k : Int).tmod (less.length : Int)).toNat < less.length by omega))
      repeat (first | refine go_run ?_ | (refine go_newP ?_; clear hw; intro p w hw) | (refine go_newW ?_; clear hw; intro w hw) | (refine go_newS ?_; clear hw; intro s w hw))
      refine step_pure rfl (pv_conv (ks := .u16) (n := less.getD ((k : Int).tmod (less.length : Int)).toNat tInt.dflt) rfl (by omega) (by omega)) ?_
      repeat (first | refine go_run ?_ | (refine go_newP ?_; clear hw; intro p w hw) | (refine go_newW ?_; clear hw; intro w hw) | (refine go_newS ?_; clear hw; intro s w hw))
      rw [hkv, mixA_set hkl] at hw
      exact ⟨k + 1, ⟨rfl, trivial⟩, by repeat (first | exact agree_refl | (apply agree_upd rfl) | (apply agree_mix rfl) | (apply agree_sets rfl)), ⟨by omega, hw⟩, by omega⟩
    · have hkv : kthL less k = 0 := by unfold kthL; rw [if_pos (by omega)]
      repeat (first | refine go_run ?_ | (refine go_newP ?_; clear hw; intro p w hw) | (refine go_newW ?_; clear hw; intro w hw) | (refine go_newS ?_; clear hw; intro s w hw))
      rw [mixA_same hkl hkv] at hw
      exact ⟨k + 1, ⟨rfl, trivial⟩, by repeat (first | exact agree_refl | (apply agree_upd rfl) | (apply agree_mix rfl) | (apply agree_sets rfl)), ⟨by omega, hw⟩, by omega⟩
  have hke : k = n := by omega
  subst hke
  rw [mixA_end, show rowL (kthL less) k = anyTab less k from rfl] at hw
  obtain ⟨q1, q2⟩ := anyTab_ok16 hrl k
  have e3 : inf = 1125899906842624 := rfl
  have hq2 : ∀ x ∈ anyTab less k, 0 ≤ x ∧ x ≤ inf := fun x hx => by have := q2 x hx; omega
  have hq1 : (anyTab less k).length = (statesL t.vars).length := by rw [q1, hsl, hn, Int.toNat_natCast]
  have htT : tErr t (anyTab less k) = 0 := by
    unfold tErr
    rw [if_neg (by rw [q1]; omega), if_neg (fun ⟨x, hx, h⟩ => by have := hq2 x hx; omega)]
  have hH := tab_ok hg hq1 hq2
  have hfinH := tab_fin hg hq1 (fun x hx => by have := q2 x hx; omega)
  repeat (first | refine go_run ?_ | (refine go_newP ?_; clear hw; intro p w hw) | (refine go_newW ?_; clear hw; intro w hw) | (refine go_newS ?_; clear hw; intro s w hw))
  refine st_call rfl (eTable_spec (ht.at hw) hg (rsO (s := sv) hw) (by omega)) ?_
  rintro _ w' (⟨h1, _⟩ | ⟨_, pe, rfl, hk'⟩)
  · exact absurd htT h1
  replace hw := hw.call1 hk'
  clear hk'
  refine ⟨_, rfl, ?_⟩
  repeat (first | refine go_run ?_ | (refine go_newP ?_; clear hw; intro p w hw) | (refine go_newWr ?_; clear hw; intro w hw) | (refine go_newS ?_; clear hw; intro s w hw))
  obtain ⟨kk, hkk⟩ : ∃ kk, kk = (if (5000 : Int) < n0 then 5000 else n0) := ⟨_, rfl⟩
  rw [← hkk]
  have hkk5 : kk ≤ 5000 := by rw [hkk]; split <;> omega
  refine st_call rfl (aSearch_spec (ev := .pointer (some pe)) (L := kk) (lim := kk.toNat) (ht.at hw) hH (.inr ⟨pe, rfl, hw.rdE 0 rfl⟩) rfl (by omega) (.inl hB)) ?_
  rintro _ w' ⟨pv, pl, rfl, hP, hk'⟩
  replace hw := hw.call1 hk'
  clear hk'
  refine ⟨_, rfl, ?_⟩
  have opv := (rsO (s := pv) hw).one
  obtain ⟨lim, hlim⟩ : ∃ lim : Nat, lim = kk.toNat := ⟨_, rfl⟩
  have hlim5 : lim ≤ 5000 := by omega
  rw [← hlim] at hP ⊢
  have hBst := fun m (hm : Least t t.init m) => srch_any (A := ⟨t, tabH t (anyTab less k), none⟩) hH rfl hfinH hm hP
  have hlm := srch_len (A := ⟨t, tabH t (anyTab less k), none⟩) hH lim
  generalize srchA ⟨t, tabH t (anyTab less k), none⟩ lim = R at hP hBst hlm ⊢
  repeat (first | refine go_run ?_ | (refine go_newP ?_; clear hw; intro p w hw) | (refine go_newS ?_; clear hw; intro s w hw))
  obtain ⟨p7, hp7⟩ : ∃ p7, p7 = p := ⟨p, rfl⟩
  subst hp7
  refine st_boxAgg (n := 4) (p := p7) (vs := [.int .i64 (vdA R.1), pv, .int .i64 (coL t pl), .int .i64 R.2.ex.length]) rfl rfl hw inferInstance rfl rfl (by simp only [List.all_cons, List.all_nil, opv]; rfl) ?_
  clear hw
  intro w hw
  have hmx : (if 0 > kk then 0 else kk) = (lim : Int) := by split <;> omega
  have hd1 : decide ((R.2.ex.length : Int) < 0) = false := decide_eq_false (by omega)
  have hd2 : decide ((lim : Int) < (R.2.ex.length : Int)) = false := decide_eq_false (by omega)
  repeat (first | refine go_run ?_ | (refine go_newP ?_; clear hw; intro p w hw) | (refine go_newWr ?_; clear hw; intro w hw) | (refine go_newS ?_; clear hw; intro s w hw))
  simp only [hd1, hmx, hd2, beq_self_eq_true, beq_tfI, beq_ftI, Bool.false_and, Bool.true_and, Bool.false_or, Bool.true_or, Bool.not_true, Bool.not_false, Bool.cond_true, Bool.cond_false, gv_fI, gv_tI]
  repeat (first | refine go_run ?_ | (refine go_newP ?_; clear hw; intro p w hw) | (refine go_newWr ?_; clear hw; intro w hw) | (refine go_newS ?_; clear hw; intro s w hw))
  refine st_call rfl (Best_spec (ht.at hw) hg hB) ?_
  rintro _ w' ⟨m, rfl, hm, hk'⟩
  replace hw := hw.call0 hk'
  clear hk'
  refine ⟨_, rfl, ?_⟩
  obtain ⟨hpl, _, hcase⟩ := hBst m hm
  have hpl1 : pl.length ≤ (statesL t.vars).length := hpl
  have hd4 : decide ((lim : Int) = (lim : Int)) = true := decide_eq_true rfl
  rcases hcase with ⟨i, r1, r2, r3⟩ | ⟨r1, rfl, r2⟩ | ⟨r1, rfl, r2⟩
  · rw [show vdA R.1 = 1 by rw [r1]; rfl] at hw
    have r2' : Pln t t.init pl (coL t pl) := r2
    have hd5 : decide (coL t pl = coL t pl) = true := decide_eq_true rfl
    have hd6 : decide (m ≤ coL t pl) = true := decide_eq_true r3
    repeat (first | refine go_run ?_ | (refine go_newP ?_; clear hw; intro p w hw) | (refine go_newWr ?_; clear hw; intro w hw) | (refine go_newS ?_; clear hw; intro s w hw))
    refine st_call rfl (Solves_spec (ht.at hw) hg (rsO (s := pv) hw) r2' (by omega)) ?_
    rintro _ w' ⟨rfl, hk'⟩
    replace hw := hw.call0 hk'
    clear hk'
    refine ⟨_, rfl, ?_⟩
    repeat (first | refine go_run ?_ | (refine go_newP ?_; clear hw; intro p w hw) | (refine go_newWr ?_; clear hw; intro w hw) | (refine go_newS ?_; clear hw; intro s w hw))
    simp only [hd5, hd6, beq_self_eq_true, beq_tfI, beq_ftI, Bool.false_and, Bool.true_and, Bool.false_or, Bool.true_or, Bool.not_true, Bool.not_false, Bool.cond_true, Bool.cond_false, gv_fI, gv_tI]
    repeat (first | refine go_run ?_ | (refine go_newP ?_; clear hw; intro p w hw) | (refine go_newWr ?_; clear hw; intro w hw) | (refine go_newS ?_; clear hw; intro s w hw))
    exact res_one (v := .bool true) rfl rfl ⟨rfl, sat_none hw⟩
  · rw [show vdA R.1 = 2 by rw [r1]; rfl, coL_nil] at hw
    have hd5 : decide ((1125899906842624 : Int) ≤ m) = true := decide_eq_true (by omega)
    repeat (first | refine go_run ?_ | (refine go_newP ?_; clear hw; intro p w hw) | (refine go_newWr ?_; clear hw; intro w hw) | (refine go_newS ?_; clear hw; intro s w hw))
    simp only [hd5, beq_self_eq_true, beq_tfI, beq_ftI, Bool.false_and, Bool.true_and, Bool.false_or, Bool.true_or, Bool.not_true, Bool.not_false, Bool.cond_true, Bool.cond_false, gv_fI, gv_tI]
    repeat (first | refine go_run ?_ | (refine go_newP ?_; clear hw; intro p w hw) | (refine go_newWr ?_; clear hw; intro w hw) | (refine go_newS ?_; clear hw; intro s w hw))
    exact res_one (v := .bool true) rfl rfl ⟨rfl, sat_none hw⟩
  · rw [show vdA R.1 = 3 by rw [r1]; rfl, coL_nil, r2] at hw
    repeat (first | refine go_run ?_ | (refine go_newP ?_; clear hw; intro p w hw) | (refine go_newWr ?_; clear hw; intro w hw) | (refine go_newS ?_; clear hw; intro s w hw))
    simp only [hmx, hd4, beq_self_eq_true, beq_tfI, beq_ftI, Bool.false_and, Bool.true_and, Bool.false_or, Bool.true_or, Bool.not_true, Bool.not_false, Bool.cond_true, Bool.cond_false, gv_fI, gv_tI]
    repeat (first | refine go_run ?_ | (refine go_newP ?_; clear hw; intro p w hw) | (refine go_newWr ?_; clear hw; intro w hw) | (refine go_newS ?_; clear hw; intro s w hw))
    exact res_one (v := .bool true) rfl rfl ⟨rfl, sat_none hw⟩
end Go.Proofs.YtegndanecnicaaaGreat
