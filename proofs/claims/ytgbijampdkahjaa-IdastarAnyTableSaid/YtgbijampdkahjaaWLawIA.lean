
/-
  The statement 'IdastarAnyTable' returns true.
-/
import Derived.Test.YtgbijampdkahjaaWSolve
set_option linter.unusedSimpArgs false
set_option linter.unusedVariables false
namespace Go.Proofs.Ytgbijampdkahjaa
open Go.Sl Go
attribute [local irreducible] vc opsW opsD opV opW PureV ReadV Thn Blk
/-- The first k values are written. -/
def mixA (f : Nat → Int) (n k : Nat) : List Int := rowL (fun i => if i < k then f i else 0) n
theorem mixA_len (f : Nat → Int) (n k : Nat) : (mixA f n k).length = n := rowL_len _ _
theorem mixA_zero (f : Nat → Int) (n : Nat) : mixA f n 0 = List.replicate n 0 := list_eq (d := tInt.dflt) (by rw [mixA_len, List.length_replicate]) fun i hi => by
  rw [mixA_len] at hi
  unfold mixA
  rw [rowL_at hi, if_neg (Nat.not_lt_zero _), getD_at (by rw [List.length_replicate]; exact hi)]
  simp
theorem mixA_end (f : Nat → Int) (n : Nat) : mixA f n n = rowL f n := list_eq (d := tInt.dflt) (by rw [mixA_len, rowL_len]) fun i hi => by
  rw [mixA_len] at hi
  unfold mixA
  rw [rowL_at hi, rowL_at hi, if_pos hi]
theorem mixA_set {f : Nat → Int} {n k : Nat} (hk : k < n) : (mixA f n k).set k (f k) = mixA f n (k + 1) := list_eq (d := tInt.dflt) (by rw [List.length_set, mixA_len, mixA_len]) fun i hi => by
  rw [List.length_set, mixA_len] at hi
  have h1 : (mixA f n (k + 1)).getD i tInt.dflt = if i < k + 1 then f i else 0 := by unfold mixA; rw [rowL_at hi]
  have h2 : (mixA f n k).getD i tInt.dflt = if i < k then f i else 0 := by unfold mixA; rw [rowL_at hi]
  rw [h1]
  by_cases e : i = k
  · subst e
    rw [if_pos (Nat.lt_succ_self _)]
    simp [List.getD, mixA_len, hi]
  · rw [show ((mixA f n k).set k (f k)).getD i tInt.dflt = (mixA f n k).getD i tInt.dflt by simp only [List.getD]; rw [List.getElem?_set_ne (fun h => e h.symm)], h2]
    by_cases h3 : i < k
    · rw [if_pos h3, if_pos (by omega)]
    · rw [if_neg h3, if_neg (by omega)]
theorem mixA_same {f : Nat → Int} {n k : Nat} (hk : k < n) (h : f k = 0) : mixA f n k = mixA f n (k + 1) := by
  rw [← mixA_set hk, h]
  refine list_eq (d := tInt.dflt) (by rw [List.length_set]) fun i hi => ?_
  by_cases e : i = k
  · subst e
    have : (mixA f n i).getD i tInt.dflt = 0 := by unfold mixA; rw [rowL_at hk, if_neg (Nat.lt_irrefl _)]
    rw [this]
    simp [List.getD, mixA_len, hk]
  · simp only [List.getD]
    rw [List.getElem?_set_ne (fun h => e h.symm)]
set_option maxRecDepth 8000 in
set_option maxHeartbeats 8000000 in
theorem IdastarAnyTable_walk {w0 : World} {a b c d lv : Value} {vs : List OpV} {t : TTask} {less : List Int} {n0 : Int} (ht : RTask w0 a b c d vs t) (hl : RS tU8 w0 lv less) (hrl : ∀ x ∈ less, 0 ≤ x ∧ x ≤ 255) :
    Calls Try.prog 8 #[.agg #[a, b, c, d], lv, .int .i64 n0] w0 fun e w' => e = .returned (.bool true) ∧ Sat w0 w' [] := by
  have hlb := hl.big
  have hw := Sat.start w0
  refine calls_of_vc (args := [.agg #[a, b, c, d], lv, .int .i64 n0]) mixed Try.func8 rfl (by kernel_rfl) (Nat.le_of_ble_eq_true rfl) ?_
  repeat (first | refine go_run ?_ | (refine go_newP ?_; clear hw; intro p w hw) | (refine go_newWr ?_; clear hw; intro w hw) | (refine go_newS ?_; clear hw; intro s w hw))
  obtain ⟨pt, hpt⟩ : ∃ pt, pt = p := ⟨p, rfl⟩
  subst hpt
  refine st_call rfl (ifits_spec (ht.at hw)) ?_
  rintro _ w' ⟨⟨r, rfl, hr⟩, hk'⟩
  replace hw := hw.call0 hk'
  clear hk'
  refine ⟨_, rfl, ?_⟩
  cases r
  · repeat (first | refine go_run ?_ | (refine go_newP ?_; clear hw; intro p w hw) | (refine go_newWr ?_; clear hw; intro w hw) | (refine go_newS ?_; clear hw; intro s w hw))
    refine st_call rfl iawake_spec ?_
    rintro _ w' ⟨rfl, hk'⟩
    replace hw := hw.call0 hk'
    clear hk'
    refine ⟨_, rfl, ?_⟩
    repeat (first | refine go_run ?_ | (refine go_newP ?_; clear hw; intro p w hw) | (refine go_newWr ?_; clear hw; intro w hw) | (refine go_newS ?_; clear hw; intro s w hw))
    exact res_one (v := .bool true) rfl rfl ⟨rfl, sat_none hw⟩
  obtain ⟨hs, hmy⟩ := hr.1 rfl
  have hg := hs.good
  have hB := hs.many
  have hvl := hg.vars
  have hsl : (statesL t.vars).length = (prodL t.vars).toNat := statesL_len hg.pos
  have hpp := prodL_pos hg.pos
  by_cases h200 : (200 : Int) < (less.length : Int)
  · have hd : decide ((200 : Int) < (less.length : Int)) = true := decide_eq_true h200
    repeat (first | refine go_run ?_ | (refine go_newP ?_; clear hw; intro p w hw) | (refine go_newWr ?_; clear hw; intro w hw) | (refine go_newS ?_; clear hw; intro s w hw))
    simp only [hd, beq_self_eq_true, beq_tfI, beq_ftI, Bool.false_and, Bool.true_and, Bool.false_or, Bool.true_or, Bool.not_true, Bool.not_false, Bool.cond_true, Bool.cond_false, gv_fI, gv_tI]
    repeat (first | refine go_run ?_ | (refine go_newP ?_; clear hw; intro p w hw) | (refine go_newWr ?_; clear hw; intro w hw) | (refine go_newS ?_; clear hw; intro s w hw))
    refine st_call rfl iawake_spec ?_
    rintro _ w' ⟨rfl, hk'⟩
    replace hw := hw.call0 hk'
    clear hk'
    refine ⟨_, rfl, ?_⟩
    repeat (first | refine go_run ?_ | (refine go_newP ?_; clear hw; intro p w hw) | (refine go_newWr ?_; clear hw; intro w hw) | (refine go_newS ?_; clear hw; intro s w hw))
    exact res_one (v := .bool true) rfl rfl ⟨rfl, sat_none hw⟩
  have hd : decide ((200 : Int) < (less.length : Int)) = false := decide_eq_false h200
  repeat (first | refine go_run ?_ | (refine go_newP ?_; clear hw; intro p w hw) | (refine go_newWr ?_; clear hw; intro w hw) | (refine go_newS ?_; clear hw; intro s w hw))
  simp only [hd, beq_self_eq_true, beq_tfI, beq_ftI, Bool.false_and, Bool.true_and, Bool.false_or, Bool.true_or, Bool.not_true, Bool.not_false, Bool.cond_true, Bool.cond_false, gv_fI, gv_tI]
  repeat (first | refine go_run ?_ | (refine go_newP ?_; clear hw; intro p w hw) | (refine go_newWr ?_; clear hw; intro w hw) | (refine go_newS ?_; clear hw; intro s w hw))
  refine st_call rfl iawake_spec ?_
  rintro _ w' ⟨rfl, hk'⟩
  replace hw := hw.call0 hk'
  clear hk'
  refine ⟨_, rfl, ?_⟩
  replace hw : Sat w0 w' [Box pt 26 [a, b, c, d]] := hw
  repeat (first | refine go_run ?_ | (refine go_newP ?_; clear hw; intro p w hw) | (refine go_newWr ?_; clear hw; intro w hw) | (refine go_newS ?_; clear hw; intro s w hw))
  obtain ⟨n, hn⟩ : ∃ n : Nat, prodL t.vars = (n : Int) := ⟨(prodL t.vars).toNat, by omega⟩
  have hmany : manyL t.vars 512 = (n : Int) := by rw [manyL, if_pos hB, hn]
  refine st_call rfl (Many_spec (ht.vars.at hw) hg.pos (by decide) (by decide)) ?_
  rintro _ w' ⟨rfl, hk'⟩
  replace hw := hw.call0 hk'
  clear hk'
  refine ⟨_, rfl, ?_⟩
  rw [hmany]
  repeat (first | refine go_run ?_ | (refine go_newP ?_; clear hw; intro p w hw) | (refine go_newWr ?_; clear hw; intro w hw) | (refine go_newS ?_; clear hw; intro s w hw))
  obtain ⟨sv, hsv⟩ : ∃ sv, sv = s := ⟨s, rfl⟩
  subst hsv
  rw [Int.toNat_natCast, ← mixA_zero (kthL less)] at hw
  have hm0 := mixA_len (kthL less) n 0
  have hn512 : n ≤ 512 := by omega
  have hrep : (List.replicate ((n : Int)).toNat (0 : Int)).length = n := by simp
  repeat (first | refine go_run ?_ | (refine go_newP ?_; clear hw; intro p w hw) | (refine go_newWr ?_; clear hw; intro w hw) | (refine go_newS ?_; clear hw; intro s w hw))
  refine vc_loop [8, 35, 36, 37, 38, 39, 40, 41, 42, 43, 44, 45, 46, 47, 48, 49, 50, 51, 52] (G := Nat) (fun k => [(35, .int .i64 k)]) (fun k w => k ≤ n ∧ Sat w0 w [OS tInt 3 sv (mixA (kthL less) n k), Box pt 26 [a, b, c, d]]) (fun k => n - k) 0 (fun _ => rfl) ⟨rfl, trivial⟩ ⟨Nat.zero_le _, hw⟩ ?_
  clear hw
  rintro σ k w ⟨hk, hw⟩
  have hml := mixA_len (kthL less) n k
  repeat (first | refine go_run ?_ | (refine go_newP ?_; clear hw; intro p w hw) | (refine go_newW ?_; clear hw; intro w hw) | (refine go_newS ?_; clear hw; intro s w hw))
  refine go_if (fun h1 => ?_) (fun h1 => ?_)
  · have hkl : k < n := by omega
    repeat (first | refine go_run ?_ | (refine go_newP ?_; clear hw; intro p w hw) | (refine go_newW ?_; clear hw; intro w hw) | (refine go_newS ?_; clear hw; intro s w hw))
    refine go_if (fun h2 => ?_) (fun h2 => ?_)
    · have hlp : 0 < less.length := by omega
      have e1 : ((k % less.length : Nat) : Int) = (k : Int).tmod (less.length : Int) := Int.ofNat_tmod k less.length
      have e2 := Nat.mod_lt k hlp
      have hkv : less.getD ((k : Int).tmod (less.length : Int)).toNat tInt.dflt = kthL less k := by
        unfold kthL
        rw [if_neg (by omega), ← e1, Int.toNat_natCast]
        rfl
      have hrk := hrl _ (mem_getD tInt.dflt (show ((k : Int).tmod (less.length : Int)).toNat < less.length by omega))
      repeat (first | refine go_run ?_ | (refine go_newP ?_; clear hw; intro p w hw) | (refine go_newW ?_; clear hw; intro w hw) | (refine go_newS ?_; clear hw; intro s w hw))
      refine step_pure rfl (pv_conv (ks := .u8) (n := less.getD ((k : Int).tmod (less.length : Int)).toNat tInt.dflt) rfl (by omega) (by omega)) ?_
      repeat (first | refine go_run ?_ | (refine go_newP ?_; clear hw; intro p w hw) | (refine go_newW ?_; clear hw; intro w hw) | (refine go_newS ?_; clear hw; intro s w hw))
      rw [hkv, mixA_set hkl] at hw
      exact ⟨k + 1, ⟨rfl, trivial⟩, by repeat (first | exact agree_refl | (apply agree_upd rfl) | (apply agree_mix rfl) | (apply agree_sets rfl)), ⟨by omega, hw⟩, by omega⟩
    · have hkv : kthL less k = 0 := by unfold kthL; rw [if_pos (by omega)]
      repeat (first | refine go_run ?_ | (refine go_newP ?_; clear hw; intro p w hw) | (refine go_newW ?_; clear hw; intro w hw) | (refine go_newS ?_; clear hw; intro s w hw))
      rw [mixA_same hkl hkv] at hw
      exact ⟨k + 1, ⟨rfl, trivial⟩, by repeat (first | exact agree_refl | (apply agree_upd rfl) | (apply agree_mix rfl) | (apply agree_sets rfl)), ⟨by omega, hw⟩, by omega⟩
  have hke : k = n := by omega
  subst hke
  rw [mixA_end, show rowL (kthL less) k = anyTab less k from rfl] at hw
  obtain ⟨q1, q2⟩ := anyTab_ok hrl k
  have e3 : inf = 1125899906842624 := rfl
  have hq2 : ∀ x ∈ anyTab less k, 0 ≤ x ∧ x ≤ inf := fun x hx => by have := q2 x hx; omega
  have hq1 : (anyTab less k).length = (statesL t.vars).length := by rw [q1, hsl, hn, Int.toNat_natCast]
  have htT : tErr t (anyTab less k) = 0 := by
    unfold tErr
    rw [if_neg (by rw [q1]; omega), if_neg (fun ⟨x, hx, h⟩ => by have := hq2 x hx; omega)]
  have hH := tab_ok hg hq1 hq2
  have hfinH := tab_fin hg hq1 (fun x hx => by have := q2 x hx; omega)
  repeat (first | refine go_run ?_ | (refine go_newP ?_; clear hw; intro p w hw) | (refine go_newW ?_; clear hw; intro w hw) | (refine go_newS ?_; clear hw; intro s w hw))
  refine st_call rfl (eTable_spec (ht.at hw) hg (rsO (s := sv) hw) (by omega)) ?_
  rintro _ w' (⟨h1, _⟩ | ⟨_, pe, rfl, hk'⟩)
  · exact absurd htT h1
  replace hw := hw.call1 hk'
  clear hk'
  refine ⟨_, rfl, ?_⟩
  repeat (first | refine go_run ?_ | (refine go_newP ?_; clear hw; intro p w hw) | (refine go_newWr ?_; clear hw; intro w hw) | (refine go_newS ?_; clear hw; intro s w hw))
  obtain ⟨kk, hkk⟩ : ∃ kk, kk = (if (5000 : Int) < n0 then 5000 else n0) := ⟨_, rfl⟩
  rw [← hkk]
  have hkk5 : kk ≤ 5000 := by rw [hkk]; split <;> omega
  refine st_call rfl (Search_spec (ev := .pointer (some pe)) (L := kk) (ht.at hw) hH (.inr ⟨pe, rfl, hw.rdE 0 rfl⟩) (by omega)) ?_
  rintro _ w' ⟨pv, rfl, hk'⟩
  replace hw := hw.call1 hk'
  clear hk'
  refine ⟨_, rfl, ?_⟩
  have opv := (rsO (s := pv) hw).one
  obtain ⟨lim, hlim⟩ : ∃ lim : Nat, lim = kk.toNat := ⟨_, rfl⟩
  have hlim5 : lim ≤ 5000 := by omega
  obtain ⟨R, hR⟩ : ∃ R, R = runR t (tabH t (anyTab less k)) lim := ⟨_, rfl⟩
  have hRk : RunOk t (tabH t (anyTab less k)) lim R := by rw [hR]; exact runR_ok hH (by omega)
  rw [← hlim, ← hR] at hw ⊢
  have hlm := hRk.lm
  have hpl : R.2.1.path.length ≤ lim := by rw [hR]; exact runF_path _ _ _ _ (Nat.zero_le _)
  repeat (first | refine go_run ?_ | (refine go_newP ?_; clear hw; intro p w hw) | (refine go_newS ?_; clear hw; intro s w hw))
  obtain ⟨p7, hp7⟩ : ∃ p7, p7 = p := ⟨p, rfl⟩
  subst hp7
  refine st_boxAgg (n := 4) (p := p7) (vs := [.int .i64 (vdC R.1), pv, .int .i64 (coR t R), .int .i64 R.2.1.exp]) rfl rfl hw inferInstance rfl rfl (by simp only [List.all_cons, List.all_nil, opv]; rfl) ?_
  clear hw
  intro w hw
  have hmx : (if 0 > kk then 0 else kk) = (lim : Int) := by split <;> omega
  have hd1 : decide ((R.2.1.exp : Int) < 0) = false := decide_eq_false (by omega)
  have hd2 : decide ((lim : Int) < (R.2.1.exp : Int)) = false := decide_eq_false (by omega)
  repeat (first | refine go_run ?_ | (refine go_newP ?_; clear hw; intro p w hw) | (refine go_newWr ?_; clear hw; intro w hw) | (refine go_newS ?_; clear hw; intro s w hw))
  simp only [hd1, hmx, hd2, beq_self_eq_true, beq_tfI, beq_ftI, Bool.false_and, Bool.true_and, Bool.false_or, Bool.true_or, Bool.not_true, Bool.not_false, Bool.cond_true, Bool.cond_false, gv_fI, gv_tI]
  repeat (first | refine go_run ?_ | (refine go_newP ?_; clear hw; intro p w hw) | (refine go_newWr ?_; clear hw; intro w hw) | (refine go_newS ?_; clear hw; intro s w hw))
  refine st_call rfl (Best_spec (ht.at hw) hg hB) ?_
  rintro _ w' ⟨m, rfl, hm, hk'⟩
  replace hw := hw.call0 hk'
  clear hk'
  refine ⟨_, rfl, ?_⟩
  obtain ⟨b1, b2⟩ := run_any hRk hfinH hm
  have hd4 : decide ((lim : Int) = (lim : Int)) = true := decide_eq_true rfl
  cases hvd : R.1 with
  | unknown =>
    have e1 : vdC R.1 = 3 := by rw [hvd]; rfl
    have e2 : plR R = [] := by unfold plR; rw [hvd]
    have e5 : coR t R = 0 := by unfold coR; rw [hvd]
    have e4 := hRk.unk hvd
    rw [e1, e5, e4, e2] at hw
    repeat (first | refine go_run ?_ | (refine go_newP ?_; clear hw; intro p w hw) | (refine go_newWr ?_; clear hw; intro w hw) | (refine go_newS ?_; clear hw; intro s w hw))
    simp only [hmx, hd4, beq_self_eq_true, beq_tfI, beq_ftI, Bool.false_and, Bool.true_and, Bool.false_or, Bool.true_or, Bool.not_true, Bool.not_false, Bool.cond_true, Bool.cond_false, gv_fI, gv_tI]
    repeat (first | refine go_run ?_ | (refine go_newP ?_; clear hw; intro p w hw) | (refine go_newWr ?_; clear hw; intro w hw) | (refine go_newS ?_; clear hw; intro s w hw))
    exact res_one (v := .bool true) rfl rfl ⟨rfl, sat_none hw⟩
  | goOn =>
    have e1 : vdC R.1 = 2 := by rw [hvd]; rfl
    have e2 : plR R = [] := by unfold plR; rw [hvd]
    have e5 : coR t R = 0 := by unfold coR; rw [hvd]
    have b7 := b2 hvd
    have hd5 : decide ((1125899906842624 : Int) ≤ m) = true := decide_eq_true (by omega)
    rw [e1, e5, e2] at hw
    repeat (first | refine go_run ?_ | (refine go_newP ?_; clear hw; intro p w hw) | (refine go_newWr ?_; clear hw; intro w hw) | (refine go_newS ?_; clear hw; intro s w hw))
    simp only [hd5, beq_self_eq_true, beq_tfI, beq_ftI, Bool.false_and, Bool.true_and, Bool.false_or, Bool.true_or, Bool.not_true, Bool.not_false, Bool.cond_true, Bool.cond_false, gv_fI, gv_tI]
    repeat (first | refine go_run ?_ | (refine go_newP ?_; clear hw; intro p w hw) | (refine go_newWr ?_; clear hw; intro w hw) | (refine go_newS ?_; clear hw; intro s w hw))
    exact res_one (v := .bool true) rfl rfl ⟨rfl, sat_none hw⟩
  | solved =>
    have e1 : vdC R.1 = 1 := by rw [hvd]; rfl
    have e2 : plR R = R.2.1.path := by unfold plR; rw [hvd]
    have e5 : coR t R = coL t R.2.1.path := by unfold coR; rw [hvd]
    obtain ⟨c0, hP, hle⟩ := b1 hvd
    obtain ⟨_, hc0⟩ := hP.fin
    subst hc0
    have hd5 : decide (coL t R.2.1.path = coL t R.2.1.path) = true := decide_eq_true rfl
    have hd6 : decide (m ≤ coL t R.2.1.path) = true := decide_eq_true hle
    rw [e1, e5, e2] at hw
    repeat (first | refine go_run ?_ | (refine go_newP ?_; clear hw; intro p w hw) | (refine go_newWr ?_; clear hw; intro w hw) | (refine go_newS ?_; clear hw; intro s w hw))
    refine st_call rfl (Solves_spec (ht.at hw) hg (rsO (s := pv) hw) hP (by omega)) ?_
    rintro _ w' ⟨rfl, hk'⟩
    replace hw := hw.call0 hk'
    clear hk'
    refine ⟨_, rfl, ?_⟩
    repeat (first | refine go_run ?_ | (refine go_newP ?_; clear hw; intro p w hw) | (refine go_newWr ?_; clear hw; intro w hw) | (refine go_newS ?_; clear hw; intro s w hw))
    simp only [hd5, hd6, beq_self_eq_true, beq_tfI, beq_ftI, Bool.false_and, Bool.true_and, Bool.false_or, Bool.true_or, Bool.not_true, Bool.not_false, Bool.cond_true, Bool.cond_false, gv_fI, gv_tI]
    repeat (first | refine go_run ?_ | (refine go_newP ?_; clear hw; intro p w hw) | (refine go_newWr ?_; clear hw; intro w hw) | (refine go_newS ?_; clear hw; intro s w hw))
    exact res_one (v := .bool true) rfl rfl ⟨rfl, sat_none hw⟩
end Go.Proofs.Ytgbijampdkahjaa
