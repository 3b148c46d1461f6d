
/-
  The statement 'IdastarRounds' returns true.
-/
import Derived.Test.YtoddgmmkpiojlaaWRef50b
import Derived.Test.YtoddgmmkpiojlaaWLawIB
set_option linter.unusedSimpArgs false
set_option linter.unusedVariables false
namespace Go.Proofs.Ytoddgmmkpiojlaa
open Go.Sl Go
attribute [local irreducible] vc opsW opsD opV opW PureV ReadV Thn Blk
instance : IntT Try.prog 48 .u16 := ⟨by kernel_rfl⟩
set_option maxRecDepth 8000 in
set_option maxHeartbeats 8000000 in
theorem IdastarRounds_walk {w0 : World} {a b c d lv : Value} {vs : List OpV} {t : TTask} {less : List Int} (ht : RTask w0 a b c d vs t) (hl : RS tU16 w0 lv less) (hrl : ∀ x ∈ less, 0 ≤ x ∧ x ≤ 65535) :
    Calls Try.prog 5 #[.agg #[a, b, c, d], lv] w0 fun e w' => e = .returned (.bool true) ∧ Sat w0 w' [] := by
  have hlb := hl.big
  have hw := Sat.start w0
  refine calls_of_vc (args := [.agg #[a, b, c, d], lv]) mixed Try.func5 rfl (by kernel_rfl) (Nat.le_of_ble_eq_true rfl) ?_
  repeat (first | refine go_run ?_ | (refine go_newP ?_; clear hw; intro p w hw) | (refine go_newWr ?_; clear hw; intro w hw) | (refine go_newS ?_; clear hw; intro s w hw))
  obtain ⟨pt, hpt⟩ : ∃ pt, pt = p := ⟨p, rfl⟩
  subst hpt
  refine st_call rfl (ifits_spec (ht.at hw)) ?_
  rintro _ w' ⟨⟨r, rfl, hr⟩, hk'⟩
  replace hw := hw.call0 hk'
  clear hk'
  refine ⟨_, rfl, ?_⟩
  cases r
  · repeat (first | refine go_run ?_ | (refine go_newP ?_; clear hw; intro p w hw) | (refine go_newWr ?_; clear hw; intro w hw) | (refine go_newS ?_; clear hw; intro s w hw))
    refine st_call rfl iawake_spec ?_
    rintro _ w' ⟨rfl, hk'⟩
    replace hw := hw.call0 hk'
    clear hk'
    refine ⟨_, rfl, ?_⟩
    repeat (first | refine go_run ?_ | (refine go_newP ?_; clear hw; intro p w hw) | (refine go_newWr ?_; clear hw; intro w hw) | (refine go_newS ?_; clear hw; intro s w hw))
    exact res_one (v := .bool true) rfl rfl ⟨rfl, sat_none hw⟩
  obtain ⟨hs, hmy⟩ := hr.1 rfl
  have hg := hs.good
  have hB := hs.many
  have hvl := hg.vars
  have hsl : (statesL t.vars).length = (prodL t.vars).toNat := statesL_len hg.pos
  have hpp := prodL_pos hg.pos
  by_cases h200 : (200 : Int) < (less.length : Int)
  · have hd : decide ((200 : Int) < (less.length : Int)) = true := decide_eq_true h200
    repeat (first | refine go_run ?_ | (refine go_newP ?_; clear hw; intro p w hw) | (refine go_newWr ?_; clear hw; intro w hw) | (refine go_newS ?_; clear hw; intro s w hw))
    simp only [hd, beq_self_eq_true, beq_tfI, beq_ftI, Bool.false_and, Bool.true_and, Bool.false_or, Bool.true_or, Bool.not_true, Bool.not_false, Bool.cond_true, Bool.cond_false, gv_fI, gv_tI]
    repeat (first | refine go_run ?_ | (refine go_newP ?_; clear hw; intro p w hw) | (refine go_newWr ?_; clear hw; intro w hw) | (refine go_newS ?_; clear hw; intro s w hw))
    refine st_call rfl iawake_spec ?_
    rintro _ w' ⟨rfl, hk'⟩
    replace hw := hw.call0 hk'
    clear hk'
    refine ⟨_, rfl, ?_⟩
    repeat (first | refine go_run ?_ | (refine go_newP ?_; clear hw; intro p w hw) | (refine go_newWr ?_; clear hw; intro w hw) | (refine go_newS ?_; clear hw; intro s w hw))
    exact res_one (v := .bool true) rfl rfl ⟨rfl, sat_none hw⟩
  have hd : decide ((200 : Int) < (less.length : Int)) = false := decide_eq_false h200
  repeat (first | refine go_run ?_ | (refine go_newP ?_; clear hw; intro p w hw) | (refine go_newWr ?_; clear hw; intro w hw) | (refine go_newS ?_; clear hw; intro s w hw))
  simp only [hd, beq_self_eq_true, beq_tfI, beq_ftI, Bool.false_and, Bool.true_and, Bool.false_or, Bool.true_or, Bool.not_true, Bool.not_false, Bool.cond_true, Bool.cond_false, gv_fI, gv_tI]
  repeat (first | refine go_run ?_ | (refine go_newP ?_; clear hw; intro p w hw) | (refine go_newWr ?_; clear hw; intro w hw) | (refine go_newS ?_; clear hw; intro s w hw))
  refine st_call rfl iawake_spec ?_
  rintro _ w' ⟨rfl, hk'⟩
  replace hw := hw.call0 hk'
  clear hk'
  refine ⟨_, rfl, ?_⟩
  replace hw : Sat w0 w' [Box pt 26 [a, b, c, d]] := hw
  repeat (first | refine go_run ?_ | (refine go_newP ?_; clear hw; intro p w hw) | (refine go_newWr ?_; clear hw; intro w hw) | (refine go_newS ?_; clear hw; intro s w hw))
  obtain ⟨n, hn⟩ : ∃ n : Nat, prodL t.vars = (n : Int) := ⟨(prodL t.vars).toNat, by omega⟩
  have hmany : manyL t.vars 512 = (n : Int) := by rw [manyL, if_pos hB, hn]
  refine st_call rfl (Many_spec (ht.vars.at hw) hg.pos (by decide) (by decide)) ?_
  rintro _ w' ⟨rfl, hk'⟩
  replace hw := hw.call0 hk'
  clear hk'
  refine ⟨_, rfl, ?_⟩
  rw [hmany]
  repeat (first | refine go_run ?_ | (refine go_newP ?_; clear hw; intro p w hw) | (refine go_newWr ?_; clear hw; intro w hw) | (refine go_newS ?_; clear hw; intro s w hw))
  obtain ⟨sv, hsv⟩ : ∃ sv, sv = s := ⟨s, rfl⟩
  subst hsv
  rw [Int.toNat_natCast, ← mixA_zero (fun i => capV (kthL less i))] at hw
  have hm0 := mixA_len (fun i => capV (kthL less i)) n 0
  have hn512 : n ≤ 512 := by omega
  have hrep : (List.replicate ((n : Int)).toNat (0 : Int)).length = n := by simp
  repeat (first | refine go_run ?_ | (refine go_newP ?_; clear hw; intro p w hw) | (refine go_newWr ?_; clear hw; intro w hw) | (refine go_newS ?_; clear hw; intro s w hw))
  refine vc_loop [6, 31, 32, 33, 34, 35, 36, 37, 38, 39, 40, 41, 42, 43, 44, 45, 46, 47, 48, 49, 50, 51, 52, 53, 54, 55, 56] (G := Nat) (fun k => [(31, .int .i64 k)]) (fun k w => k ≤ n ∧ Sat w0 w [OS tInt 3 sv (mixA (fun i => capV (kthL less i)) n k), Box pt 26 [a, b, c, d]]) (fun k => n - k) 0 (fun _ => rfl) ⟨rfl, trivial⟩ ⟨Nat.zero_le _, hw⟩ ?_
  clear hw
  rintro σ k w ⟨hk, hw⟩
  have hml := mixA_len (fun i => capV (kthL less i)) n k
  repeat (first | refine go_run ?_ | (refine go_newP ?_; clear hw; intro p w hw) | (refine go_newW ?_; clear hw; intro w hw) | (refine go_newS ?_; clear hw; intro s w hw))
  refine go_if (fun h1 => ?_) (fun h1 => ?_)
  · have hkl : k < n := by omega
    repeat (first | refine go_run ?_ | (refine go_newP ?_; clear hw; intro p w hw) | (refine go_newW ?_; clear hw; intro w hw) | (refine go_newS ?_; clear hw; intro s w hw))
    refine go_if (fun h2 => ?_) (fun h2 => ?_)
    · have hlp : 0 < less.length := by omega
      have e1 : ((k % less.length : Nat) : Int) = (k : Int).tmod (less.length : Int) := Int.ofNat_tmod k less.length
      have e2 := Nat.mod_lt k hlp
      have hkv : less.getD ((k : Int).tmod (less.length : Int)).toNat tInt.dflt = kthL less k := by
        unfold kthL
        rw [if_neg (by omega), ← e1, Int.toNat_natCast]
        rfl
      have hrk := hrl _ (mem_getD tInt.dflt (show ((k : Int).tmod (less.length : Int)).toNat < less.length by omega))
      repeat (first | refine go_run ?_ | (refine go_newP ?_; clear hw; intro p w hw) | (refine go_newW ?_; clear hw; intro w hw) | (refine go_newS ?_; clear hw; intro s w hw))
      refine step_pure rfl (pv_conv (ks := .u16) (n := less.getD ((k : Int).tmod (less.length : Int)).toNat tInt.dflt) rfl (by omega) (by omega)) ?_
      have hml2 : ((mixA (fun i => capV (kthL less i)) n k).set k (less.getD ((k : Int).tmod (less.length : Int)).toNat tInt.dflt)).length = n := by rw [List.length_set]; exact hml
      have hgt : ((mixA (fun i => capV (kthL less i)) n k).set k (less.getD ((k : Int).tmod (less.length : Int)).toNat tInt.dflt)).getD k tInt.dflt = kthL less k := by
        rw [hkv]; simp [List.getD, hml, hkl]
      repeat (first | refine go_run ?_ | (refine go_newP ?_; clear hw; intro p w hw) | (refine go_newW ?_; clear hw; intro w hw) | (refine go_newS ?_; clear hw; intro s w hw))
      rw [hgt]
      by_cases h3 : 1000 ≤ kthL less k
      · have hd3 : decide (1000 ≤ kthL less k) = true := decide_eq_true h3
        simp only [hd3]
        repeat (first | refine go_run ?_ | (refine go_newP ?_; clear hw; intro p w hw) | (refine go_newW ?_; clear hw; intro w hw) | (refine go_newS ?_; clear hw; intro s w hw))
        rw [List.set_set, show (1125899906842624 : Int) = (fun i => capV (kthL less i)) k by show _ = capV (kthL less k); unfold capV; rw [if_pos h3], mixA_set hkl] at hw
        exact ⟨k + 1, ⟨rfl, trivial⟩, by repeat (first | exact agree_refl | (apply agree_upd rfl) | (apply agree_mix rfl) | (apply agree_sets rfl)), ⟨by omega, hw⟩, by omega⟩
      · have hd3 : decide (1000 ≤ kthL less k) = false := decide_eq_false h3
        simp only [hd3]
        repeat (first | refine go_run ?_ | (refine go_newP ?_; clear hw; intro p w hw) | (refine go_newW ?_; clear hw; intro w hw) | (refine go_newS ?_; clear hw; intro s w hw))
        rw [hkv, show kthL less k = (fun i => capV (kthL less i)) k by show _ = capV (kthL less k); unfold capV; rw [if_neg h3], mixA_set hkl] at hw
        exact ⟨k + 1, ⟨rfl, trivial⟩, by repeat (first | exact agree_refl | (apply agree_upd rfl) | (apply agree_mix rfl) | (apply agree_sets rfl)), ⟨by omega, hw⟩, by omega⟩
    · have hkv : kthL less k = 0 := by unfold kthL; rw [if_pos (by omega)]
      repeat (first | refine go_run ?_ | (refine go_newP ?_; clear hw; intro p w hw) | (refine go_newW ?_; clear hw; intro w hw) | (refine go_newS ?_; clear hw; intro s w hw))
      rw [mixA_same hkl (by show capV (kthL less k) = 0; rw [hkv]; rfl)] at hw
      exact ⟨k + 1, ⟨rfl, trivial⟩, by repeat (first | exact agree_refl | (apply agree_upd rfl) | (apply agree_mix rfl) | (apply agree_sets rfl)), ⟨by omega, hw⟩, by omega⟩
  have hke : k = n := by omega
  subst hke
  rw [mixA_end, show rowL (fun i => capV (kthL less i)) k = capTab less k from rfl] at hw
  obtain ⟨q1, q2, q3⟩ := capTab_ok hrl k
  have e3 : inf = 1125899906842624 := rfl
  have hq1 : (capTab less k).length = (statesL t.vars).length := by rw [q1, hsl, hn, Int.toNat_natCast]
  have htT : tErr t (capTab less k) = 0 := by
    unfold tErr
    rw [if_neg (by rw [q1]; omega), if_neg (fun ⟨x, hx, h⟩ => by have := q2 x hx; omega)]
  have hH := tab_ok hg hq1 q2
  have hrg := caps_rng (lim := 20000) hg (show k = (statesL t.vars).length by rw [← hq1, q1]) hrl hH (by decide)
  repeat (first | refine go_run ?_ | (refine go_newP ?_; clear hw; intro p w hw) | (refine go_newW ?_; clear hw; intro w hw) | (refine go_newS ?_; clear hw; intro s w hw))
  refine st_call rfl (eTable_spec (ht.at hw) hg (rsO (s := sv) hw) (by omega)) ?_
  rintro _ w' (⟨h1, _⟩ | ⟨_, pe, rfl, hk'⟩)
  · exact absurd htT h1
  replace hw := hw.call1 hk'
  clear hk'
  refine ⟨_, rfl, ?_⟩
  repeat (first | refine go_run ?_ | (refine go_newP ?_; clear hw; intro p w hw) | (refine go_newWr ?_; clear hw; intro w hw) | (refine go_newS ?_; clear hw; intro s w hw))
  refine st_call rfl (Rounds_spec (ev := .pointer (some pe)) (L := 20000) (ht.at hw) hH (.inr ⟨pe, rfl, hw.rdE 0 rfl⟩) (by decide)) ?_
  rintro _ w' (⟨h1, rfl, hk'⟩ | ⟨h1, bv, rfl, hk'⟩)
  · replace hw := hw.call0 hk'
    clear hk'
    refine ⟨_, rfl, ?_⟩
    repeat (first | refine go_run ?_ | (refine go_newP ?_; clear hw; intro p w hw) | (refine go_newWr ?_; clear hw; intro w hw) | (refine go_newS ?_; clear hw; intro s w hw))
    refine st_call rfl (Search_spec (ev := .pointer (some pe)) (L := 20000) (ht.at hw) hH (.inr ⟨pe, rfl, hw.rdE 0 rfl⟩) (by decide)) ?_
    rintro _ w' ⟨pv, rfl, hk'⟩
    replace hw := hw.call1 hk'
    clear hk'
    refine ⟨_, rfl, ?_⟩
    have opv := (rsO (s := pv) hw).one
    rw [h1]
    have hv3 : vdC IR.unknown = 3 := rfl
    rw [hv3]
    repeat (first | refine go_run ?_ | (refine go_newP ?_; clear hw; intro p w hw) | (refine go_newS ?_; clear hw; intro s w hw))
    obtain ⟨p7, hp7⟩ : ∃ p7, p7 = p := ⟨p, rfl⟩
    subst hp7
    refine st_boxAgg (n := 4) (p := p7) (vs := [.int .i64 3, pv, .int .i64 (coR t (runR t (tabH t (capTab less k)) (20000 : Int).toNat)), .int .i64 (runR t (tabH t (capTab less k)) (20000 : Int).toNat).2.1.exp]) rfl rfl hw inferInstance rfl rfl (by simp only [List.all_cons, List.all_nil, opv]; rfl) ?_
    clear hw
    intro w hw
    repeat (first | refine go_run ?_ | (refine go_newP ?_; clear hw; intro p w hw) | (refine go_newWr ?_; clear hw; intro w hw) | (refine go_newS ?_; clear hw; intro s w hw))
    refine st_call rfl is_ten ?_
    rintro _ w' ⟨rfl, hk'⟩
    replace hw := hw.call0 hk'
    clear hk'
    refine ⟨_, rfl, ?_⟩
    replace hw := hw.nil (T := tInt) (e := 3)
    have hd0 : decide (((([] : List Int).length : Nat) : Int) = 0) = true := rfl
    repeat (first | refine go_run ?_ | (refine go_newP ?_; clear hw; intro p w hw) | (refine go_newWr ?_; clear hw; intro w hw) | (refine go_newS ?_; clear hw; intro s w hw))
    simp only [hd0, beq_self_eq_true, beq_tfI, beq_ftI, Bool.false_and, Bool.true_and, Bool.false_or, Bool.true_or, Bool.not_true, Bool.not_false, Bool.cond_true, Bool.cond_false, gv_fI, gv_tI]
    repeat (first | refine go_run ?_ | (refine go_newP ?_; clear hw; intro p w hw) | (refine go_newWr ?_; clear hw; intro w hw) | (refine go_newS ?_; clear hw; intro s w hw))
    exact res_one (v := .bool true) rfl rfl ⟨rfl, sat_none hw⟩
  replace hw := hw.call1 hk'
  clear hk'
  refine ⟨_, rfl, ?_⟩
  repeat (first | refine go_run ?_ | (refine go_newP ?_; clear hw; intro p w hw) | (refine go_newWr ?_; clear hw; intro w hw) | (refine go_newS ?_; clear hw; intro s w hw))
  refine st_call rfl (Search_spec (ev := .pointer (some pe)) (L := 20000) (ht.at hw) hH (.inr ⟨pe, rfl, hw.rdE 1 rfl⟩) (by decide)) ?_
  rintro _ w' ⟨pv, rfl, hk'⟩
  replace hw := hw.call1 hk'
  clear hk'
  refine ⟨_, rfl, ?_⟩
  have opv := (rsO (s := pv) hw).one
  obtain ⟨R, hR⟩ : ∃ R, R = runR t (tabH t (capTab less k)) 20000 := ⟨_, rfl⟩
  rw [show runR t (tabH t (capTab less k)) (20000 : Int).toNat = R from hR.symm] at hw h1 ⊢
  have hvd : vdC R.1 = 1 ∨ vdC R.1 = 2 := by
    cases hh : R.1 with
    | unknown => exact absurd hh h1
    | solved => exact .inl rfl
    | goOn => exact .inr rfl
  repeat (first | refine go_run ?_ | (refine go_newP ?_; clear hw; intro p w hw) | (refine go_newS ?_; clear hw; intro s w hw))
  obtain ⟨p7, hp7⟩ : ∃ p7, p7 = p := ⟨p, rfl⟩
  subst hp7
  refine st_boxAgg (n := 4) (p := p7) (vs := [.int .i64 (vdC R.1), pv, .int .i64 (coR t R), .int .i64 R.2.1.exp]) rfl rfl hw inferInstance rfl rfl (by simp only [List.all_cons, List.all_nil, opv]; rfl) ?_
  clear hw
  intro w hw
  have hd3 : decide (vdC R.1 = 3) = false := decide_eq_false (by omega)
  repeat (first | refine go_run ?_ | (refine go_newP ?_; clear hw; intro p w hw) | (refine go_newWr ?_; clear hw; intro w hw) | (refine go_newS ?_; clear hw; intro s w hw))
  simp only [hd3, beq_self_eq_true, beq_tfI, beq_ftI, Bool.false_and, Bool.true_and, Bool.false_or, Bool.true_or, Bool.not_true, Bool.not_false, Bool.cond_true, Bool.cond_false, gv_fI, gv_tI]
  repeat (first | refine go_run ?_ | (refine go_newP ?_; clear hw; intro p w hw) | (refine go_newWr ?_; clear hw; intro w hw) | (refine go_newS ?_; clear hw; intro s w hw))
  refine st_call rfl (rrounds_spec (lim := 20000) (ht.at hw) (rsO (s := sv) hw) hg hB hq1 q2 (by decide) (by rw [← hR]; exact h1) hrg) ?_
  rintro _ w' ⟨bv2, rfl, hk'⟩
  replace hw := hw.call1 hk'
  clear hk'
  refine ⟨_, rfl, ?_⟩
  rw [← hR] at hw
  repeat (first | refine go_run ?_ | (refine go_newP ?_; clear hw; intro p w hw) | (refine go_newWr ?_; clear hw; intro w hw) | (refine go_newS ?_; clear hw; intro s w hw))
  refine st_call rfl (Ints_spec (rsO (s := bv) hw) (rsO (s := bv2) hw)) ?_
  rintro _ w' ⟨⟨r, rfl, hr⟩, hk'⟩
  replace hw := hw.call0 hk'
  clear hk'
  refine ⟨_, rfl, ?_⟩
  have hr1 : r = true := hr.2 rfl
  subst hr1
  repeat (first | refine go_run ?_ | (refine go_newP ?_; clear hw; intro p w hw) | (refine go_newWr ?_; clear hw; intro w hw) | (refine go_newS ?_; clear hw; intro s w hw))
  exact res_one (v := .bool true) rfl rfl ⟨rfl, sat_none hw⟩
end Go.Proofs.Ytoddgmmkpiojlaa
