
/-
  The statement 'PatternsAdditive' returns true.
-/
import Derived.Test.YtemnlcnjpjdoaaaGreatDoorWRef42c
import Derived.Test.YtemnlcnjpjdoaaaGreatDoorW42c
set_option linter.unusedSimpArgs false
set_option linter.unusedVariables false
namespace Go.Proofs.YtemnlcnjpjdoaaaGreatDoor
open Go.Sl Go
attribute [local irreducible] vc opsW opsD opV opW PureV ReadV Thn Blk
set_option maxRecDepth 8000 in
theorem paCliques_ok {w0 : World} {a b c d s : Value} {vs : List OpV} {t : TTask} {ss : List Value} {Ls : List (List Int)} (ht : RTask w0 a b c d vs t) (hl : RLs w0 s ss Ls) (hT : TabB w0) (hp : PatsOk t Ls) :
    Calls Tryz.prog 29 #[.agg #[a, b, c, d], s] w0 fun e w' => ∃ fv fs Cs, e = .returned (.tuple #[fv, .nilIface]) ∧ LexS Cs ∧ (Ls.length = 0 → Cs = []) ∧ (0 < Ls.length → CliqL Ls.length (nbA Ls.length (arcP t Ls Ls.length)) Cs) ∧ Sat w0 w' [RowsAt tInt 3 fs Cs, OS tVal 22 fv fs] := by
  refine (paCliques_spec ht hl hT).mono fun e w' h => ?_
  rcases h with ⟨h, _⟩ | ⟨_, h, _⟩ | ⟨_, hz, he, hk⟩ | ⟨_, h0, _, h, _⟩ | ⟨_, h0, _, fv, fs, Cs, he, h1, h2, _, hk⟩
  · exact absurd hp.lerr h
  · have := hp.len; omega
  · exact ⟨.slice none 0 0, [], [], he, List.Pairwise.nil, fun _ => rfl, fun h => by omega, (hk.nil (T := tVal) (e := 22)).rows0⟩
  · exact absurd h (hp.full h0)
  · exact ⟨fv, fs, Cs, he, h1, fun h => by omega, fun _ => h2, hk⟩
theorem clq_eq {n : Nat} {M : Nat → Nat} {Cs Es : List (List Int)} (h1 : LexS Cs) (h2 : LexS Es) (z1 : n = 0 → Cs = []) (z2 : n = 0 → Es = []) (c1 : 0 < n → CliqL n M Cs) (c2 : 0 < n → CliqL n M Es) : Cs = Es := by
  by_cases e : n = 0
  · rw [z1 e, z2 e]
  · exact h1.eq h2 fun l => (c1 (by omega) l).trans (c2 (by omega) l).symm
theorem lerr_two {t : TTask} {A B : List Int} (hg : GoodT t) (hA : InV t.vars A) (hB : InV t.vars B) : lErr t [A, B] = 0 := by
  unfold lErr
  rw [if_neg (by rw [(good_iff t).2 hg]; decide), if_pos (lErr_two.2 ⟨hA.pat, hB.pat⟩)]
set_option maxRecDepth 8000 in
set_option maxHeartbeats 4000000 in
theorem PatternsAdditive_walk {w0 : World} {a b c d xv : Value} {vs : List OpV} {t : TTask} {xs : List Int} (ht : RTask w0 a b c d vs t) (hx : RS tU16 w0 xv xs) (hT : TabB w0) :
    Calls Tryz.prog 7 #[.agg #[a, b, c, d], xv] w0 fun e w' => e = .returned (.bool true) ∧ Sat w0 w' [] := by
  have ht' := ht
  obtain ⟨ha, hb, hc, hd⟩ := ht
  have hrs := hd.rs
  have hdl := hd.len
  have hll := hrs.big
  have hw := Sat.start w0
  refine calls_of_vc (args := [.agg #[a, b, c, d], xv]) mixed Tryz.func7 rfl (by kernel_rfl) (Nat.le_of_ble_eq_true rfl) ?_
  repeat (first | refine go_run ?_ | (refine go_newP ?_; clear hw; intro p w hw) | (refine go_newWr ?_; clear hw; intro w hw) | (refine go_newS ?_; clear hw; intro s w hw))
  obtain ⟨pt, hpt⟩ : ∃ pt, pt = p := ⟨p, rfl⟩
  subst hpt
  refine st_call rfl (picked42_spec (ht'.at hw) (hx.at hw)) ?_
  rintro _ w' (⟨_, rfl, hk'⟩ | ⟨hpk, lv, ls, rfl, hk'⟩)
  · replace hw := hw.call0 hk'
    clear hk'
    refine ⟨_, rfl, ?_⟩
    repeat (first | refine go_run ?_ | (refine go_newP ?_; clear hw; intro p w hw) | (refine go_newW ?_; clear hw; intro w hw) | (refine go_newS ?_; clear hw; intro s w hw))
    refine st_call rfl (awake42_spec (hT.at hw)) ?_
    rintro _ w' ⟨rfl, hk'⟩
    replace hw := hw.call0 hk'
    clear hk'
    refine ⟨_, rfl, ?_⟩
    repeat (first | refine go_run ?_ | (refine go_newP ?_; clear hw; intro p w hw) | (refine go_newW ?_; clear hw; intro w hw) | (refine go_newS ?_; clear hw; intro s w hw))
    exact res_one (v := .bool true) rfl rfl ⟨rfl, sat_none hw⟩
  replace hw := hw.call2 hk'
  clear hk'
  refine ⟨_, rfl, ?_⟩
  have hpo := hpk.pats
  have hs := hpk.1
  have hg := hs.good
  have hV := hs.vars
  have hO := hs.ops
  have hM := hs.many
  have hlen : (statesL t.vars).length ≤ 512 := by rw [statesL_len hg.pos]; omega
  have hL6 : (pickLs t xs).length ≤ 6 := by rw [pickLs_len]; exact hpk.2.1
  obtain ⟨Ls, hLs⟩ : ∃ Ls, Ls = pickLs t xs := ⟨_, rfl⟩
  rw [← hLs] at hw hpo hL6
  repeat (first | refine go_run ?_ | (refine go_newP ?_; clear hw; intro p w hw) | (refine go_newW ?_; clear hw; intro w hw) | (refine go_newS ?_; clear hw; intro s w hw))
  refine st_call rfl (awake42_spec (hT.at hw)) ?_
  rintro _ w' ⟨rfl, hk'⟩
  replace hw := hw.call0 hk'
  clear hk'
  refine ⟨_, rfl, ?_⟩
  repeat (first | refine go_run ?_ | (refine go_newP ?_; clear hw; intro p w hw) | (refine go_newW ?_; clear hw; intro w hw) | (refine go_newS ?_; clear hw; intro s w hw))
  refine vc_loop [4, 8, 10, 11, 12, 13, 14, 32, 33, 34, 35, 36, 37, 38, 39, 40, 41, 42, 43, 44, 45, 46, 47, 48, 49, 50, 51, 52, 53, 54, 55, 56, 57, 58, 59, 60, 61, 62, 63, 64, 65, 66, 67, 68, 69, 70, 71, 72, 73, 74, 75, 76] (G := Nat) (fun k => [(32, .int .i64 k)]) (fun k w => k ≤ Ls.length ∧ Sat w0 w [RowsAt tInt 3 ls Ls, OS tVal 22 lv ls, Box pt 26 [a, b, c, d]]) (fun k => Ls.length - k) 0 (fun _ => rfl) ⟨rfl, trivial⟩ ⟨Nat.zero_le _, hw⟩ ?_
  clear hw
  rintro σ k w ⟨hk, hw⟩
  have hol := hw.rowsLen
  repeat (first | refine go_run ?_ | (refine go_newP ?_; clear hw; intro p w hw) | (refine go_newW ?_; clear hw; intro w hw) | (refine go_newS ?_; clear hw; intro s w hw))
  refine go_if (fun h1 => ?_) (fun h1 => ?_)
  · have hkl : k < Ls.length := by omega
    have hrk := hw.row hkl
    repeat (first | refine go_run ?_ | (refine go_newP ?_; clear hw; intro p w hw) | (refine go_newW ?_; clear hw; intro w hw) | (refine go_newS ?_; clear hw; intro s w hw))
    refine vc_loop [4, 10, 11, 12, 13, 14, 38, 39, 40, 41, 42, 43, 44, 45, 46, 47, 48, 49, 50, 51, 52, 53, 54, 55, 56, 57, 58, 59, 60, 61, 62, 63, 64, 65, 66, 67, 68, 69, 70, 71, 72, 73, 74, 75] (G := Nat) (fun j => [(38, .int .i64 j)]) (fun j w => j ≤ Ls.length ∧ Sat w0 w [RowsAt tInt 3 ls Ls, OS tVal 22 lv ls, Box pt 26 [a, b, c, d]]) (fun j => Ls.length - j) 0 (fun _ => rfl) ⟨rfl, trivial⟩ ⟨Nat.zero_le _, hw⟩ ?_
    clear hw hrk
    rintro σ1 j w ⟨hj, hw⟩
    repeat (first | refine go_run ?_ | (refine go_newP ?_; clear hw; intro p w hw) | (refine go_newW ?_; clear hw; intro w hw) | (refine go_newS ?_; clear hw; intro s w hw))
    refine go_if (fun h2 => ?_) (fun h2 => ?_)
    · have hjl : j < Ls.length := by omega
      have hrk := hw.row hkl
      have hrj := hw.row hjl
      have he1 := lerr_two hg (hpo.inv k hkl) (hpo.inv j hjl)
      have he2 := lerr_two hg (hpo.inv j hjl) (hpo.inv k hkl)
      repeat (first | refine go_run ?_ | (refine go_newP ?_; clear hw; intro p w hw) | (refine go_newW ?_; clear hw; intro w hw) | (refine go_newS ?_; clear hw; intro s w hw))
      refine st_call rfl (Additive_spec (xa := vget ls k) (xb := vget ls j) (ht'.at hw) (hw.row hkl) (hw.row hjl)) ?_
      rintro _ w' ⟨⟨r1, rfl, hr1⟩, hk'⟩
      replace hw := hw.call0 hk'
      clear hk'
      rw [he1, errV_zero rfl]
      refine ⟨_, rfl, ?_⟩
      repeat (first | refine go_run ?_ | (refine go_newP ?_; clear hw; intro p w hw) | (refine go_newW ?_; clear hw; intro w hw) | (refine go_newS ?_; clear hw; intro s w hw))
      refine st_call rfl (Additive_spec (xa := vget ls j) (xb := vget ls k) (ht'.at hw) (hw.row hjl) (hw.row hkl)) ?_
      rintro _ w' ⟨⟨r2, rfl, hr2⟩, hk'⟩
      replace hw := hw.call0 hk'
      clear hk'
      rw [he2, errV_zero rfl]
      refine ⟨_, rfl, ?_⟩
      have hr : r1 = r2 := Bool.eq_iff_iff.2 (hr1.trans ⟨fun h => hr2.2 ⟨he2, addT_symm h.2⟩, fun h => ⟨he1, addT_symm (hr2.1 h).2⟩⟩)
      subst hr
      cases r1
      · repeat (first | refine go_run ?_ | (refine go_newP ?_; clear hw; intro p w hw) | (refine go_newW ?_; clear hw; intro w hw) | (refine go_newS ?_; clear hw; intro s w hw))
        refine st_call rfl (rAdditive_spec (xa := vget ls k) (xb := vget ls j) (ht'.at hw) (hw.row hkl) (hw.row hjl)) ?_
        rintro _ w' ⟨⟨r3, rfl, hr3⟩, hk'⟩
        replace hw := hw.call0 hk'
        clear hk'
        refine ⟨_, rfl, ?_⟩
        cases r3
        · repeat (first | refine go_run ?_ | (refine go_newP ?_; clear hw; intro p w hw) | (refine go_newW ?_; clear hw; intro w hw) | (refine go_newS ?_; clear hw; intro s w hw))
          exact ⟨j + 1, ⟨rfl, trivial⟩, by repeat (first | exact agree_refl | (apply agree_upd rfl) | (apply agree_mix rfl) | (apply agree_sets rfl)), ⟨by omega, hw⟩, by omega⟩
        · have := hr1.2 ⟨he1, hr3.1 rfl⟩
          cases this
      · repeat (first | refine go_run ?_ | (refine go_newP ?_; clear hw; intro p w hw) | (refine go_newW ?_; clear hw; intro w hw) | (refine go_newS ?_; clear hw; intro s w hw))
        refine st_call rfl (rAdditive_spec (xa := vget ls k) (xb := vget ls j) (ht'.at hw) (hw.row hkl) (hw.row hjl)) ?_
        rintro _ w' ⟨⟨r3, rfl, hr3⟩, hk'⟩
        replace hw := hw.call0 hk'
        clear hk'
        refine ⟨_, rfl, ?_⟩
        obtain rfl : r3 = true := hr3.2 (hr1.1 rfl).2
        repeat (first | refine go_run ?_ | (refine go_newP ?_; clear hw; intro p w hw) | (refine go_newW ?_; clear hw; intro w hw) | (refine go_newS ?_; clear hw; intro s w hw))
        exact ⟨j + 1, ⟨rfl, trivial⟩, by repeat (first | exact agree_refl | (apply agree_upd rfl) | (apply agree_mix rfl) | (apply agree_sets rfl)), ⟨by omega, hw⟩, by omega⟩
    · repeat (first | refine go_run ?_ | (refine go_newP ?_; clear hw; intro p w hw) | (refine go_newW ?_; clear hw; intro w hw) | (refine go_newS ?_; clear hw; intro s w hw))
      exact ⟨k + 1, ⟨rfl, trivial⟩, by repeat (first | exact agree_refl | (apply agree_upd rfl) | (apply agree_mix rfl) | (apply agree_sets rfl)), ⟨by omega, hw⟩, by omega⟩
  repeat (first | refine go_run ?_ | (refine go_newP ?_; clear hw; intro p w hw) | (refine go_newW ?_; clear hw; intro w hw) | (refine go_newS ?_; clear hw; intro s w hw))
  refine st_call rfl (paCliques_ok (s := lv) (ss := ls) (Ls := Ls) (ht'.at hw) ⟨hw.rs 1 rfl, hw.rowsLen, fun i hi => hw.row hi⟩ (hT.at hw) hpo) ?_
  rintro _ w' ⟨fv, fs, Cs, rfl, hl1, hz1, hq1, hk'⟩
  replace hw := hw.call2 hk'
  clear hk'
  refine ⟨_, rfl, ?_⟩
  repeat (first | refine go_run ?_ | (refine go_newP ?_; clear hw; intro p w hw) | (refine go_newW ?_; clear hw; intro w hw) | (refine go_newS ?_; clear hw; intro s w hw))
  refine st_call rfl (r42Cliques_spec (s := lv) (ss := ls) (Ls := Ls) (ht'.at hw) ⟨hw.rs 3 rfl, (hw.focus 2 rfl).rowsLen, fun i hi => (hw.focus 2 rfl).row hi⟩ (by omega)) ?_
  rintro _ w' ⟨qv, qs, Es, rfl, hl2, hz2, hq2, hk'⟩
  replace hw := hw.call2 hk'
  clear hk'
  refine ⟨_, rfl, ?_⟩
  repeat (first | refine go_run ?_ | (refine go_newP ?_; clear hw; intro p w hw) | (refine go_newW ?_; clear hw; intro w hw) | (refine go_newS ?_; clear hw; intro s w hw))
  refine st_call rfl (lists_spec (xa := fv) (xb := qv) (sa := fs) (sb := qs) (A := Cs) (B := Es) ⟨hw.rs 3 rfl, (hw.focus 2 rfl).rowsLen, fun i hi => (hw.focus 2 rfl).row hi⟩ ⟨hw.rs 1 rfl, hw.rowsLen, fun i hi => hw.row hi⟩) ?_
  rintro _ w' ⟨⟨r, rfl, hr⟩, hk'⟩
  replace hw := hw.call0 hk'
  clear hk'
  obtain rfl : r = true := hr.2 (clq_eq hl1 hl2 hz1 hz2 hq1 hq2)
  refine ⟨_, rfl, ?_⟩
  repeat (first | refine go_run ?_ | (refine go_newP ?_; clear hw; intro p w hw) | (refine go_newW ?_; clear hw; intro w hw) | (refine go_newS ?_; clear hw; intro s w hw))
  exact res_one (v := .bool true) rfl rfl ⟨rfl, sat_none hw⟩
end Go.Proofs.YtemnlcnjpjdoaaaGreatDoor
