
/-
  The statement 'PdbWider' returns true.
-/
import Derived.Test.YtnoiagnmbipppaaWPdbAw
set_option linter.unusedSimpArgs false
set_option linter.unusedVariables false
namespace Go.Proofs.Ytnoiagnmbipppaa
open Go.Sl Go
attribute [local irreducible] vc opsW opsD opV opW PureV ReadV Thn Blk
theorem chosen_all {n : Nat} (h : n ≤ 12) : chosenK 4095 n = upTo (n : Int) := by
  have : ∀ n, n ≤ 12 → chosenK 4095 n = upTo (n : Int) := by decide +kernel
  exact this n h

set_option maxRecDepth 8000 in
set_option maxHeartbeats 4000000 in
theorem PdbWider_walk {w0 : World} {a b c d : Value} {vs : List OpV} {t : TTask} {bits more : Int} (ht : RTask w0 a b c d vs t) (hb1 : 0 ≤ bits) (hb2 : bits ≤ 65535) (hm1 : 0 ≤ more) (hm2 : more ≤ 65535) :
    Calls Try.prog 3 #[.agg #[a, b, c, d], .int .u16 bits, .int .u16 more] w0 fun e w' => e = .returned (.bool true) ∧ Sat w0 w' [] := by
  have ht' := ht
  obtain ⟨ha, hb, hc, hd⟩ := ht
  have hrs := hd.rs
  have hdl := hd.len
  have hll := hrs.big
  have hw := Sat.start w0
  refine calls_of_vc (args := [.agg #[a, b, c, d], .int .u16 bits, .int .u16 more]) mixed Try.func3 rfl (by kernel_rfl) (Nat.le_of_ble_eq_true rfl) ?_
  repeat (first | refine go_run ?_ | (refine go_newP ?_; clear hw; intro p w hw) | (refine go_newWr ?_; clear hw; intro w hw) | (refine go_newS ?_; clear hw; intro s w hw))
  obtain ⟨pt, hpt⟩ : ∃ pt, pt = p := ⟨p, rfl⟩
  subst hpt
  refine step_pure rfl (pv_or16 (a := bits) (b := more) rfl rfl hb1 (by omega) hm1 (by omega)) ?_
  repeat (first | refine go_run ?_ | (refine go_newP ?_; clear hw; intro p w hw) | (refine go_newWr ?_; clear hw; intro w hw) | (refine go_newS ?_; clear hw; intro s w hw))
  refine st_call rfl (fits_spec (ht'.at hw)) ?_
  rintro _ w' ⟨⟨r, rfl, hr⟩, hk'⟩
  replace hw := hw.call0 hk'
  clear hk'
  refine ⟨_, rfl, ?_⟩
  cases r
  · repeat (first | refine go_run ?_ | (refine go_newP ?_; clear hw; intro p w hw) | (refine go_newWr ?_; clear hw; intro w hw) | (refine go_newS ?_; clear hw; intro s w hw))
    refine st_call rfl pawake_spec ?_
    rintro _ w' ⟨rfl, hk'⟩
    replace hw := hw.call0 hk'
    clear hk'
    refine ⟨_, rfl, ?_⟩
    repeat (first | refine go_run ?_ | (refine go_newP ?_; clear hw; intro p w hw) | (refine go_newW ?_; clear hw; intro w hw) | (refine go_newS ?_; clear hw; intro s w hw))
    exact res_one (v := .bool true) rfl rfl ⟨rfl, sat_none hw⟩
  obtain ⟨hs, hf⟩ := hr.1 rfl
  clear hr
  have hg := hs.good
  have hV := hs.vars
  have hO := hs.ops
  have hMy := hs.many
  have hlen : (statesL t.vars).length ≤ 512 := by rw [statesL_len hg.pos]; omega
  have hL := chosen_inV t.vars bits
  have hM := chosen_inV t.vars ((bits.toNat ||| more.toNat : Nat) : Int)
  have hq : ∀ v ∈ chosenK bits t.vars.length, v ∈ chosenK ((bits.toNat ||| more.toNat : Nat) : Int) t.vars.length := by
    intro v hv
    rw [← Int.toNat_of_nonneg hb1] at hv
    exact chosen_or v hv
  obtain ⟨L, hLe⟩ : ∃ L, L = chosenK bits t.vars.length := ⟨_, rfl⟩
  obtain ⟨M, hMe⟩ : ∃ M, M = chosenK ((bits.toNat ||| more.toNat : Nat) : Int) t.vars.length := ⟨_, rfl⟩
  rw [← hLe] at hL hq
  rw [← hMe] at hM hq hf
  obtain ⟨he1, he2⟩ := small_err hs hL
  obtain ⟨he3, he4⟩ := small_err hs hM
  have hN : InV t.vars [] := ⟨fun v hv => by simp at hv, List.Pairwise.nil⟩
  obtain ⟨he5, he6⟩ := small_err hs hN
  have hbz : ∀ {L : List Int}, pErr t L = 0 → bErr t L [] = 0 := fun he => bErr_zero hg ⟨by simp, fun ⟨x, hx, _⟩ => by simp at hx⟩ he
  repeat (first | refine go_run ?_ | (refine go_newP ?_; clear hw; intro p w hw) | (refine go_newWr ?_; clear hw; intro w hw) | (refine go_newS ?_; clear hw; intro s w hw))
  refine st_call rfl pawake_spec ?_
  rintro _ w' ⟨rfl, hk'⟩
  replace hw := hw.call0 hk'
  clear hk'
  refine ⟨_, rfl, ?_⟩
  repeat (first | refine go_run ?_ | (refine go_newP ?_; clear hw; intro p w hw) | (refine go_newWr ?_; clear hw; intro w hw) | (refine go_newS ?_; clear hw; intro s w hw))
  refine vc_plan [.op 0, .op 1, .op 2, .op 3, .chk 0, .op 4, .op 5, .op 6, .op 7, .op 8, .op 9] hw (by kernel_rfl) ?_; clear hw; intro w hw
  repeat (first | refine go_run ?_ | (refine go_newP ?_; clear hw; intro p w hw) | (refine go_newWr ?_; clear hw; intro w hw) | (refine go_newS ?_; clear hw; intro s w hw))
  refine st_call rfl (chosen_spec (ht'.at hw) (by omega)) ?_
  rintro _ w' ⟨s1, rfl, hk'⟩
  replace hw := hw.call1 hk'
  clear hk'
  refine ⟨_, rfl, ?_⟩
  rw [← hLe] at hw
  repeat (first | refine go_run ?_ | (refine go_newP ?_; clear hw; intro p w hw) | (refine go_newWr ?_; clear hw; intro w hw) | (refine go_newS ?_; clear hw; intro s w hw))
  refine st_call rfl (Build_spec (kv := .slice none 0 0) (vp := s1) (L := L) (cs := []) (ht'.at hw) (rsO hw) RS.nil) ?_
  rintro _ w' (⟨h1, _⟩ | ⟨_, _, hUl, hUc, pa, D, rfl, hD, hk'⟩)
  · exact absurd (hbz he1) h1
  replace hw := hw.call1 hk'
  clear hk'
  refine ⟨_, rfl, ?_⟩
  have hdb := dbI_ok he1 hD
  repeat (first | refine go_run ?_ | (refine go_newP ?_; clear hw; intro p w hw) | (refine go_newWr ?_; clear hw; intro w hw) | (refine go_newS ?_; clear hw; intro s w hw))
  refine vc_plan [.op 0, .op 1, .op 2, .op 3, .op 4, .op 5, .chk 0, .op 6, .op 7, .op 8, .op 9, .op 10, .op 11] hw (by kernel_rfl) ?_; clear hw; intro w hw
  repeat (first | refine go_run ?_ | (refine go_newP ?_; clear hw; intro p w hw) | (refine go_newWr ?_; clear hw; intro w hw) | (refine go_newS ?_; clear hw; intro s w hw))
  refine step_pure rfl (pv_or16 (a := bits) (b := more) rfl rfl hb1 (by omega) hm1 (by omega)) ?_
  repeat (first | refine go_run ?_ | (refine go_newP ?_; clear hw; intro p w hw) | (refine go_newWr ?_; clear hw; intro w hw) | (refine go_newS ?_; clear hw; intro s w hw))
  refine st_call rfl (chosen_spec (ht'.at hw) (by omega)) ?_
  rintro _ w' ⟨s2, rfl, hk'⟩
  replace hw := hw.call1 hk'
  clear hk'
  refine ⟨_, rfl, ?_⟩
  rw [← hMe] at hw
  repeat (first | refine go_run ?_ | (refine go_newP ?_; clear hw; intro p w hw) | (refine go_newWr ?_; clear hw; intro w hw) | (refine go_newS ?_; clear hw; intro s w hw))
  refine st_call rfl (Build_spec (kv := .slice none 0 0) (vp := s2) (L := M) (cs := []) (ht'.at hw) (rsO hw) RS.nil) ?_
  rintro _ w' (⟨h1, _⟩ | ⟨_, _, _, _, pb, D2, rfl, hD2, hk'⟩)
  · exact absurd (hbz he3) h1
  replace hw := hw.call1 hk'
  clear hk'
  refine ⟨_, rfl, ?_⟩
  have hdb2 := dbI_ok he3 hD2
  repeat (first | refine go_run ?_ | (refine go_newP ?_; clear hw; intro p w hw) | (refine go_newWr ?_; clear hw; intro w hw) | (refine go_newS ?_; clear hw; intro s w hw))
  refine st_call rfl (Build_spec (kv := .slice none 0 0) (vp := .slice none 0 0) (L := []) (cs := []) (ht'.at hw) RS.nil RS.nil) ?_
  rintro _ w' (⟨h1, _⟩ | ⟨_, _, _, _, pn, D3, rfl, hD3, hk'⟩)
  · exact absurd (hbz he5) h1
  replace hw := hw.call1 hk'
  clear hk'
  refine ⟨_, rfl, ?_⟩
  have hdb3 := dbI_ok he5 hD3
  have hw : Sat w0 w' [DbO pn (dbI t [] D3), DbO pb (dbI t M D2), DbO pa (dbI t L D), Box pt 26 [a, b, c, d]] := by
    have hw2 : Sat w0 w' [DbO pn (dbI t [] D3), DbO pb (dbI t M D2), OS tInt 3 s2 M, DbO pa (dbI t L D), OS tInt 3 s1 L, Box pt 26 [a, b, c, d]] := hw
    exact hw2.sel
  repeat (first | refine go_run ?_ | (refine go_newP ?_; clear hw; intro p w hw) | (refine go_newW ?_; clear hw; intro w hw) | (refine go_newS ?_; clear hw; intro s w hw))
  refine st_call rfl (States_spec (ha.at hw) hg.pos hg.vars (by omega)) ?_
  rintro _ w' ⟨sv, ss, rfl, hk'⟩
  replace hw := hw.call2 hk'
  clear hk'
  have hss := hw.rowsLen
  refine ⟨_, rfl, ?_⟩
  have hw : Sat w0 w' [RowsAt tInt 3 ss (statesL t.vars), OS tVal 22 sv ss, DbO pn (dbI t [] D3), DbO pb (dbI t M D2), DbO pa (dbI t L D), Box pt 26 [a, b, c, d]] := hw
  repeat (first | refine go_run ?_ | (refine go_newP ?_; clear hw; intro p w hw) | (refine go_newW ?_; clear hw; intro w hw) | (refine go_newS ?_; clear hw; intro s w hw))
  refine vc_loop [6, 14, 65, 66, 67, 68, 69, 70, 71, 72, 73, 74, 75, 76, 77, 78, 79, 80, 81, 82] (G := Nat) (fun k => [(65, .int .i64 k)]) (fun k w => k ≤ (statesL t.vars).length ∧ Sat w0 w [RowsAt tInt 3 ss (statesL t.vars), OS tVal 22 sv ss, DbO pn (dbI t [] D3), DbO pb (dbI t M D2), DbO pa (dbI t L D), Box pt 26 [a, b, c, d]]) (fun k => (statesL t.vars).length - k) 0 (fun _ => rfl) ⟨rfl, trivial⟩ ⟨Nat.zero_le _, hw⟩ ?_
  clear hw
  rintro σ k w ⟨hk, hw⟩
  repeat (first | refine go_run ?_ | (refine go_newP ?_; clear hw; intro p w hw) | (refine go_newW ?_; clear hw; intro w hw) | (refine go_newS ?_; clear hw; intro s w hw))
  refine go_if (fun h5 => ?_) (fun h5 => ?_)
  · have hkl : k < (statesL t.vars).length := by omega
    obtain ⟨hst, hrk⟩ := statesL_at hg.pos hkl
    have hv1 : valD (dbI t L D) ((statesL t.vars).getD k []) = dg D (idxL t.vars L ((statesL t.vars).getD k [])) := valD_ok hst
    have hv2 : valD (dbI t M D2) ((statesL t.vars).getD k []) = dg D2 (idxL t.vars M ((statesL t.vars).getD k [])) := valD_ok hst
    have hv3 : valD (dbI t [] D3) ((statesL t.vars).getD k []) = 0 := (valD_ok hst).trans (dist_empty hg hD3 hst)
    have hna := dist_narrow hg hM hL hq hD hD2 hst
    rw [← hv1, ← hv2] at hna
    repeat (first | refine go_run ?_ | (refine go_newP ?_; clear hw; intro p w hw) | (refine go_newW ?_; clear hw; intro w hw) | (refine go_newS ?_; clear hw; intro s w hw))
    refine st_call rfl (Value_spec (p := pa) (rdbO hw) hdb (hw.row hkl)) ?_
    rintro _ w' ⟨rfl, hk'⟩
    replace hw := hw.call0 hk'
    clear hk'
    refine ⟨_, rfl, ?_⟩
    repeat (first | refine go_run ?_ | (refine go_newP ?_; clear hw; intro p w hw) | (refine go_newW ?_; clear hw; intro w hw) | (refine go_newS ?_; clear hw; intro s w hw))
    refine st_call rfl (Value_spec (p := pb) (rdbO hw) hdb2 (hw.row hkl)) ?_
    rintro _ w' ⟨rfl, hk'⟩
    replace hw := hw.call0 hk'
    clear hk'
    refine ⟨_, rfl, ?_⟩
    have hde : decide (valD (dbI t M D2) ((statesL t.vars).getD k []) < valD (dbI t L D) ((statesL t.vars).getD k [])) = false := decide_eq_false (by omega)
    repeat (first | refine go_run ?_ | (refine go_newP ?_; clear hw; intro p w hw) | (refine go_newW ?_; clear hw; intro w hw) | (refine go_newS ?_; clear hw; intro s w hw))
    simp only [hde, gvff]
    repeat (first | refine go_run ?_ | (refine go_newP ?_; clear hw; intro p w hw) | (refine go_newW ?_; clear hw; intro w hw) | (refine go_newS ?_; clear hw; intro s w hw))
    refine st_call rfl (Value_spec (p := pn) (rdbO hw) hdb3 (hw.row hkl)) ?_
    rintro _ w' ⟨rfl, hk'⟩
    replace hw := hw.call0 hk'
    clear hk'
    rw [hv3]
    refine ⟨_, rfl, ?_⟩
    repeat (first | refine go_run ?_ | (refine go_newP ?_; clear hw; intro p w hw) | (refine go_newW ?_; clear hw; intro w hw) | (refine go_newS ?_; clear hw; intro s w hw))
    exact ⟨k + 1, ⟨rfl, trivial⟩, by repeat (first | exact agree_refl | (apply agree_upd rfl) | (apply agree_mix rfl) | (apply agree_sets rfl)), ⟨by omega, hw⟩, by omega⟩
  repeat (first | refine go_run ?_ | (refine go_newP ?_; clear hw; intro p w hw) | (refine go_newW ?_; clear hw; intro w hw) | (refine go_newS ?_; clear hw; intro s w hw))
  refine st_call rfl (Many_spec (m := 512) (ha.at hw) hg.pos (by decide) (by decide)) ?_
  rintro _ w' ⟨rfl, hk'⟩
  replace hw := hw.call0 hk'
  clear hk'
  refine ⟨_, rfl, ?_⟩
  repeat (first | refine go_run ?_ | (refine go_newP ?_; clear hw; intro p w hw) | (refine go_newW ?_; clear hw; intro w hw) | (refine go_newS ?_; clear hw; intro s w hw))
  refine go_if (fun h6 => ?_) (fun h6 => ?_)
  · repeat (first | refine go_run ?_ | (refine go_newP ?_; clear hw; intro p w hw) | (refine go_newW ?_; clear hw; intro w hw) | (refine go_newS ?_; clear hw; intro s w hw))
    exact res_one (v := .bool true) rfl rfl ⟨rfl, sat_none hw⟩
  have hall := inV_all t.vars
  obtain ⟨he7, he8⟩ := small_err hs hall
  repeat (first | refine go_run ?_ | (refine go_newP ?_; clear hw; intro p w hw) | (refine go_newWr ?_; clear hw; intro w hw) | (refine go_newS ?_; clear hw; intro s w hw))
  refine vc_plan [.op 0, .op 1, .op 2, .chk 0, .op 3, .op 4, .op 5, .op 6, .op 7, .op 8] hw (by kernel_rfl) ?_; clear hw; intro w hw
  repeat (first | refine go_run ?_ | (refine go_newP ?_; clear hw; intro p w hw) | (refine go_newWr ?_; clear hw; intro w hw) | (refine go_newS ?_; clear hw; intro s w hw))
  refine st_call rfl (chosen_spec (ht'.at hw) (by omega)) ?_
  rintro _ w' ⟨s3, rfl, hk'⟩
  replace hw := hw.call1 hk'
  clear hk'
  refine ⟨_, rfl, ?_⟩
  rw [chosen_all hV] at hw
  repeat (first | refine go_run ?_ | (refine go_newP ?_; clear hw; intro p w hw) | (refine go_newWr ?_; clear hw; intro w hw) | (refine go_newS ?_; clear hw; intro s w hw))
  refine st_call rfl (Build_spec (kv := .slice none 0 0) (vp := s3) (L := upTo (t.vars.length : Int)) (cs := []) (ht'.at hw) (rsO hw) RS.nil) ?_
  rintro _ w' (⟨h1, _⟩ | ⟨_, _, _, _, pc, D4, rfl, hD4, hk'⟩)
  · exact absurd (hbz he7) h1
  replace hw := hw.call1 hk'
  clear hk'
  refine ⟨_, rfl, ?_⟩
  have hdb4 := dbI_ok he7 hD4
  repeat (first | refine go_run ?_ | (refine go_newP ?_; clear hw; intro p w hw) | (refine go_newWr ?_; clear hw; intro w hw) | (refine go_newS ?_; clear hw; intro s w hw))
  refine vc_plan [.op 0, .op 1, .op 2, .op 3, .op 5, .op 4, .chk 5, .op 6, .op 7, .op 8, .op 9] hw (by kernel_rfl) ?_; clear hw; intro w hw
  repeat (first | refine go_run ?_ | (refine go_newP ?_; clear hw; intro p w hw) | (refine go_newWr ?_; clear hw; intro w hw) | (refine go_newS ?_; clear hw; intro s w hw))
  refine st_call rfl (Table_spec (p := pc) (rdbO hw) hdb4) ?_
  rintro _ w' ⟨s4, rfl, hk'⟩
  replace hw := hw.call1 hk'
  clear hk'
  refine ⟨_, rfl, ?_⟩
  repeat (first | refine go_run ?_ | (refine go_newP ?_; clear hw; intro p w hw) | (refine go_newWr ?_; clear hw; intro w hw) | (refine go_newS ?_; clear hw; intro s w hw))
  refine st_call rfl (Distances_spec (kv := .slice none 0 0) (ht'.at hw) (.own rfl rfl) hg (by omega)) ?_
  rintro _ w' ⟨bv, D', rfl, hD', hk'⟩
  replace hw := hw.call1 hk'
  clear hk'
  refine ⟨_, rfl, ?_⟩
  obtain rfl := dist_all hg hD4 hD'
  repeat (first | refine go_run ?_ | (refine go_newP ?_; clear hw; intro p w hw) | (refine go_newWr ?_; clear hw; intro w hw) | (refine go_newS ?_; clear hw; intro s w hw))
  refine st_call rfl (Ints_spec (a := s4) (b := bv) (rsO hw) (rsO hw)) ?_
  rintro _ w' ⟨⟨r, rfl, hr⟩, hk'⟩
  replace hw := hw.call0 hk'
  clear hk'
  obtain rfl : r = true := hr.2 rfl
  refine ⟨_, rfl, ?_⟩
  repeat (first | refine go_run ?_ | (refine go_newP ?_; clear hw; intro p w hw) | (refine go_newWr ?_; clear hw; intro w hw) | (refine go_newS ?_; clear hw; intro s w hw))
  exact res_one (v := .bool true) rfl rfl ⟨rfl, sat_none hw⟩
end Go.Proofs.Ytnoiagnmbipppaa
