
/-
  The statement 'PdbTables' returns true.
-/
import Derived.Test.YtnichjjloipghaaWPdbAw
import Derived.Test.YtnichjjloipghaaWRef40b
namespace Go.Proofs.Ytnichjjloipghaa
open Go.Sl Go
attribute [local irreducible] vc opsW opsD opV opW PureV ReadV Thn Blk

set_option maxRecDepth 8000 in
set_option maxHeartbeats 4000000 in
theorem PdbTables_walk {w0 : World} {a b c d xv : Value} {vs : List OpV} {t : TTask} {bits : Int} {xs : List Int} (ht : RTask w0 a b c d vs t) (hx : RS tU16 w0 xv xs) (hxr : ∀ x ∈ xs, 0 ≤ x ∧ x ≤ 65535) :
    Calls Try.prog 8 #[.agg #[a, b, c, d], .int .u16 bits, xv] w0 fun e w' => e = .returned (.bool true) ∧ Sat w0 w' [] := by
  have ht' := ht
  obtain ⟨ha, hb, hc, hd⟩ := ht
  have hrs := hd.rs
  have hdl := hd.len
  have hll := hrs.big
  have hw := Sat.start w0
  refine calls_of_vc (args := [.agg #[a, b, c, d], .int .u16 bits, xv]) mixed Try.func8 rfl (by kernel_rfl) (Nat.le_of_ble_eq_true rfl) ?_
  repeat (first | refine go_run ?_ | (refine go_newP ?_; clear hw; intro p w hw) | (refine go_newWr ?_; clear hw; intro w hw) | (refine go_newS ?_; clear hw; intro s w hw))
  obtain ⟨pt, hpt⟩ : ∃ pt, pt = p := ⟨p, rfl⟩
  subst hpt
  refine st_call rfl (fits_spec (ht'.at hw)) ?_
  rintro _ w' ⟨⟨r, rfl, hr⟩, hk'⟩
  replace hw := hw.call0 hk'
  clear hk'
  refine ⟨_, rfl, ?_⟩
  cases r
  · repeat (first | refine go_run ?_ | (refine go_newP ?_; clear hw; intro p w hw) | (refine go_newWr ?_; clear hw; intro w hw) | (refine go_newS ?_; clear hw; intro s w hw))
    refine st_call rfl pawake_spec ?_
    rintro _ w' ⟨rfl, hk'⟩
    replace hw := hw.call0 hk'
    clear hk'
    refine ⟨_, rfl, ?_⟩
    repeat (first | refine go_run ?_ | (refine go_newP ?_; clear hw; intro p w hw) | (refine go_newW ?_; clear hw; intro w hw) | (refine go_newS ?_; clear hw; intro s w hw))
    exact res_one (v := .bool true) rfl rfl ⟨rfl, sat_none hw⟩
  obtain ⟨hs, hf⟩ := hr.1 rfl
  clear hr
  have hg := hs.good
  have hV := hs.vars
  have hO := hs.ops
  have hM := hs.many
  have hL := chosen_inV t.vars bits
  have hB : cntL t.vars (chosenK bits t.vars.length) ≤ 1099511627776 := by omega
  have hlen : (statesL t.vars).length ≤ 512 := by rw [statesL_len hg.pos]; omega
  repeat (first | refine go_run ?_ | (refine go_newP ?_; clear hw; intro p w hw) | (refine go_newWr ?_; clear hw; intro w hw) | (refine go_newS ?_; clear hw; intro s w hw))
  refine st_call rfl pawake_spec ?_
  rintro _ w' ⟨rfl, hk'⟩
  replace hw := hw.call0 hk'
  clear hk'
  refine ⟨_, rfl, ?_⟩
  repeat (first | refine go_run ?_ | (refine go_newP ?_; clear hw; intro p w hw) | (refine go_newWr ?_; clear hw; intro w hw) | (refine go_newS ?_; clear hw; intro s w hw))
  refine st_call rfl (chosen_spec (ht'.at hw) (by omega)) ?_
  rintro _ w' ⟨s1, rfl, hk'⟩
  replace hw := hw.call1 hk'
  clear hk'
  refine ⟨_, rfl, ?_⟩
  obtain ⟨L, hLe⟩ : ∃ L, L = chosenK bits t.vars.length := ⟨_, rfl⟩
  rw [← hLe] at hw hL hf hB
  obtain ⟨he1, he2⟩ := small_err hs hL
  have hN1 := cntL_pos hg.pos hL.mem
  repeat (first | refine go_run ?_ | (refine go_newP ?_; clear hw; intro p w hw) | (refine go_newWr ?_; clear hw; intro w hw) | (refine go_newS ?_; clear hw; intro s w hw))
  refine st_call rfl (priced_spec (ht'.at hw) (hx.at hw) hxr hg) ?_
  rintro _ w' ⟨u, v, rfl, hpr, hk'⟩
  replace hw := hw.call1 hk'
  clear hk'
  refine ⟨_, rfl, ?_⟩
  have hpo := pricedL_ok hg hxr
  obtain ⟨C, hCe⟩ : ∃ C, C = pricedL t xs := ⟨_, rfl⟩
  rw [← hCe] at hpr hpo hw
  obtain ⟨hUl, hUc⟩ := csU_ok hg hpo.1 hpo.2
  obtain ⟨U, hU⟩ : ∃ U, U = csU t C := ⟨_, rfl⟩
  rw [← hU] at hpr hw hUl hUc
  have hgu : ∀ w0 w', Sat w0 w' [OS tInt 3 v U] → RS tInt w' u C := by
    intro w0 w' h
    rcases hpr with ⟨h1, h2⟩ | ⟨h1, h2⟩
    · rw [h1, h2]; exact RS.nil
    · rw [h1, h2]; exact h.rs 0 rfl
  repeat (first | refine go_run ?_ | (refine go_newP ?_; clear hw; intro p w hw) | (refine go_newWr ?_; clear hw; intro w hw) | (refine go_newS ?_; clear hw; intro s w hw))
  refine st_call rfl (Build_spec (kv := u) (vp := s1) (L := L) (cs := C) (ht'.at hw) (rsO hw) (hgu _ _ hw.sel)) ?_
  rintro _ w' (⟨h1, _⟩ | ⟨_, _, _, _, pd, D, rfl, hD, hk'⟩)
  · exact absurd (bErr_zero hg hpo he1) h1
  replace hw := hw.call1 hk'
  clear hk'
  refine ⟨_, rfl, ?_⟩
  rw [← hU] at hD
  have hdb := dbI_ok he1 hD
  have hE := eok_U (L := L) ⟨hUl, hUc⟩
  repeat (first | refine go_run ?_ | (refine go_newP ?_; clear hw; intro p w hw) | (refine go_newW ?_; clear hw; intro w hw) | (refine go_newS ?_; clear hw; intro s w hw))
  refine st_call rfl (rProject_spec (va := s1) (L := L) (ht'.at hw) (rsO hw) hs hL hf) ?_
  rintro _ w' ⟨cv, ev, gv, rfl, hk'⟩
  have hw2 := hw.call hk'
  clear hk' hw
  have hw : Sat w0 w' [OS tInt 3 cv (costsT t), OS tEdg 56 ev (pEdges t L), OS tBool 4 gv (goalsK t L (cntL t.vars L).toNat), DbO pd (dbI t L D), OS tInt 3 v U, OS tInt 3 s1 L, Box pt 26 [a, b, c, d]] := hw2
  clear hw2
  refine ⟨_, rfl, ?_⟩
  have hgl := goalsK_len t L (cntL t.vars L).toNat
  repeat (first | refine go_run ?_ | (refine go_newP ?_; clear hw; intro p w hw) | (refine go_newW ?_; clear hw; intro w hw) | (refine go_newS ?_; clear hw; intro s w hw))
  refine st_call rfl (rDistances_spec (kv := v) (cs := U) (S := sysOk t L) (cv := cv) (ev := ev) (gv := gv) ⟨hw.rs 0 rfl, hw.rs 1 rfl, hw.rs 2 rfl⟩ (rsO hw) (by show 0 ≤ cntL t.vars L; omega) (by show cntL t.vars L ≤ _; omega) (by show ((goalsK t L _).length : Int) = cntL t.vars L; omega) hE) ?_
  rintro _ w' ⟨hv, D', rfl, hD', hk'⟩
  replace hw := hw.call1 hk'
  clear hk'
  refine ⟨_, rfl, ?_⟩
  replace hD' : DistOk (pEdges t L) U (GoalPK t L) (cntL t.vars L).toNat D' := hD'
  obtain rfl := hD.unique hD'
  repeat (first | refine go_run ?_ | (refine go_newP ?_; clear hw; intro p w hw) | (refine go_newW ?_; clear hw; intro w hw) | (refine go_newS ?_; clear hw; intro s w hw))
  refine st_call rfl (Table_spec (rdbO hw) hdb) ?_
  rintro _ w' ⟨s2, rfl, hk'⟩
  replace hw := hw.call1 hk'
  clear hk'
  refine ⟨_, rfl, ?_⟩
  repeat (first | refine go_run ?_ | (refine go_newP ?_; clear hw; intro p w hw) | (refine go_newW ?_; clear hw; intro w hw) | (refine go_newS ?_; clear hw; intro s w hw))
  refine st_call rfl (Ints_spec (a := s2) (b := hv) (rsO hw) (rsO hw)) ?_
  rintro _ w' ⟨⟨r, rfl, hr⟩, hk'⟩
  replace hw := hw.call0 hk'
  clear hk'
  obtain rfl : r = true := hr.2 rfl
  clear hr
  refine ⟨_, rfl, ?_⟩
  repeat (first | refine go_run ?_ | (refine go_newP ?_; clear hw; intro p w hw) | (refine go_newW ?_; clear hw; intro w hw) | (refine go_newS ?_; clear hw; intro s w hw))
  refine st_call rfl (Pattern_spec (rdbO hw) (by show L.length ≤ _; have := hL.len; omega)) ?_
  rintro _ w' ⟨s3, rfl, hk'⟩
  replace hw := hw.call1 hk'
  clear hk'
  refine ⟨_, rfl, ?_⟩
  repeat (first | refine go_run ?_ | (refine go_newP ?_; clear hw; intro p w hw) | (refine go_newW ?_; clear hw; intro w hw) | (refine go_newS ?_; clear hw; intro s w hw))
  refine st_call rfl (Ints_spec (a := s3) (b := s1) (rsO hw) (rsO hw)) ?_
  rintro _ w' ⟨⟨r, rfl, hr⟩, hk'⟩
  replace hw := hw.call0 hk'
  clear hk'
  obtain rfl : r = true := hr.2 rfl
  clear hr
  refine ⟨_, rfl, ?_⟩
  repeat (first | refine go_run ?_ | (refine go_newP ?_; clear hw; intro p w hw) | (refine go_newW ?_; clear hw; intro w hw) | (refine go_newS ?_; clear hw; intro s w hw))
  refine st_call rfl (States_spec (ha.at hw) hg.pos hg.vars (by omega)) ?_
  rintro _ w' ⟨sv, ss, rfl, hk'⟩
  replace hw := hw.call2 hk'
  clear hk'
  have hss := hw.rowsLen
  have hDl := hD.len
  refine ⟨_, rfl, ?_⟩
  repeat (first | refine go_run ?_ | (refine go_newP ?_; clear hw; intro p w hw) | (refine go_newW ?_; clear hw; intro w hw) | (refine go_newS ?_; clear hw; intro s w hw))
  refine vc_loop [6, 14, 15, 68, 69, 70, 71, 72, 73, 74, 75, 76, 77, 78, 79, 80, 81, 82, 83, 84, 85, 86, 87, 88, 89, 90, 91, 92] (G := Nat) (fun k => [(68, .int .i64 k)]) (fun k w => k ≤ (statesL t.vars).length ∧ Sat w0 w [RowsAt tInt 3 ss (statesL t.vars), OS tVal 22 sv ss, OS tInt 3 hv D, DbO pd (dbI t L D), OS tInt 3 s1 L, Box pt 26 [a, b, c, d]]) (fun k => (statesL t.vars).length - k) 0 (fun _ => rfl) ⟨rfl, trivial⟩ ⟨Nat.zero_le _, hw.sel⟩ ?_
  clear hw
  rintro σ k w ⟨hk, hw⟩
  repeat (first | refine go_run ?_ | (refine go_newP ?_; clear hw; intro p w hw) | (refine go_newW ?_; clear hw; intro w hw) | (refine go_newS ?_; clear hw; intro s w hw))
  refine go_if (fun h5 => ?_) (fun h5 => ?_)
  · have hkl : k < (statesL t.vars).length := by omega
    obtain ⟨hst, hrk⟩ := statesL_at hg.pos hkl
    have hib := idxL_bound hst hL.mem
    have hdr := hD.rng (idxL t.vars L ((statesL t.vars).getD k [])).toNat (by omega)
    rw [Int.toNat_of_nonneg hib.1] at hdr
    have hval : valD (dbI t L D) ((statesL t.vars).getD k []) = D.getD (idxL t.vars L ((statesL t.vars).getD k [])).toNat tInt.dflt := valD_ok hst
    simp only [dg, inf] at hdr
    repeat (first | refine go_run ?_ | (refine go_newP ?_; clear hw; intro p w hw) | (refine go_newW ?_; clear hw; intro w hw) | (refine go_newS ?_; clear hw; intro s w hw))
    refine st_call rfl (rIndex_spec (va := s1) (s := (statesL t.vars).getD k []) (ht'.at hw) (rsO hw) (hw.row hkl) hg hL.mem hst hB) ?_
    rintro _ w' ⟨rfl, hk'⟩
    replace hw := hw.call0 hk'
    clear hk'
    refine ⟨_, rfl, ?_⟩
    repeat (first | refine go_run ?_ | (refine go_newP ?_; clear hw; intro p w hw) | (refine go_newW ?_; clear hw; intro w hw) | (refine go_newS ?_; clear hw; intro s w hw))
    refine st_call rfl (Value_spec (rdbO hw) hdb (hw.row hkl)) ?_
    rintro _ w' ⟨rfl, hk'⟩
    replace hw := hw.call0 hk'
    clear hk'
    rw [hval]
    refine ⟨_, rfl, ?_⟩
    repeat (first | refine go_run ?_ | (refine go_newP ?_; clear hw; intro p w hw) | (refine go_newW ?_; clear hw; intro w hw) | (refine go_newS ?_; clear hw; intro s w hw))
    simp only [decide_true, Bool.not_true, gvff]
    repeat (first | refine go_run ?_ | (refine go_newP ?_; clear hw; intro p w hw) | (refine go_newW ?_; clear hw; intro w hw) | (refine go_newS ?_; clear hw; intro s w hw))
    refine st_call rfl (Dead_spec (rdbO hw) hdb (hw.row hkl)) ?_
    rintro _ w' ⟨rfl, hk'⟩
    replace hw := hw.call0 hk'
    clear hk'
    rw [hval]
    refine ⟨_, rfl, ?_⟩
    have hde : decide (D.getD (idxL t.vars L ((statesL t.vars).getD k [])).toNat tInt.dflt = 1125899906842624) = decide (1125899906842624 ≤ D.getD (idxL t.vars L ((statesL t.vars).getD k [])).toNat tInt.dflt) := decide_eq_decide.2 (by omega)
    rw [hde]
    repeat (first | refine go_runC ?_ | (refine go_newP ?_; clear hw; intro p w hw) | (refine go_newW ?_; clear hw; intro w hw) | (refine go_newS ?_; clear hw; intro s w hw))
    simp only [beq_self_eq_true, Bool.not_true]
    repeat (first | refine go_run ?_ | (refine go_newP ?_; clear hw; intro p w hw) | (refine go_newW ?_; clear hw; intro w hw) | (refine go_newS ?_; clear hw; intro s w hw))
    exact ⟨k + 1, ⟨rfl, trivial⟩, by repeat (first | exact agree_refl | (apply agree_upd rfl) | (apply agree_mix rfl) | (apply agree_sets rfl)), ⟨by omega, hw⟩, by omega⟩
  · repeat (first | refine go_run ?_ | (refine go_newP ?_; clear hw; intro p w hw) | (refine go_newW ?_; clear hw; intro w hw) | (refine go_newS ?_; clear hw; intro s w hw))
    exact res_one (v := .bool true) rfl rfl ⟨rfl, sat_none hw⟩
end Go.Proofs.Ytnichjjloipghaa
