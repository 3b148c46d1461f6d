
/-
  The statement 'PdbAdmissible' returns true.
-/
import Derived.Test.YtnichjjloipghaaWPdbAw
import Derived.Test.YtnichjjloipghaaMTA
namespace Go.Proofs.Ytnichjjloipghaa
open Go.Sl Go
attribute [local irreducible] vc opsW opsD opV opW PureV ReadV Thn Blk

/-- A table that is filled. -/
def fillL (n : Nat) (f : Nat → Int) (k : Nat) : List Int := (List.range n).map fun i => if i < k then f i else 0
theorem fillL_len (n : Nat) (f : Nat → Int) (k : Nat) : (fillL n f k).length = n := by simp [fillL]
theorem fillL_zero (n : Nat) (f : Nat → Int) : fillL n f 0 = List.replicate n 0 := by
  apply List.ext_getElem (by simp [fillL])
  intro i h1 h2; simp [fillL]
theorem fillL_set {n : Nat} {f : Nat → Int} {k : Nat} : (fillL n f k).set k (f k) = fillL n f (k + 1) := by
  apply List.ext_getElem (by simp [fillL])
  intro i h1 h2
  rw [List.getElem_set]
  simp only [fillL, List.getElem_map, List.getElem_range]
  split
  · rename_i e; subst e; rw [if_pos (by omega)]
  · by_cases h : i < k
    · rw [if_pos h, if_pos (by omega)]
    · rw [if_neg h, if_neg (by omega)]
theorem fillL_at {n : Nat} {f : Nat → Int} {k i : Nat} (h : i < n) (hk : i < k) : (fillL n f k).getD i tInt.dflt = f i := by simp [fillL, List.getD, h, hk]

theorem costsOf_any {w0 w : World} {Γ : List HP} {v : Value} {e : TypeId} {t : TTask} {U : List Int} (hw : Sat w0 w Γ) (i : Nat) (hi : Γ[i]? = some (OS tInt e v U)) (hl : U.length = t.ops.length) (hc : ∀ x ∈ U, 0 ≤ x ∧ x ≤ 1048576) : CostsOf w t v U := by
  have hr := hw.rs i hi
  obtain ⟨h1, hs, ho, hlen⟩ := hw.at i hi
  rcases ho with ⟨rfl, hnil⟩ | ⟨b, off, n, cap, pre, post, rfl, _⟩
  · have h0 : U = [] := List.eq_nil_of_length_eq_zero hlen
    subst h0
    have hz : costsT t = [] := List.eq_nil_of_length_eq_zero (by simp only [costsT, List.length_map]; exact hl.symm)
    exact .own rfl hz.symm
  · exact .new ⟨_, _, _, rfl⟩ hr hl fun x hx => by have := hc x hx; omega

set_option maxRecDepth 8000 in
set_option maxHeartbeats 4000000 in
theorem PdbAdmissible_walk {w0 : World} {a b c d xv : Value} {vs : List OpV} {t : TTask} {bits : Int} {xs : List Int} (ht : RTask w0 a b c d vs t) (hx : RS tU16 w0 xv xs) (hxr : ∀ x ∈ xs, 0 ≤ x ∧ x ≤ 65535) :
    Calls Try.prog 3 #[.agg #[a, b, c, d], .int .u16 bits, xv] w0 fun e w' => e = .returned (.bool true) ∧ Sat w0 w' [] := by
  have ht' := ht
  obtain ⟨ha, hb, hc, hd⟩ := ht
  have hrs := hd.rs
  have hdl := hd.len
  have hll := hrs.big
  have hw := Sat.start w0
  refine calls_of_vc (args := [.agg #[a, b, c, d], .int .u16 bits, xv]) mixed Try.func3 rfl (by kernel_rfl) (Nat.le_of_ble_eq_true rfl) ?_
  repeat (first | refine go_run ?_ | (refine go_newP ?_; clear hw; intro p w hw) | (refine go_newWr ?_; clear hw; intro w hw) | (refine go_newS ?_; clear hw; intro s w hw))
  obtain ⟨pt, hpt⟩ : ∃ pt, pt = p := ⟨p, rfl⟩
  subst hpt
  refine st_call rfl (fits_spec (ht'.at hw)) ?_
  rintro _ w' ⟨⟨r, rfl, hr⟩, hk'⟩
  replace hw := hw.call0 hk'
  clear hk'
  refine ⟨_, rfl, ?_⟩
  cases r
  · repeat (first | refine go_run ?_ | (refine go_newP ?_; clear hw; intro p w hw) | (refine go_newWr ?_; clear hw; intro w hw) | (refine go_newS ?_; clear hw; intro s w hw))
    refine st_call rfl pawake_spec ?_
    rintro _ w' ⟨rfl, hk'⟩
    replace hw := hw.call0 hk'
    clear hk'
    refine ⟨_, rfl, ?_⟩
    repeat (first | refine go_run ?_ | (refine go_newP ?_; clear hw; intro p w hw) | (refine go_newW ?_; clear hw; intro w hw) | (refine go_newS ?_; clear hw; intro s w hw))
    exact res_one (v := .bool true) rfl rfl ⟨rfl, sat_none hw⟩
  obtain ⟨hs, hf⟩ := hr.1 rfl
  clear hr
  have hg := hs.good
  have hV := hs.vars
  have hO := hs.ops
  have hM := hs.many
  have hL := chosen_inV t.vars bits
  have hB : cntL t.vars (chosenK bits t.vars.length) ≤ 1099511627776 := by omega
  have hlen : (statesL t.vars).length ≤ 512 := by rw [statesL_len hg.pos]; omega
  repeat (first | refine go_run ?_ | (refine go_newP ?_; clear hw; intro p w hw) | (refine go_newWr ?_; clear hw; intro w hw) | (refine go_newS ?_; clear hw; intro s w hw))
  refine st_call rfl pawake_spec ?_
  rintro _ w' ⟨rfl, hk'⟩
  replace hw := hw.call0 hk'
  clear hk'
  refine ⟨_, rfl, ?_⟩
  repeat (first | refine go_run ?_ | (refine go_newP ?_; clear hw; intro p w hw) | (refine go_newWr ?_; clear hw; intro w hw) | (refine go_newS ?_; clear hw; intro s w hw))
  refine st_call rfl (priced_spec (ht'.at hw) (hx.at hw) hxr hg) ?_
  rintro _ w' ⟨u, v, rfl, hpr, hk'⟩
  replace hw := hw.call1 hk'
  clear hk'
  refine ⟨_, rfl, ?_⟩
  have hpo := pricedL_ok hg hxr
  obtain ⟨C, hCe⟩ : ∃ C, C = pricedL t xs := ⟨_, rfl⟩
  rw [← hCe] at hpr hpo hw
  obtain ⟨hUl, hUc⟩ := csU_ok hg hpo.1 hpo.2
  obtain ⟨U, hU⟩ : ∃ U, U = csU t C := ⟨_, rfl⟩
  rw [← hU] at hpr hw hUl hUc
  have hgu : ∀ w0 w', Sat w0 w' [OS tInt 3 v U] → RS tInt w' u C := by
    intro w0 w' h
    rcases hpr with ⟨h1, h2⟩ | ⟨h1, h2⟩
    · rw [h1, h2]; exact RS.nil
    · rw [h1, h2]; exact h.rs 0 rfl
  repeat (first | refine go_run ?_ | (refine go_newP ?_; clear hw; intro p w hw) | (refine go_newWr ?_; clear hw; intro w hw) | (refine go_newS ?_; clear hw; intro s w hw))
  refine vc_plan [.op 0, .op 1, .op 2, .op 3, .chk 0, .op 4, .op 5, .op 6, .op 7, .op 8, .op 9, .op 10] hw (by kernel_rfl) ?_; clear hw; intro w hw
  repeat (first | refine go_run ?_ | (refine go_newP ?_; clear hw; intro p w hw) | (refine go_newWr ?_; clear hw; intro w hw) | (refine go_newS ?_; clear hw; intro s w hw))
  refine st_call rfl (chosen_spec (ht'.at hw) (by omega)) ?_
  rintro _ w' ⟨s1, rfl, hk'⟩
  replace hw := hw.call1 hk'
  clear hk'
  refine ⟨_, rfl, ?_⟩
  obtain ⟨L, hLe⟩ : ∃ L, L = chosenK bits t.vars.length := ⟨_, rfl⟩
  rw [← hLe] at hw hL hf hB
  obtain ⟨he1, he2⟩ := small_err hs hL
  have hN1 := cntL_pos hg.pos hL.mem
  repeat (first | refine go_run ?_ | (refine go_newP ?_; clear hw; intro p w hw) | (refine go_newWr ?_; clear hw; intro w hw) | (refine go_newS ?_; clear hw; intro s w hw))
  refine st_call rfl (Build_spec (kv := u) (vp := s1) (L := L) (cs := C) (ht'.at hw) (rsO hw) (hgu _ _ hw.sel)) ?_
  rintro _ w' (⟨h1, _⟩ | ⟨_, _, _, _, pd, D, rfl, hD, hk'⟩)
  · exact absurd (bErr_zero hg hpo he1) h1
  replace hw := hw.call1 hk'
  clear hk'
  refine ⟨_, rfl, ?_⟩
  rw [← hU] at hD
  have hdb := dbI_ok he1 hD
  have hE := eok_U (L := L) ⟨hUl, hUc⟩
  repeat (first | refine go_run ?_ | (refine go_newP ?_; clear hw; intro p w hw) | (refine go_newW ?_; clear hw; intro w hw) | (refine go_newS ?_; clear hw; intro s w hw))
  have hUc2 : ∀ x ∈ U, 0 ≤ x ∧ x ≤ 1099511627776 := fun x hx => by have := hUc x hx; omega
  refine st_call rfl (Distances_spec (kv := v) (cs := U) (ht'.at hw) (costsOf_any hw 2 rfl hUl hUc) hg (by omega)) ?_
  rintro _ w' ⟨bv, D', rfl, hD', hk'⟩
  replace hw := hw.call1 hk'
  clear hk'
  refine ⟨_, rfl, ?_⟩
  have hdp := fun i hi => dist_proj hg hL hD hD' (i := i) hi
  have hDl := hD.len
  have hDl' := hD'.len
  repeat (first | refine go_run ?_ | (refine go_newP ?_; clear hw; intro p w hw) | (refine go_newW ?_; clear hw; intro w hw) | (refine go_newS ?_; clear hw; intro s w hw))
  refine st_call rfl (States_spec (ha.at hw) hg.pos hg.vars (by omega)) ?_
  rintro _ w' ⟨sv, ss, rfl, hk'⟩
  replace hw := hw.call2 hk'
  clear hk'
  have hss := hw.rowsLen
  refine ⟨_, rfl, ?_⟩
  repeat (first | refine go_run ?_ | (refine go_newP ?_; clear hw; intro p w hw) | (refine go_newW ?_; clear hw; intro w hw) | (refine go_newS ?_; clear hw; intro s w hw))
  obtain ⟨hv, hhv⟩ : ∃ hv, hv = s := ⟨s, rfl⟩
  subst hhv
  rw [hss, Int.toNat_natCast, ← fillL_zero _ (fun (i : Nat) => D.getD (idxL t.vars L ((statesL t.vars).getD i [])).toNat tInt.dflt)] at hw
  have hw : Sat w0 w [OS tInt 3 hv (fillL (statesL t.vars).length (fun (i : Nat) => D.getD (idxL t.vars L ((statesL t.vars).getD i [])).toNat tInt.dflt) 0), RowsAt tInt 3 ss (statesL t.vars), OS tVal 22 sv ss, OS tInt 3 bv D', DbO pd (dbI t L D), OS tInt 3 s1 L, OS tInt 3 v U, Box pt 26 [a, b, c, d]] := hw
  refine vc_loop [6, 14, 15, 55, 56, 57, 58, 59, 60, 61, 62, 63, 64, 65, 66, 67, 68, 69, 70, 71, 72, 73, 74, 75, 76, 77, 78, 79, 80, 81, 82, 83, 84, 85, 86, 87, 88, 89, 90, 91, 92, 93, 94, 95] (G := Nat) (fun k => [(55, .int .i64 k)]) (fun k w => k ≤ (statesL t.vars).length ∧ Sat w0 w [OS tInt 3 hv (fillL (statesL t.vars).length (fun (i : Nat) => D.getD (idxL t.vars L ((statesL t.vars).getD i [])).toNat tInt.dflt) k), RowsAt tInt 3 ss (statesL t.vars), OS tVal 22 sv ss, OS tInt 3 bv D', DbO pd (dbI t L D), OS tInt 3 s1 L, OS tInt 3 v U, Box pt 26 [a, b, c, d]]) (fun k => (statesL t.vars).length - k) 0 (fun _ => rfl) ⟨rfl, trivial⟩ ⟨Nat.zero_le _, hw.sel⟩ ?_
  clear hw
  rintro σ k w ⟨hk, hw⟩
  have hfl := fillL_len (statesL t.vars).length (fun (i : Nat) => D.getD (idxL t.vars L ((statesL t.vars).getD i [])).toNat tInt.dflt) k
  repeat (first | refine go_run ?_ | (refine go_newP ?_; clear hw; intro p w hw) | (refine go_newW ?_; clear hw; intro w hw) | (refine go_newS ?_; clear hw; intro s w hw))
  refine go_if (fun h5 => ?_) (fun h5 => ?_)
  · have hkl : k < (statesL t.vars).length := by omega
    obtain ⟨hst, hrk⟩ := statesL_at hg.pos hkl
    have hib := idxL_bound hst hL.mem
    have hat := dist_at hL hD hst
    have hdk := hdp k hkl
    have hval : valD (dbI t L D) ((statesL t.vars).getD k []) = (fun (i : Nat) => D.getD (idxL t.vars L ((statesL t.vars).getD i [])).toNat tInt.dflt) k := valD_ok hst
    have hfl2 := fillL_len (statesL t.vars).length (fun (i : Nat) => D.getD (idxL t.vars L ((statesL t.vars).getD i [])).toNat tInt.dflt) (k + 1)
    have hfa := fillL_at (f := (fun (i : Nat) => D.getD (idxL t.vars L ((statesL t.vars).getD i [])).toNat tInt.dflt)) hkl (Nat.lt_succ_self k)
    simp only [dg, Int.toNat_natCast] at hdk hat
    repeat (first | refine go_run ?_ | (refine go_newP ?_; clear hw; intro p w hw) | (refine go_newWr ?_; clear hw; intro w hw) | (refine go_newS ?_; clear hw; intro s w hw))
    refine st_call rfl (Value_spec (rdbO hw) hdb ((hw.focus 1 rfl).row hkl)) ?_
    rintro _ w' ⟨rfl, hk'⟩
    replace hw := hw.call0 hk'
    clear hk'
    rw [hval]
    refine ⟨_, rfl, ?_⟩
    repeat (first | refine go_run ?_ | (refine go_newP ?_; clear hw; intro p w hw) | (refine go_newWr ?_; clear hw; intro w hw) | (refine go_newS ?_; clear hw; intro s w hw))
    rw [fillL_set] at hw
    have hde1 : decide ((fillL (statesL t.vars).length (fun (i : Nat) => D.getD (idxL t.vars L ((statesL t.vars).getD i [])).toNat tInt.dflt) (k + 1)).getD k tInt.dflt < 0) = false := by rw [hfa]; exact decide_eq_false (by omega)
    have hde2 : decide (D'.getD k tInt.dflt < (fillL (statesL t.vars).length (fun (i : Nat) => D.getD (idxL t.vars L ((statesL t.vars).getD i [])).toNat tInt.dflt) (k + 1)).getD k tInt.dflt) = false := by rw [hfa]; exact decide_eq_false (by omega)
    refine vc_plan [.op 0, .op 1, .op 2, .op 3, .op 4, .op 5, .op 6, .op 7, .op 8, .op 9, .op 10, .op 11, .op 12, .op 13, .op 14, .op 15, .op 16, .op 17, .op 18, .op 19, .op 20, .op 21, .op 22, .op 23, .op 24, .op 25, .op 26, .op 27, .op 28] hw (by kernel_rfl) ?_; clear hw; intro w hw
    repeat (first | refine go_run ?_ | (refine go_newP ?_; clear hw; intro p w hw) | (refine go_newWr ?_; clear hw; intro w hw) | (refine go_newS ?_; clear hw; intro s w hw))
    simp only [hde1, hde2, Bool.or_self, gvff]
    repeat (first | refine go_run ?_ | (refine go_newP ?_; clear hw; intro p w hw) | (refine go_newWr ?_; clear hw; intro w hw) | (refine go_newS ?_; clear hw; intro s w hw))
    refine st_call rfl (Holds_spec (a := c) (hc.at hw) ((hw.focus 1 rfl).row hkl)) ?_
    rintro _ w' ⟨⟨r, rfl, hr⟩, hk'⟩
    replace hw := hw.call0 hk'
    clear hk'
    refine ⟨_, rfl, ?_⟩
    cases r
    · repeat (first | refine go_run ?_ | (refine go_newP ?_; clear hw; intro p w hw) | (refine go_newWr ?_; clear hw; intro w hw) | (refine go_newS ?_; clear hw; intro s w hw))
      exact ⟨k + 1, ⟨rfl, trivial⟩, by repeat (first | exact agree_refl | (apply agree_upd rfl) | (apply agree_mix rfl) | (apply agree_sets rfl)), ⟨by omega, hw⟩, by omega⟩
    · have hz := dist_goal hL hD hst (hr.1 rfl)
      simp only [dg] at hz
      have hde3 : decide ((fillL (statesL t.vars).length (fun (i : Nat) => D.getD (idxL t.vars L ((statesL t.vars).getD i [])).toNat tInt.dflt) (k + 1)).getD k tInt.dflt = 0) = true := by rw [hfa]; exact decide_eq_true hz
      repeat (first | refine go_runC ?_ | (refine go_newP ?_; clear hw; intro p w hw) | (refine go_newW ?_; clear hw; intro w hw) | (refine go_newS ?_; clear hw; intro s w hw))
      simp only [hde3, Bool.not_true]
      repeat (first | refine go_run ?_ | (refine go_newP ?_; clear hw; intro p w hw) | (refine go_newWr ?_; clear hw; intro w hw) | (refine go_newS ?_; clear hw; intro s w hw))
      exact ⟨k + 1, ⟨rfl, trivial⟩, by repeat (first | exact agree_refl | (apply agree_upd rfl) | (apply agree_mix rfl) | (apply agree_sets rfl)), ⟨by omega, hw⟩, by omega⟩
  have hke : k = (statesL t.vars).length := by omega
  subst hke
  repeat (first | refine go_run ?_ | (refine go_newP ?_; clear hw; intro p w hw) | (refine go_newW ?_; clear hw; intro w hw) | (refine go_newS ?_; clear hw; intro s w hw))
  refine st_call rfl (Edges_spec (ht'.at hw) hg (by omega)) ?_
  rintro _ w' ⟨es, rfl, hk'⟩
  replace hw := hw.call1 hk'
  clear hk'
  refine ⟨_, rfl, ?_⟩
  have hel : (edgesT t).length ≤ 512 * 20 := Nat.le_trans (edgesK_len t _) (Nat.mul_le_mul hlen hO)
  repeat (first | refine go_run ?_ | (refine go_newP ?_; clear hw; intro p w hw) | (refine go_newW ?_; clear hw; intro w hw) | (refine go_newS ?_; clear hw; intro s w hw))
  refine vc_loop [6, 17, 99, 100, 101, 102, 103, 104, 105, 106, 107, 108, 109, 110, 111, 112, 113, 114, 115, 116, 117, 118, 119, 120, 121, 122, 123, 124, 125, 126, 127, 128] (G := Nat) (fun k => [(99, .int .i64 k)]) (fun k w => k ≤ (edgesT t).length ∧ Sat w0 w [OS tEdg 47 es (edgesT t), OS tInt 3 hv (fillL (statesL t.vars).length (fun (i : Nat) => D.getD (idxL t.vars L ((statesL t.vars).getD i [])).toNat tInt.dflt) (statesL t.vars).length), OS tInt 3 v U]) (fun k => (edgesT t).length - k) 0 (fun _ => rfl) ⟨rfl, trivial⟩ ⟨Nat.zero_le _, hw.sel⟩ ?_
  clear hw
  rintro σ1 k w ⟨hk, hw⟩
  repeat (first | refine go_run ?_ | (refine go_newP ?_; clear hw; intro p w hw) | (refine go_newW ?_; clear hw; intro w hw) | (refine go_newS ?_; clear hw; intro s w hw))
  refine go_if (fun h6 => ?_) (fun h6 => ?_)
  · have hkl : k < (edgesT t).length := by omega
    obtain ⟨st, op, hs1, hs2, hs3, hs4, ⟨hs5, hs6, hs7⟩, ⟨hs8, hs9, hs10⟩⟩ := edgeT_at hg hkl
    have hf1 := fillL_at (f := (fun (i : Nat) => D.getD (idxL t.vars L ((statesL t.vars).getD i [])).toNat tInt.dflt)) hs6 hs6
    have hf2 := fillL_at (f := (fun (i : Nat) => D.getD (idxL t.vars L ((statesL t.vars).getD i [])).toNat tInt.dflt)) hs9 hs9
    have hd1 := dist_at hL hD hs1
    have hd2 := dist_at hL hD (succT_ok hg hs1 hs2)
    have hd3 := dist_step hg hL hE hD hs1 hs2 hs3
    simp only [hs7, hs10] at hf1 hf2
    simp only [dg, inf] at hd1 hd2 hd3
    have hlabn : ((edgesT t).getD k tEdg.dflt).lab.toNat = op := by omega
    have huo := hUc _ (mem_getD tInt.dflt (show ((edgesT t).getD k tEdg.dflt).lab.toNat < U.length by omega))
    have hue : U.getD op tInt.dflt = U.getD ((edgesT t).getD k tEdg.dflt).lab.toNat tInt.dflt := by rw [hlabn]
    rw [hue] at hd3
    have hfl := fillL_len (statesL t.vars).length (fun (i : Nat) => D.getD (idxL t.vars L ((statesL t.vars).getD i [])).toNat tInt.dflt) (statesL t.vars).length
    rw [← hf1, ← hf2] at hd3
    rw [← hf1] at hd1
    rw [← hf2] at hd2
    repeat (first | refine go_run ?_ | (refine go_newP ?_; clear hw; intro p w hw) | (refine go_newW ?_; clear hw; intro w hw) | (refine go_newS ?_; clear hw; intro s w hw))
    refine go_if (fun h7 => ?_) (fun h7 => ?_)
    · exfalso
      have := hd3 h7.1
      omega
    · repeat (first | refine go_run ?_ | (refine go_newP ?_; clear hw; intro p w hw) | (refine go_newW ?_; clear hw; intro w hw) | (refine go_newS ?_; clear hw; intro s w hw))
      exact ⟨k + 1, ⟨rfl, trivial⟩, by repeat (first | exact agree_refl | (apply agree_upd rfl) | (apply agree_mix rfl) | (apply agree_sets rfl)), ⟨by omega, hw.sel⟩, by omega⟩
  · repeat (first | refine go_run ?_ | (refine go_newP ?_; clear hw; intro p w hw) | (refine go_newW ?_; clear hw; intro w hw) | (refine go_newS ?_; clear hw; intro s w hw))
    exact res_one (v := .bool true) rfl rfl ⟨rfl, sat_none hw⟩
end Go.Proofs.Ytnichjjloipghaa
