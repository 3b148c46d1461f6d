
/-
  The statement 'PdbCosts' returns true.
-/
import Derived.Test.YtnichjjloipghaaWPdbAw
namespace Go.Proofs.Ytnichjjloipghaa
open Go.Sl Go
attribute [local irreducible] vc opsW opsD opV opW PureV ReadV Thn Blk
def triL (U : List Int) (k : Nat) : List Int := (U.take k).map fun x => 3 * x
def dearL (U : List Int) (k : Nat) : List Int := (List.range k).map fun (i : Nat) => U.getD i tInt.dflt + Int.tmod i 3
theorem triL_succ {U : List Int} {k : Nat} (hk : k < U.length) : triL U k ++ [3 * U.getD k tInt.dflt] = triL U (k + 1) := by
  unfold triL; rw [take_snoc tInt.dflt hk, List.map_append]; rfl
theorem triL_len {U : List Int} {k : Nat} (hk : k ≤ U.length) : (triL U k).length = k := by simp [triL]; omega
theorem triL_at {U : List Int} {i : Nat} (h : i < U.length) : (triL U U.length).getD i tInt.dflt = 3 * U.getD i tInt.dflt := by simp [triL, List.getD, h]
theorem dearL_succ (U : List Int) (k : Nat) : dearL U k ++ [U.getD k tInt.dflt + Int.tmod k 3] = dearL U (k + 1) := by simp [dearL, List.range_succ]
theorem dearL_len (U : List Int) (k : Nat) : (dearL U k).length = k := by simp [dearL]
theorem dearL_at {U : List Int} {i k : Nat} (h : i < k) : (dearL U k).getD i tInt.dflt = U.getD i tInt.dflt + Int.tmod i 3 := by simp [dearL, List.getD, h]
theorem tmod3 (i : Nat) : 0 ≤ Int.tmod i 3 ∧ Int.tmod i 3 ≤ 2 := by
  rw [Int.tmod_eq_emod_of_nonneg (Int.natCast_nonneg i)]; omega

set_option maxRecDepth 8000 in
set_option maxHeartbeats 4000000 in
theorem PdbCosts_walk {w0 : World} {a b c d xv : Value} {vs : List OpV} {t : TTask} {bits : Int} {xs : List Int} (ht : RTask w0 a b c d vs t) (hx : RS tU16 w0 xv xs) (hxr : ∀ x ∈ xs, 0 ≤ x ∧ x ≤ 65535) :
    Calls Try.prog 6 #[.agg #[a, b, c, d], .int .u16 bits, xv] w0 fun e w' => e = .returned (.bool true) ∧ Sat w0 w' [] := by
  have hxb := hx.big
  have ht' := ht
  obtain ⟨ha, hb, hc, hd⟩ := ht
  have hrs := hd.rs
  have hdl := hd.len
  have hll := hrs.big
  have hw := Sat.start w0
  refine calls_of_vc (args := [.agg #[a, b, c, d], .int .u16 bits, xv]) mixed Try.func6 rfl (by kernel_rfl) (Nat.le_of_ble_eq_true rfl) ?_
  repeat (first | refine go_run ?_ | (refine go_newP ?_; clear hw; intro p w hw) | (refine go_newWr ?_; clear hw; intro w hw) | (refine go_newS ?_; clear hw; intro s w hw))
  obtain ⟨pt, hpt⟩ : ∃ pt, pt = p := ⟨p, rfl⟩
  subst hpt
  refine st_call rfl (fits_spec (ht'.at hw)) ?_
  rintro _ w' ⟨⟨r, rfl, hr⟩, hk'⟩
  replace hw := hw.call0 hk'
  clear hk'
  refine ⟨_, rfl, ?_⟩
  cases r
  · repeat (first | refine go_run ?_ | (refine go_newP ?_; clear hw; intro p w hw) | (refine go_newWr ?_; clear hw; intro w hw) | (refine go_newS ?_; clear hw; intro s w hw))
    refine st_call rfl pawake_spec ?_
    rintro _ w' ⟨rfl, hk'⟩
    replace hw := hw.call0 hk'
    clear hk'
    refine ⟨_, rfl, ?_⟩
    repeat (first | refine go_run ?_ | (refine go_newP ?_; clear hw; intro p w hw) | (refine go_newW ?_; clear hw; intro w hw) | (refine go_newS ?_; clear hw; intro s w hw))
    exact res_one (v := .bool true) rfl rfl ⟨rfl, sat_none hw⟩
  obtain ⟨hs, hf⟩ := hr.1 rfl
  clear hr
  have hg := hs.good
  have hV := hs.vars
  have hO := hs.ops
  have hM := hs.many
  have hL := chosen_inV t.vars bits
  have hB : cntL t.vars (chosenK bits t.vars.length) ≤ 1099511627776 := by omega
  have hlen : (statesL t.vars).length ≤ 512 := by rw [statesL_len hg.pos]; omega
  repeat (first | refine go_run ?_ | (refine go_newP ?_; clear hw; intro p w hw) | (refine go_newWr ?_; clear hw; intro w hw) | (refine go_newS ?_; clear hw; intro s w hw))
  by_cases hA : xs.length < t.ops.length
  · have hd0 : decide ((xs.length : Int) < (vs.length : Int)) = true := decide_eq_true (by omega)
    simp only [hd0]
    repeat (first | refine go_run ?_ | (refine go_newP ?_; clear hw; intro p w hw) | (refine go_newWr ?_; clear hw; intro w hw) | (refine go_newS ?_; clear hw; intro s w hw))
    refine st_call rfl pawake_spec ?_
    rintro _ w' ⟨rfl, hk'⟩
    replace hw := hw.call0 hk'
    clear hk'
    refine ⟨_, rfl, ?_⟩
    repeat (first | refine go_run ?_ | (refine go_newP ?_; clear hw; intro p w hw) | (refine go_newW ?_; clear hw; intro w hw) | (refine go_newS ?_; clear hw; intro s w hw))
    exact res_one (v := .bool true) rfl rfl ⟨rfl, sat_none hw⟩
  have hd0 : decide ((xs.length : Int) < (vs.length : Int)) = false := decide_eq_false (by omega)
  simp only [hd0, gvff]
  repeat (first | refine go_run ?_ | (refine go_newP ?_; clear hw; intro p w hw) | (refine go_newWr ?_; clear hw; intro w hw) | (refine go_newS ?_; clear hw; intro s w hw))
  by_cases h0 : t.ops.length = 0
  · have hd1 : decide ((vs.length : Int) = 0) = true := decide_eq_true (by omega)
    simp only [hd1]
    repeat (first | refine go_run ?_ | (refine go_newP ?_; clear hw; intro p w hw) | (refine go_newWr ?_; clear hw; intro w hw) | (refine go_newS ?_; clear hw; intro s w hw))
    refine st_call rfl pawake_spec ?_
    rintro _ w' ⟨rfl, hk'⟩
    replace hw := hw.call0 hk'
    clear hk'
    refine ⟨_, rfl, ?_⟩
    repeat (first | refine go_run ?_ | (refine go_newP ?_; clear hw; intro p w hw) | (refine go_newW ?_; clear hw; intro w hw) | (refine go_newS ?_; clear hw; intro s w hw))
    exact res_one (v := .bool true) rfl rfl ⟨rfl, sat_none hw⟩
  have hd1 : decide ((vs.length : Int) = 0) = false := decide_eq_false (by omega)
  simp only [hd1]
  repeat (first | refine go_run ?_ | (refine go_newP ?_; clear hw; intro p w hw) | (refine go_newWr ?_; clear hw; intro w hw) | (refine go_newS ?_; clear hw; intro s w hw))
  refine st_call rfl pawake_spec ?_
  rintro _ w' ⟨rfl, hk'⟩
  replace hw := hw.call0 hk'
  clear hk'
  refine ⟨_, rfl, ?_⟩
  repeat (first | refine go_run ?_ | (refine go_newP ?_; clear hw; intro p w hw) | (refine go_newWr ?_; clear hw; intro w hw) | (refine go_newS ?_; clear hw; intro s w hw))
  refine st_call rfl (chosen_spec (ht'.at hw) (by omega)) ?_
  rintro _ w' ⟨s1, rfl, hk'⟩
  replace hw := hw.call1 hk'
  clear hk'
  refine ⟨_, rfl, ?_⟩
  obtain ⟨L, hLe⟩ : ∃ L, L = chosenK bits t.vars.length := ⟨_, rfl⟩
  rw [← hLe] at hw hL hf hB
  obtain ⟨he1, he2⟩ := small_err hs hL
  have hN1 := cntL_pos hg.pos hL.mem
  repeat (first | refine go_run ?_ | (refine go_newP ?_; clear hw; intro p w hw) | (refine go_newWr ?_; clear hw; intro w hw) | (refine go_newS ?_; clear hw; intro s w hw))
  refine st_call rfl (priced_spec (ht'.at hw) (hx.at hw) hxr hg) ?_
  rintro _ w' ⟨u, v, rfl, hpr, hk'⟩
  replace hw := hw.call1 hk'
  clear hk'
  refine ⟨_, rfl, ?_⟩
  have hpo := pricedL_ok hg hxr
  obtain ⟨C, hCe⟩ : ∃ C, C = pricedL t xs := ⟨_, rfl⟩
  rw [← hCe] at hpr hpo hw
  obtain ⟨hUl, hUc⟩ := csU_ok hg hpo.1 hpo.2
  obtain ⟨U, hU⟩ : ∃ U, U = csU t C := ⟨_, rfl⟩
  rw [← hU] at hpr hw hUl hUc
  have hgu : ∀ w0 w', Sat w0 w' [OS tInt 3 v U] → RS tInt w' u C := by
    intro w0 w' h
    rcases hpr with ⟨h1, h2⟩ | ⟨h1, h2⟩
    · rw [h1, h2]; exact RS.nil
    · rw [h1, h2]; exact h.rs 0 rfl
  have hC : C = (xs.take t.ops.length).map fun x => x.tmod 100 := by rw [hCe]; exact if_neg (by omega)
  have hUC : U = C := by rw [hU]; exact if_neg (by rw [hC, List.length_map, List.length_take]; omega)
  have hU9 : ∀ x ∈ U, 0 ≤ x ∧ x ≤ 99 := by
    intro x hx'
    rw [hUC, hC] at hx'
    obtain ⟨y, hy, rfl⟩ := List.mem_map.1 hx'
    have h1 := hxr y (List.mem_of_mem_take hy)
    have h2 : y.tmod 100 = y % 100 := Int.tmod_eq_emod_of_nonneg h1.1
    omega
  repeat (first | refine go_run ?_ | (refine go_newP ?_; clear hw; intro p w hw) | (refine go_newW ?_; clear hw; intro w hw) | (refine go_newS ?_; clear hw; intro s w hw))
  have hw1 : Sat w0 w' [OS tInt 3 (.slice none 0 0) (dearL U 0), OS tInt 3 (.slice none 0 0) (triL U 0), OS tInt 3 v U, OS tInt 3 s1 L, Box pt 26 [a, b, c, d]] := (hw.nil (T := tInt) (e := 3)).nil
  clear hw
  refine vc_loop3 [10, 11, 12, 13, 58, 59, 60, 61, 62, 63, 64, 65, 66, 67, 68, 69, 70, 71, 72, 73, 74, 75] (G := Nat) (H := Value) (I := Value) (fun k q1 q2 => [(58, .int .i64 k), (10, q1), (11, q2)]) (fun k q1 q2 w => k ≤ U.length ∧ Sat w0 w [OS tInt 3 q2 (dearL U k), OS tInt 3 q1 (triL U k), OS tInt 3 v U, OS tInt 3 s1 L, Box pt 26 [a, b, c, d]]) (fun k _ _ => U.length - k) 0 (.slice none 0 0) (.slice none 0 0) (fun _ _ _ => rfl) ⟨rfl, rfl, rfl, trivial⟩ ⟨Nat.zero_le _, hw1⟩ ?_
  clear hw1
  rintro σ k q1 q2 w ⟨hk, hw⟩
  have tl := triL_len hk
  have dl := dearL_len U k
  repeat (first | refine go_run ?_ | (refine go_newP ?_; clear hw; intro p w hw) | (refine go_newW ?_; clear hw; intro w hw) | (refine go_newS ?_; clear hw; intro s w hw))
  refine go_if (fun h1 => ?_) (fun h1 => ?_)
  · have hkl : k < U.length := by omega
    have hm := hU9 _ (mem_getD tInt.dflt hkl)
    have h3 := tmod3 k
    repeat (first | refine go_run ?_ | (refine go_newP ?_; clear hw; intro p w hw) | (refine go_newW ?_; clear hw; intro w hw) | (refine go_newS ?_; clear hw; intro s w hw))
    rw [dearL_succ, triL_succ hkl] at hw
    exact ⟨k + 1, _, _, ⟨rfl, rfl, rfl, trivial⟩, by repeat (first | exact agree_refl | (apply agree_upd rfl) | (apply agree_mix rfl) | (apply agree_sets rfl)), ⟨by omega, hw.tail.tail⟩, by omega⟩
  have hke : k = U.length := by omega
  subst hke
  have hcu : ∀ {X : List Int}, X.length = U.length → csU t X = X := fun hX => if_neg (by omega)
  have hTr : ∀ x ∈ triL U U.length, 0 ≤ x ∧ x ≤ 1048576 := fun x hx' => by
    obtain ⟨i, hi, rfl⟩ := List.getElem_of_mem hx'
    rw [← getD_at (d := tInt.dflt) hi, triL_at (by omega)]
    have := hU9 _ (mem_getD tInt.dflt (show i < U.length by omega))
    omega
  have hDr : ∀ x ∈ dearL U U.length, 0 ≤ x ∧ x ≤ 1048576 := fun x hx' => by
    obtain ⟨i, hi, rfl⟩ := List.getElem_of_mem hx'
    rw [← getD_at (d := tInt.dflt) hi, dearL_at (by omega)]
    have := hU9 _ (mem_getD tInt.dflt (show i < U.length by omega))
    have := tmod3 i
    omega
  have hbe : ∀ {X : List Int}, X.length = U.length → (∀ x ∈ X, 0 ≤ x ∧ x ≤ 1048576) → bErr t L X = 0 := fun hX hr => bErr_zero hg ⟨by omega, fun ⟨x, hx, hb⟩ => by have := hr x hx; unfold BadC at hb; omega⟩ he1
  have hE := eok_U (L := L) ⟨hUl, hUc⟩
  have hE2 := eok_U (t := t) (L := L) (cs := triL U U.length) ⟨by omega, hTr⟩
  repeat (first | refine go_run ?_ | (refine go_newP ?_; clear hw; intro p w hw) | (refine go_newW ?_; clear hw; intro w hw) | (refine go_newS ?_; clear hw; intro s w hw))
  refine st_call rfl (Build_spec (kv := v) (vp := s1) (L := L) (cs := U) (ht'.at hw) (rsO hw) (rsO hw)) ?_
  rintro _ w' (⟨h1, _⟩ | ⟨_, _, _, _, pd, D, rfl, hD, hk'⟩)
  · exact absurd (hbe rfl hUc) h1
  replace hw := hw.call1 hk'
  clear hk'
  refine ⟨_, rfl, ?_⟩
  rw [hcu rfl] at hD
  have hdb := dbI_ok he1 hD
  repeat (first | refine go_run ?_ | (refine go_newP ?_; clear hw; intro p w hw) | (refine go_newW ?_; clear hw; intro w hw) | (refine go_newS ?_; clear hw; intro s w hw))
  refine st_call rfl (Build_spec (kv := q1) (vp := s1) (L := L) (cs := triL U U.length) (ht'.at hw) (rsO hw) (rsO hw)) ?_
  rintro _ w' (⟨h1, _⟩ | ⟨_, _, _, _, pd2, D2, rfl, hD2, hk'⟩)
  · exact absurd (hbe tl hTr) h1
  replace hw := hw.call1 hk'
  clear hk'
  refine ⟨_, rfl, ?_⟩
  rw [hcu tl] at hD2
  have hdb2 := dbI_ok he1 hD2
  repeat (first | refine go_run ?_ | (refine go_newP ?_; clear hw; intro p w hw) | (refine go_newW ?_; clear hw; intro w hw) | (refine go_newS ?_; clear hw; intro s w hw))
  refine st_call rfl (Build_spec (kv := q2) (vp := s1) (L := L) (cs := dearL U U.length) (ht'.at hw) (rsO hw) (rsO hw)) ?_
  rintro _ w' (⟨h1, _⟩ | ⟨_, _, _, _, pd3, D3, rfl, hD3, hk'⟩)
  · exact absurd (hbe dl hDr) h1
  replace hw := hw.call1 hk'
  clear hk'
  refine ⟨_, rfl, ?_⟩
  rw [hcu dl] at hD3
  have hdb3 := dbI_ok he1 hD3
  repeat (first | refine go_run ?_ | (refine go_newP ?_; clear hw; intro p w hw) | (refine go_newW ?_; clear hw; intro w hw) | (refine go_newS ?_; clear hw; intro s w hw))
  refine st_call rfl (Table_spec (rdbO hw) hdb) ?_
  rintro _ w' ⟨x1, rfl, hk'⟩
  replace hw := hw.call1 hk'
  clear hk'
  refine ⟨_, rfl, ?_⟩
  repeat (first | refine go_run ?_ | (refine go_newP ?_; clear hw; intro p w hw) | (refine go_newW ?_; clear hw; intro w hw) | (refine go_newS ?_; clear hw; intro s w hw))
  refine st_call rfl (Table_spec (rdbO hw) hdb2) ?_
  rintro _ w' ⟨x2, rfl, hk'⟩
  replace hw := hw.call1 hk'
  clear hk'
  refine ⟨_, rfl, ?_⟩
  repeat (first | refine go_run ?_ | (refine go_newP ?_; clear hw; intro p w hw) | (refine go_newW ?_; clear hw; intro w hw) | (refine go_newS ?_; clear hw; intro s w hw))
  refine st_call rfl (Table_spec (rdbO hw) hdb3) ?_
  rintro _ w' ⟨x3, rfl, hk'⟩
  replace hw := hw.call1 hk'
  clear hk'
  refine ⟨_, rfl, ?_⟩
  have hDl := hD.len
  have hDl2 := hD2.len
  have hDl3 := hD3.len
  have hw : Sat w0 w' [OS tInt 3 x3 D3, OS tInt 3 x2 D2, OS tInt 3 x1 D] := by
    have hw2 : Sat w0 w' [OS tInt 3 x3 D3, OS tInt 3 x2 D2, OS tInt 3 x1 D, DbO pd3 (dbI t L D3), DbO pd2 (dbI t L D2), DbO pd (dbI t L D), OS tInt 3 q2 (dearL U U.length), OS tInt 3 q1 (triL U U.length), OS tInt 3 v U, OS tInt 3 s1 L, Box pt 26 [a, b, c, d]] := hw
    exact hw2.sel
  have hsc := fun i (hi : i < (cntL t.vars L).toNat) => hD.scale (f := 3) (by decide) hE2 (C := 1048576) (by decide) (fun x (hx : x ∈ triL U U.length) => (hTr x hx).2) (by show ((cntL t.vars L).toNat : Int) * 1048576 < 1125899906842624; omega) hD2 (fun e he => triL_at (by have := hE.lab e he; omega)) hi
  have hot := fun i (hi : i < (cntL t.vars L).toNat) => hD3.other hD (fun e he => by
    have hl := hE.lab e he
    have := tmod3 e.lab.toNat
    show U.getD e.lab.toNat tInt.dflt ≤ (dearL U U.length).getD e.lab.toNat tInt.dflt
    rw [dearL_at (by omega)]
    omega) hi
  repeat (first | refine go_run ?_ | (refine go_newP ?_; clear hw; intro p w hw) | (refine go_newW ?_; clear hw; intro w hw) | (refine go_newS ?_; clear hw; intro s w hw))
  refine go_if (fun h2 => ?_) (fun h2 => ?_)
  · exfalso; omega
  repeat (first | refine go_run ?_ | (refine go_newP ?_; clear hw; intro p w hw) | (refine go_newW ?_; clear hw; intro w hw) | (refine go_newS ?_; clear hw; intro s w hw))
  refine vc_loop [6, 23, 127, 128, 129, 130, 131, 132, 133, 134, 135, 136, 137, 138, 139, 140, 141, 142, 143, 144, 145, 146, 147, 148, 149, 150, 151, 152, 153, 154, 155, 156, 157, 158, 159, 160, 161, 162, 163, 164, 165, 166, 167, 168, 169, 170, 171] (G := Nat) (fun k => [(127, .int .i64 k)]) (fun k w => k ≤ D.length ∧ Sat w0 w [OS tInt 3 x3 D3, OS tInt 3 x2 D2, OS tInt 3 x1 D]) (fun k => D.length - k) 0 (fun _ => rfl) ⟨rfl, trivial⟩ ⟨Nat.zero_le _, hw⟩ ?_
  clear hw
  rintro σ1 k w ⟨hk, hw⟩
  repeat (first | refine go_run ?_ | (refine go_newP ?_; clear hw; intro p w hw) | (refine go_newW ?_; clear hw; intro w hw) | (refine go_newS ?_; clear hw; intro s w hw))
  refine go_if (fun h3 => ?_) (fun h3 => ?_)
  · have hkl : k < D.length := by omega
    obtain ⟨c1, c2⟩ := hsc k (by omega)
    have c3 := hot k (by omega)
    have c4 := hD.rng k (by omega)
    simp only [dg, inf, Int.toNat_natCast] at c1 c2 c3 c4
    have hde : decide (1125899906842624 ≤ D.getD k tInt.dflt) = decide (1125899906842624 ≤ D2.getD k tInt.dflt) := decide_eq_decide.2 (by omega)
    repeat (first | refine go_runC ?_ | (refine go_newP ?_; clear hw; intro p w hw) | (refine go_newW ?_; clear hw; intro w hw) | (refine go_newS ?_; clear hw; intro s w hw))
    simp only [hde, beq_self_eq_true, Bool.not_true]
    refine go_if (fun h4 => ?_) (fun h4 => ?_)
    · exfalso
      rcases h4 with (h | ⟨h, h5⟩) | h
      · cases h
      · exact h5 (c2 h)
      · omega
    · repeat (first | refine go_run ?_ | (refine go_newP ?_; clear hw; intro p w hw) | (refine go_newW ?_; clear hw; intro w hw) | (refine go_newS ?_; clear hw; intro s w hw))
      exact ⟨k + 1, ⟨rfl, trivial⟩, by repeat (first | exact agree_refl | (apply agree_upd rfl) | (apply agree_mix rfl) | (apply agree_sets rfl)), ⟨by omega, hw⟩, by omega⟩
  · repeat (first | refine go_run ?_ | (refine go_newP ?_; clear hw; intro p w hw) | (refine go_newW ?_; clear hw; intro w hw) | (refine go_newS ?_; clear hw; intro s w hw))
    exact res_one (v := .bool true) rfl rfl ⟨rfl, sat_none hw⟩
end Go.Proofs.Ytnichjjloipghaa
