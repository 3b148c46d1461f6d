
/-
  The statement 'PdbSaturated' returns true.
-/
import Derived.Test.YtnichjjloipghaaWPdbAw
import Derived.Test.YtnichjjloipghaaWRef40b
namespace Go.Proofs.Ytnichjjloipghaa
open Go.Sl Go
attribute [local irreducible] vc opsW opsD opV opW PureV ReadV Thn Blk

set_option maxRecDepth 8000 in
set_option maxHeartbeats 4000000 in
theorem PdbSaturated_walk {w0 : World} {a b c d xv : Value} {vs : List OpV} {t : TTask} {bits : Int} {xs : List Int} (ht : RTask w0 a b c d vs t) (hx : RS tU16 w0 xv xs) (hxr : ∀ x ∈ xs, 0 ≤ x ∧ x ≤ 65535) :
    Calls Try.prog 4 #[.agg #[a, b, c, d], .int .u16 bits, xv] w0 fun e w' => e = .returned (.bool true) ∧ Sat w0 w' [] := by
  have ht' := ht
  obtain ⟨ha, hb, hc, hd⟩ := ht
  have hrs := hd.rs
  have hdl := hd.len
  have hll := hrs.big
  have hw := Sat.start w0
  refine calls_of_vc (args := [.agg #[a, b, c, d], .int .u16 bits, xv]) mixed Try.func4 rfl (by kernel_rfl) (Nat.le_of_ble_eq_true rfl) ?_
  repeat (first | refine go_run ?_ | (refine go_newP ?_; clear hw; intro p w hw) | (refine go_newWr ?_; clear hw; intro w hw) | (refine go_newS ?_; clear hw; intro s w hw))
  obtain ⟨pt, hpt⟩ : ∃ pt, pt = p := ⟨p, rfl⟩
  subst hpt
  refine st_call rfl (fits_spec (ht'.at hw)) ?_
  rintro _ w' ⟨⟨r, rfl, hr⟩, hk'⟩
  replace hw := hw.call0 hk'
  clear hk'
  refine ⟨_, rfl, ?_⟩
  cases r
  · repeat (first | refine go_run ?_ | (refine go_newP ?_; clear hw; intro p w hw) | (refine go_newWr ?_; clear hw; intro w hw) | (refine go_newS ?_; clear hw; intro s w hw))
    refine st_call rfl pawake_spec ?_
    rintro _ w' ⟨rfl, hk'⟩
    replace hw := hw.call0 hk'
    clear hk'
    refine ⟨_, rfl, ?_⟩
    repeat (first | refine go_run ?_ | (refine go_newP ?_; clear hw; intro p w hw) | (refine go_newW ?_; clear hw; intro w hw) | (refine go_newS ?_; clear hw; intro s w hw))
    exact res_one (v := .bool true) rfl rfl ⟨rfl, sat_none hw⟩
  obtain ⟨hs, hf⟩ := hr.1 rfl
  clear hr
  have hg := hs.good
  have hV := hs.vars
  have hO := hs.ops
  have hM := hs.many
  have hL := chosen_inV t.vars bits
  have hB : cntL t.vars (chosenK bits t.vars.length) ≤ 1099511627776 := by omega
  have hlen : (statesL t.vars).length ≤ 512 := by rw [statesL_len hg.pos]; omega
  repeat (first | refine go_run ?_ | (refine go_newP ?_; clear hw; intro p w hw) | (refine go_newWr ?_; clear hw; intro w hw) | (refine go_newS ?_; clear hw; intro s w hw))
  by_cases h0 : t.ops.length = 0
  · have hd0 : decide ((vs.length : Int) = 0) = true := decide_eq_true (by omega)
    simp only [hd0]
    repeat (first | refine go_run ?_ | (refine go_newP ?_; clear hw; intro p w hw) | (refine go_newWr ?_; clear hw; intro w hw) | (refine go_newS ?_; clear hw; intro s w hw))
    refine st_call rfl pawake_spec ?_
    rintro _ w' ⟨rfl, hk'⟩
    replace hw := hw.call0 hk'
    clear hk'
    refine ⟨_, rfl, ?_⟩
    repeat (first | refine go_run ?_ | (refine go_newP ?_; clear hw; intro p w hw) | (refine go_newW ?_; clear hw; intro w hw) | (refine go_newS ?_; clear hw; intro s w hw))
    exact res_one (v := .bool true) rfl rfl ⟨rfl, sat_none hw⟩
  have hd0 : decide ((vs.length : Int) = 0) = false := decide_eq_false (by omega)
  simp only [hd0]
  repeat (first | refine go_run ?_ | (refine go_newP ?_; clear hw; intro p w hw) | (refine go_newWr ?_; clear hw; intro w hw) | (refine go_newS ?_; clear hw; intro s w hw))
  refine st_call rfl pawake_spec ?_
  rintro _ w' ⟨rfl, hk'⟩
  replace hw := hw.call0 hk'
  clear hk'
  refine ⟨_, rfl, ?_⟩
  repeat (first | refine go_run ?_ | (refine go_newP ?_; clear hw; intro p w hw) | (refine go_newWr ?_; clear hw; intro w hw) | (refine go_newS ?_; clear hw; intro s w hw))
  refine st_call rfl (chosen_spec (ht'.at hw) (by omega)) ?_
  rintro _ w' ⟨s1, rfl, hk'⟩
  replace hw := hw.call1 hk'
  clear hk'
  refine ⟨_, rfl, ?_⟩
  obtain ⟨L, hLe⟩ : ∃ L, L = chosenK bits t.vars.length := ⟨_, rfl⟩
  rw [← hLe] at hw hL hf hB
  obtain ⟨he1, he2⟩ := small_err hs hL
  have hN1 := cntL_pos hg.pos hL.mem
  repeat (first | refine go_run ?_ | (refine go_newP ?_; clear hw; intro p w hw) | (refine go_newWr ?_; clear hw; intro w hw) | (refine go_newS ?_; clear hw; intro s w hw))
  refine st_call rfl (priced_spec (ht'.at hw) (hx.at hw) hxr hg) ?_
  rintro _ w' ⟨u, v, rfl, hpr, hk'⟩
  replace hw := hw.call1 hk'
  clear hk'
  refine ⟨_, rfl, ?_⟩
  have hpo := pricedL_ok hg hxr
  obtain ⟨C, hCe⟩ : ∃ C, C = pricedL t xs := ⟨_, rfl⟩
  rw [← hCe] at hpr hpo hw
  obtain ⟨hUl, hUc⟩ := csU_ok hg hpo.1 hpo.2
  obtain ⟨U, hU⟩ : ∃ U, U = csU t C := ⟨_, rfl⟩
  rw [← hU] at hpr hw hUl hUc
  have hgu : ∀ w0 w', Sat w0 w' [OS tInt 3 v U] → RS tInt w' u C := by
    intro w0 w' h
    rcases hpr with ⟨h1, h2⟩ | ⟨h1, h2⟩
    · rw [h1, h2]; exact RS.nil
    · rw [h1, h2]; exact h.rs 0 rfl
  repeat (first | refine go_run ?_ | (refine go_newP ?_; clear hw; intro p w hw) | (refine go_newWr ?_; clear hw; intro w hw) | (refine go_newS ?_; clear hw; intro s w hw))
  refine st_call rfl (Build_spec (kv := u) (vp := s1) (L := L) (cs := C) (ht'.at hw) (rsO hw) (hgu _ _ hw.sel)) ?_
  rintro _ w' (⟨h1, _⟩ | ⟨_, _, _, _, pd, D, rfl, hD, hk'⟩)
  · exact absurd (bErr_zero hg hpo he1) h1
  replace hw := hw.call1 hk'
  clear hk'
  refine ⟨_, rfl, ?_⟩
  rw [← hU] at hD
  have hdb := dbI_ok he1 hD
  have hE := eok_U (L := L) ⟨hUl, hUc⟩
  have hDl := hD.len
  repeat (first | refine go_run ?_ | (refine go_newP ?_; clear hw; intro p w hw) | (refine go_newW ?_; clear hw; intro w hw) | (refine go_newS ?_; clear hw; intro s w hw))
  refine st_call rfl (Table_spec (rdbO hw) hdb) ?_
  rintro _ w' ⟨s2, rfl, hk'⟩
  replace hw := hw.call1 hk'
  clear hk'
  refine ⟨_, rfl, ?_⟩
  repeat (first | refine go_run ?_ | (refine go_newP ?_; clear hw; intro p w hw) | (refine go_newW ?_; clear hw; intro w hw) | (refine go_newS ?_; clear hw; intro s w hw))
  refine st_call rfl (Saturated_spec (rdbO hw) hdb) ?_
  rintro _ w' ⟨s3, rfl, hk'⟩
  replace hw := hw.call1 hk'
  clear hk'
  refine ⟨_, rfl, ?_⟩
  have hm : (costsT t).length = U.length := by rw [hUl]; simp [costsT]
  have hw : Sat w0 w' [OS tInt 3 s3 (satL (pEdges t L) D U.length), OS tInt 3 s2 D, OS tInt 3 v U, OS tInt 3 s1 L, Box pt 26 [a, b, c, d]] := by
    have hw2 : Sat w0 w' [OS tInt 3 s3 (satL (pEdges t L) D (costsT t).length), OS tInt 3 s2 D, DbO pd (dbI t L D), OS tInt 3 v U, OS tInt 3 s1 L, Box pt 26 [a, b, c, d]] := hw
    rw [hm] at hw2
    exact hw2.sel
  have hso : SatOk (pEdges t L) D U.length (satL (pEdges t L) D U.length) := satL_ok hE.lab
  have hwl : (satL (pEdges t L) D U.length).length = U.length := satL_len
  repeat (first | refine go_run ?_ | (refine go_newP ?_; clear hw; intro p w hw) | (refine go_newW ?_; clear hw; intro w hw) | (refine go_newS ?_; clear hw; intro s w hw))
  refine go_if (fun h1 => ?_) (fun h1 => ?_)
  · exfalso; omega
  repeat (first | refine go_run ?_ | (refine go_newP ?_; clear hw; intro p w hw) | (refine go_newW ?_; clear hw; intro w hw) | (refine go_newS ?_; clear hw; intro s w hw))
  obtain ⟨ov, hov⟩ : ∃ ov, ov = s := ⟨s, rfl⟩
  subst hov
  rw [show ((vs.length : Int)).toNat = U.length by omega, ← satK_zero (pEdges t L) D U.length] at hw
  refine st_call rfl (rProject_spec (va := s1) (L := L) (ht'.at hw) (rsO hw) hs hL hf) ?_
  rintro _ w' ⟨cv, ev, gv, rfl, hk'⟩
  have hw2 := hw.call hk'
  clear hk' hw
  have hw : Sat w0 w' [OS tInt 3 cv (costsT t), OS tEdg 56 ev (pEdges t L), OS tBool 4 gv (goalsK t L (cntL t.vars L).toNat), OS tInt 3 ov (satK (pEdges t L) D U.length 0), OS tInt 3 s3 (satL (pEdges t L) D U.length), OS tInt 3 s2 D, OS tInt 3 v U, OS tInt 3 s1 L, Box pt 26 [a, b, c, d]] := hw2
  clear hw2
  refine ⟨_, rfl, ?_⟩
  obtain ⟨_, _, _, hpe⟩ := pErr_zero he1
  rw [sysV_ok]
  repeat (first | refine go_run ?_ | (refine go_newP ?_; clear hw; intro p w hw) | (refine go_newW ?_; clear hw; intro w hw) | (refine go_newS ?_; clear hw; intro s w hw))
  refine vc_loop [16, 77, 78, 79, 80, 81, 82, 83, 84, 85, 86, 87, 88, 89, 90, 91, 92, 93, 94, 95, 96, 97, 98, 99, 100, 101, 102, 103, 104, 105, 106, 107, 108, 109, 110, 111, 112, 113, 114, 115, 116] (G := Nat) (fun k => [(77, .int .i64 k)]) (fun k w => k ≤ (pEdges t L).length ∧ Sat w0 w [OS tInt 3 cv (costsT t), OS tEdg 56 ev (pEdges t L), OS tBool 4 gv (goalsK t L (cntL t.vars L).toNat), OS tInt 3 ov (satK (pEdges t L) D U.length k), OS tInt 3 s3 (satL (pEdges t L) D U.length), OS tInt 3 s2 D, OS tInt 3 v U, OS tInt 3 s1 L, Box pt 26 [a, b, c, d]]) (fun k => (pEdges t L).length - k) 0 (fun _ => rfl) ⟨rfl, trivial⟩ ⟨Nat.zero_le _, hw⟩ ?_
  clear hw
  rintro σ k w ⟨hk, hw⟩
  have hkl2 := satK_len (E := pEdges t L) (D := D) (m := U.length) k hk
  repeat (first | refine go_run ?_ | (refine go_newP ?_; clear hw; intro p w hw) | (refine go_newW ?_; clear hw; intro w hw) | (refine go_newS ?_; clear hw; intro s w hw))
  refine go_if (fun h7 => ?_) (fun h7 => ?_)
  · have hkl : k < (pEdges t L).length := by omega
    have hme := mem_getD tEdg.dflt hkl
    have e1 := hE.lab _ hme
    have e2 := hE.src _ hme
    have e3 := hE.dst _ hme
    have r2 := hD.rng ((pEdges t L).getD k tEdg.dflt).src.toNat (by omega)
    have r3 := hD.rng ((pEdges t L).getD k tEdg.dflt).dst.toNat (by omega)
    rw [Int.toNat_of_nonneg e2.1] at r2
    rw [Int.toNat_of_nonneg e3.1] at r3
    have hss := satK_succ (D := D) (m := U.length) hkl
    simp only [satStep, dg, cst, inf] at hss r2 r3
    repeat (first | refine go_runC ?_ | (refine go_newP ?_; clear hw; intro p w hw) | (refine go_newW ?_; clear hw; intro w hw) | (refine go_newS ?_; clear hw; intro s w hw))
    refine go_if (fun h8 => ?_) (fun h8 => ?_)
    · rw [if_pos h8] at hss
      repeat (first | refine go_run ?_ | (refine go_newP ?_; clear hw; intro p w hw) | (refine go_newW ?_; clear hw; intro w hw) | (refine go_newS ?_; clear hw; intro s w hw))
      rw [← hss] at hw
      exact ⟨k + 1, ⟨rfl, trivial⟩, by repeat (first | exact agree_refl | (apply agree_upd rfl) | (apply agree_mix rfl) | (apply agree_sets rfl)), ⟨by omega, hw.sel⟩, by omega⟩
    · rw [if_neg (by omega)] at hss
      repeat (first | refine go_run ?_ | (refine go_newP ?_; clear hw; intro p w hw) | (refine go_newW ?_; clear hw; intro w hw) | (refine go_newS ?_; clear hw; intro s w hw))
      rw [← hss] at hw
      exact ⟨k + 1, ⟨rfl, trivial⟩, by repeat (first | exact agree_refl | (apply agree_upd rfl) | (apply agree_mix rfl) | (apply agree_sets rfl)), ⟨by omega, hw.sel⟩, by omega⟩
  have hke : k = (pEdges t L).length := by omega
  subst hke
  rw [show satK (pEdges t L) D U.length (pEdges t L).length = satL (pEdges t L) D U.length from rfl] at hw
  have hw : Sat w0 w [OS tInt 3 ov (satL (pEdges t L) D U.length), OS tInt 3 s3 (satL (pEdges t L) D U.length), OS tInt 3 s2 D, OS tInt 3 v U, OS tInt 3 s1 L, Box pt 26 [a, b, c, d]] := hw.sel
  have hle := fun i (hi : i < U.length) => hso.le hE hD hi
  have hWe := hso.eok hE hD
  have hC : ∀ x ∈ U, x ≤ 1048576 := fun x hx => (hUc x hx).2
  obtain ⟨S, hS⟩ : ∃ S, S = satL (pEdges t L) D U.length := ⟨_, rfl⟩
  rw [← hS] at hw hso hwl hle hWe
  have hSr : ∀ x ∈ S, 0 ≤ x ∧ x ≤ 1048576 := fun x hx => by
    obtain ⟨i, hi, rfl⟩ := List.getElem_of_mem hx
    have h1 := hle i (by omega)
    have h2 := hUc _ (mem_getD tInt.dflt (show i < U.length by omega))
    rw [getD_at hi] at h1
    omega
  repeat (first | refine go_run ?_ | (refine go_newP ?_; clear hw; intro p w hw) | (refine go_newW ?_; clear hw; intro w hw) | (refine go_newS ?_; clear hw; intro s w hw))
  refine vc_loop [6, 17, 119, 120, 121, 122, 123, 124, 125, 126, 127, 128, 129, 130, 131, 132, 133, 134, 135, 136, 137, 138, 139, 140, 141, 142, 143, 144, 145, 146, 147, 148, 149] (G := Nat) (fun k => [(119, .int .i64 k)]) (fun k w => k ≤ S.length ∧ Sat w0 w [OS tInt 3 ov S, OS tInt 3 s3 S, OS tInt 3 s2 D, OS tInt 3 v U, OS tInt 3 s1 L, Box pt 26 [a, b, c, d]]) (fun k => S.length - k) 0 (fun _ => rfl) ⟨rfl, trivial⟩ ⟨Nat.zero_le _, hw⟩ ?_
  clear hw
  rintro σ1 k w ⟨hk, hw⟩
  repeat (first | refine go_run ?_ | (refine go_newP ?_; clear hw; intro p w hw) | (refine go_newW ?_; clear hw; intro w hw) | (refine go_newS ?_; clear hw; intro s w hw))
  refine go_if (fun h9 => ?_) (fun h9 => ?_)
  · have hkl : k < S.length := by omega
    have hlk := hle k (by omega)
    repeat (first | refine go_run ?_ | (refine go_newP ?_; clear hw; intro p w hw) | (refine go_newW ?_; clear hw; intro w hw) | (refine go_newS ?_; clear hw; intro s w hw))
    refine go_if (fun h10 => ?_) (fun h10 => ?_)
    · exfalso
      rcases h10 with (h | h) | h
      · exact h trivial
      · omega
      · omega
    · repeat (first | refine go_run ?_ | (refine go_newP ?_; clear hw; intro p w hw) | (refine go_newW ?_; clear hw; intro w hw) | (refine go_newS ?_; clear hw; intro s w hw))
      exact ⟨k + 1, ⟨rfl, trivial⟩, by repeat (first | exact agree_refl | (apply agree_upd rfl) | (apply agree_mix rfl) | (apply agree_sets rfl)), ⟨by omega, hw⟩, by omega⟩
  have hke : k = S.length := by omega
  subst hke
  have hcuS : csU t S = S := if_neg (by omega)
  repeat (first | refine go_run ?_ | (refine go_newP ?_; clear hw; intro p w hw) | (refine go_newW ?_; clear hw; intro w hw) | (refine go_newS ?_; clear hw; intro s w hw))
  refine st_call rfl (Build_spec (kv := s3) (vp := s1) (L := L) (cs := S) (ht'.at hw) (rsO hw) (rsO hw)) ?_
  rintro _ w' (⟨h1, _⟩ | ⟨_, _, _, _, pd2, D2, rfl, hD2, hk'⟩)
  · exact absurd (bErr_zero hg ⟨by omega, fun ⟨x, hx, hb⟩ => by have := hSr x hx; unfold BadC at hb; omega⟩ he1) h1
  replace hw := hw.call1 hk'
  clear hk'
  refine ⟨_, rfl, ?_⟩
  rw [hcuS] at hD2
  have hdb2 := dbI_ok he1 hD2
  have hkeep := fun i (hi : i < (cntL t.vars L).toNat) => hso.keep hE (C := 1048576) (by decide) hC (by show ((cntL t.vars L).toNat : Int) * 1048576 < 1125899906842624; omega) hD hD2 hi
  have hD2l := hD2.len
  repeat (first | refine go_run ?_ | (refine go_newP ?_; clear hw; intro p w hw) | (refine go_newW ?_; clear hw; intro w hw) | (refine go_newS ?_; clear hw; intro s w hw))
  refine st_call rfl (Table_spec (rdbO hw) hdb2) ?_
  rintro _ w' ⟨s4, rfl, hk'⟩
  replace hw := hw.call1 hk'
  clear hk'
  refine ⟨_, rfl, ?_⟩
  have hw : Sat w0 w' [OS tInt 3 s4 D2, OS tInt 3 s3 S, OS tInt 3 s2 D, OS tInt 3 s1 L, Box pt 26 [a, b, c, d]] := by
    have hw2 : Sat w0 w' [OS tInt 3 s4 D2, DbO pd2 (dbI t L D2), OS tInt 3 ov S, OS tInt 3 s3 S, OS tInt 3 s2 D, OS tInt 3 v U, OS tInt 3 s1 L, Box pt 26 [a, b, c, d]] := hw
    exact hw2.sel
  repeat (first | refine go_run ?_ | (refine go_newP ?_; clear hw; intro p w hw) | (refine go_newW ?_; clear hw; intro w hw) | (refine go_newS ?_; clear hw; intro s w hw))
  refine vc_loop [6, 20, 163, 164, 165, 166, 167, 168, 169, 170, 171, 172, 173, 174, 175, 176, 177, 178, 179, 180, 181, 182, 183, 184, 185, 186, 187, 188, 189, 190, 191, 192, 193, 194, 195, 196] (G := Nat) (fun k => [(163, .int .i64 k)]) (fun k w => k ≤ D.length ∧ Sat w0 w [OS tInt 3 s4 D2, OS tInt 3 s3 S, OS tInt 3 s2 D, OS tInt 3 s1 L, Box pt 26 [a, b, c, d]]) (fun k => D.length - k) 0 (fun _ => rfl) ⟨rfl, trivial⟩ ⟨Nat.zero_le _, hw⟩ ?_
  clear hw
  rintro σ2 k w ⟨hk, hw⟩
  repeat (first | refine go_run ?_ | (refine go_newP ?_; clear hw; intro p w hw) | (refine go_newW ?_; clear hw; intro w hw) | (refine go_newS ?_; clear hw; intro s w hw))
  refine go_if (fun h11 => ?_) (fun h11 => ?_)
  · have hkl : k < D.length := by omega
    obtain ⟨q1, q2⟩ := hkeep k (by omega)
    simp only [dg, inf, Int.toNat_natCast] at q1 q2
    repeat (first | refine go_runC ?_ | (refine go_newP ?_; clear hw; intro p w hw) | (refine go_newW ?_; clear hw; intro w hw) | (refine go_newS ?_; clear hw; intro s w hw))
    refine go_if (fun h14 => ?_) (fun h14 => ?_)
    · exfalso
      rcases h14 with ⟨x, y⟩ | ⟨x, y⟩
      · exact y (q2 x)
      · omega
    · repeat (first | refine go_run ?_ | (refine go_newP ?_; clear hw; intro p w hw) | (refine go_newW ?_; clear hw; intro w hw) | (refine go_newS ?_; clear hw; intro s w hw))
      exact ⟨k + 1, ⟨rfl, trivial⟩, by repeat (first | exact agree_refl | (apply agree_upd rfl) | (apply agree_mix rfl) | (apply agree_sets rfl)), ⟨by omega, hw⟩, by omega⟩
  have hke : k = D.length := by omega
  subst hke
  repeat (first | refine go_run ?_ | (refine go_newP ?_; clear hw; intro p w hw) | (refine go_newW ?_; clear hw; intro w hw) | (refine go_newS ?_; clear hw; intro s w hw))
  refine vc_loop [6, 21, 22, 23, 24, 199, 200, 201, 202, 203, 204, 205, 206, 207, 208, 209, 210, 211, 212, 213, 214, 215, 216, 217, 218, 219, 220, 221, 222, 223, 224, 225, 226, 227, 228, 229, 230, 231] (G := Nat) (fun k => [(199, .int .i64 k)]) (fun k w => k ≤ S.length ∧ Sat w0 w [OS tInt 3 s3 S, OS tInt 3 s2 D, OS tInt 3 s1 L, Box pt 26 [a, b, c, d]]) (fun k => S.length - k) 0 (fun _ => rfl) ⟨rfl, trivial⟩ ⟨Nat.zero_le _, hw.sel⟩ ?_
  clear hw
  rintro σ3 k w ⟨hk, hw⟩
  repeat (first | refine go_run ?_ | (refine go_newP ?_; clear hw; intro p w hw) | (refine go_newW ?_; clear hw; intro w hw) | (refine go_newS ?_; clear hw; intro s w hw))
  refine go_if (fun h12 => ?_) (fun h12 => ?_)
  · have hkl : k < S.length := by omega
    have hlk := hle k (by omega)
    have hmS := hSr _ (mem_getD tInt.dflt hkl)
    repeat (first | refine go_run ?_ | (refine go_newP ?_; clear hw; intro p w hw) | (refine go_newW ?_; clear hw; intro w hw) | (refine go_newS ?_; clear hw; intro s w hw))
    refine go_if (fun h13 => ?_) (fun h13 => ?_)
    · repeat (first | refine go_run ?_ | (refine go_newP ?_; clear hw; intro p w hw) | (refine go_newW ?_; clear hw; intro w hw) | (refine go_newS ?_; clear hw; intro s w hw))
      exact ⟨k + 1, ⟨rfl, trivial⟩, by repeat (first | exact agree_refl | (apply agree_upd rfl) | (apply agree_mix rfl) | (apply agree_sets rfl)), ⟨by omega, hw⟩, by omega⟩
    · repeat (first | refine go_run ?_ | (refine go_newP ?_; clear hw; intro p w hw) | (refine go_newW ?_; clear hw; intro w hw) | (refine go_newS ?_; clear hw; intro s w hw))
      refine st_buildSlice0 tInt hw ?_
      clear hw
      intro s w hw
      repeat (first | refine go_run ?_ | (refine go_newP ?_; clear hw; intro p w hw) | (refine go_newW ?_; clear hw; intro w hw) | (refine go_newS ?_; clear hw; intro s w hw))
      rw [List.nil_append] at hw
      obtain ⟨lv, hlv⟩ : ∃ lv, lv = s := ⟨s, rfl⟩
      subst hlv
      have hSl : (S.set k (S.getD k tInt.dflt - 1)).length = S.length := by simp
      repeat (first | refine go_run ?_ | (refine go_newP ?_; clear hw; intro p w hw) | (refine go_newW ?_; clear hw; intro w hw) | (refine go_newS ?_; clear hw; intro s w hw))
      have hcuL : csU t (S.set k (S.getD k tInt.dflt - 1)) = S.set k (S.getD k tInt.dflt - 1) := if_neg (by omega)
      have hLr : ∀ x ∈ S.set k (S.getD k tInt.dflt - 1), 0 ≤ x ∧ x ≤ 1048576 := fun x hx => by
        rcases List.mem_or_eq_of_mem_set hx with hx | hx
        · exact hSr x hx
        · omega
      refine st_call rfl (Build_spec (kv := lv) (vp := s1) (L := L) (cs := S.set k (S.getD k tInt.dflt - 1)) (ht'.at hw) (rsO hw) (rsO hw)) ?_
      rintro _ w' (⟨h1, _⟩ | ⟨_, _, _, _, pd3, D3, rfl, hD3, hk'⟩)
      · exact absurd (bErr_zero hg ⟨by omega, fun ⟨x, hx, hb⟩ => by have := hLr x hx; unfold BadC at hb; omega⟩ he1) h1
      replace hw := hw.call1 hk'
      clear hk'
      refine ⟨_, rfl, ?_⟩
      rw [hcuL] at hD3
      have hdb3 := dbI_ok he1 hD3
      have hne : D3 ≠ D := hso.tight (eok_U ⟨by omega, hLr⟩) hD3 (i := k) (by omega) h13 (by
        rw [getD_set_self hkl]; omega)
      repeat (first | refine go_run ?_ | (refine go_newP ?_; clear hw; intro p w hw) | (refine go_newW ?_; clear hw; intro w hw) | (refine go_newS ?_; clear hw; intro s w hw))
      refine st_call rfl (Table_spec (rdbO hw) hdb3) ?_
      rintro _ w' ⟨s5, rfl, hk'⟩
      replace hw := hw.call1 hk'
      clear hk'
      refine ⟨_, rfl, ?_⟩
      repeat (first | refine go_run ?_ | (refine go_newP ?_; clear hw; intro p w hw) | (refine go_newW ?_; clear hw; intro w hw) | (refine go_newS ?_; clear hw; intro s w hw))
      refine st_call rfl (Ints_spec (a := s5) (b := s2) (rsO hw) (rsO hw)) ?_
      rintro _ w' ⟨⟨r, rfl, hr⟩, hk'⟩
      replace hw := hw.call0 hk'
      clear hk'
      obtain rfl : r = false := by
        cases r with
        | false => rfl
        | true => exact absurd (hr.1 rfl) hne
      refine ⟨_, rfl, ?_⟩
      repeat (first | refine go_run ?_ | (refine go_newP ?_; clear hw; intro p w hw) | (refine go_newW ?_; clear hw; intro w hw) | (refine go_newS ?_; clear hw; intro s w hw))
      exact ⟨k + 1, ⟨rfl, trivial⟩, by repeat (first | exact agree_refl | (apply agree_upd rfl) | (apply agree_mix rfl) | (apply agree_sets rfl)), ⟨by omega, hw.sel⟩, by omega⟩
  · repeat (first | refine go_run ?_ | (refine go_newP ?_; clear hw; intro p w hw) | (refine go_newW ?_; clear hw; intro w hw) | (refine go_newS ?_; clear hw; intro s w hw))
    exact res_one (v := .bool true) rfl rfl ⟨rfl, sat_none hw⟩
end Go.Proofs.Ytnichjjloipghaa
