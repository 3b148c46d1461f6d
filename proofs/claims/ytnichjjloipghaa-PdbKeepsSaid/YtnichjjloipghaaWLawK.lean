
/-
  The statement 'PdbKeeps' returns true.
-/
import Derived.Test.YtnichjjloipghaaWPdbAw
namespace Go.Proofs.Ytnichjjloipghaa
open Go.Sl Go
attribute [local irreducible] vc opsW opsD opV opW PureV ReadV Thn Blk
/-- A table of which the first k entries are overwritten. -/
def cutL (l : List Int) (x : Int) (k : Nat) : List Int := List.replicate k x ++ l.drop k
theorem cutL_zero (l : List Int) (x : Int) : cutL l x 0 = l := rfl
theorem cutL_len {l : List Int} {x : Int} {k : Nat} (h : k ≤ l.length) : (cutL l x k).length = l.length := by simp [cutL]; omega
theorem cutL_set {l : List Int} {x : Int} {k : Nat} (h : k < l.length) : (cutL l x k).set k x = cutL l x (k + 1) := by
  unfold cutL
  rw [List.set_append_right _ _ (by simp), List.length_replicate, Nat.sub_self, List.drop_eq_getElem_cons h, List.set_cons_zero, List.replicate_succ', List.append_assoc]
  rfl

set_option maxRecDepth 8000 in
set_option maxHeartbeats 4000000 in
theorem PdbKeeps_walk {w0 : World} {a b c d : Value} {vs : List OpV} {t : TTask} {bits : Int} (ht : RTask w0 a b c d vs t) :
    Calls Try.prog 7 #[.agg #[a, b, c, d], .int .u16 bits] w0 fun e w' => e = .returned (.bool true) ∧ Sat w0 w' [] := by
  have ht' := ht
  obtain ⟨ha, hb, hc, hd⟩ := ht
  have hrs := hd.rs
  have hdl := hd.len
  have hll := hrs.big
  have hw := Sat.start w0
  refine calls_of_vc (args := [.agg #[a, b, c, d], .int .u16 bits]) mixed Try.func7 rfl (by kernel_rfl) (Nat.le_of_ble_eq_true rfl) ?_
  repeat (first | refine go_run ?_ | (refine go_newP ?_; clear hw; intro p w hw) | (refine go_newWr ?_; clear hw; intro w hw) | (refine go_newS ?_; clear hw; intro s w hw))
  obtain ⟨pt, hpt⟩ : ∃ pt, pt = p := ⟨p, rfl⟩
  subst hpt
  refine st_call rfl (fits_spec (ht'.at hw)) ?_
  rintro _ w' ⟨⟨r, rfl, hr⟩, hk'⟩
  replace hw := hw.call0 hk'
  clear hk'
  refine ⟨_, rfl, ?_⟩
  cases r
  · repeat (first | refine go_run ?_ | (refine go_newP ?_; clear hw; intro p w hw) | (refine go_newWr ?_; clear hw; intro w hw) | (refine go_newS ?_; clear hw; intro s w hw))
    refine st_call rfl pawake_spec ?_
    rintro _ w' ⟨rfl, hk'⟩
    replace hw := hw.call0 hk'
    clear hk'
    refine ⟨_, rfl, ?_⟩
    repeat (first | refine go_run ?_ | (refine go_newP ?_; clear hw; intro p w hw) | (refine go_newW ?_; clear hw; intro w hw) | (refine go_newS ?_; clear hw; intro s w hw))
    exact res_one (v := .bool true) rfl rfl ⟨rfl, sat_none hw⟩
  obtain ⟨hs, hf⟩ := hr.1 rfl
  clear hr
  have hg := hs.good
  have hV := hs.vars
  have hO := hs.ops
  have hM := hs.many
  have hL := chosen_inV t.vars bits
  have hB : cntL t.vars (chosenK bits t.vars.length) ≤ 1099511627776 := by omega
  have hlen : (statesL t.vars).length ≤ 512 := by rw [statesL_len hg.pos]; omega
  repeat (first | refine go_run ?_ | (refine go_newP ?_; clear hw; intro p w hw) | (refine go_newWr ?_; clear hw; intro w hw) | (refine go_newS ?_; clear hw; intro s w hw))
  refine st_call rfl pawake_spec ?_
  rintro _ w' ⟨rfl, hk'⟩
  replace hw := hw.call0 hk'
  clear hk'
  refine ⟨_, rfl, ?_⟩
  repeat (first | refine go_run ?_ | (refine go_newP ?_; clear hw; intro p w hw) | (refine go_newWr ?_; clear hw; intro w hw) | (refine go_newS ?_; clear hw; intro s w hw))
  refine st_call rfl (chosen_spec (ht'.at hw) (by omega)) ?_
  rintro _ w' ⟨s1, rfl, hk'⟩
  replace hw := hw.call1 hk'
  clear hk'
  refine ⟨_, rfl, ?_⟩
  obtain ⟨L, hLe⟩ : ∃ L, L = chosenK bits t.vars.length := ⟨_, rfl⟩
  rw [← hLe] at hw hL hf hB
  obtain ⟨he1, he2⟩ := small_err hs hL
  have hN1 := cntL_pos hg.pos hL.mem
  have hbz : bErr t L [] = 0 := bErr_zero hg ⟨by simp, fun ⟨x, hx, _⟩ => by simp at hx⟩ he1
  repeat (first | refine go_run ?_ | (refine go_newP ?_; clear hw; intro p w hw) | (refine go_newWr ?_; clear hw; intro w hw) | (refine go_newS ?_; clear hw; intro s w hw))
  refine st_call rfl (Build_spec (kv := .slice none 0 0) (vp := s1) (L := L) (cs := []) (ht'.at hw) (rsO hw) RS.nil) ?_
  rintro _ w' (⟨h1, _⟩ | ⟨_, _, hUl, hUc, pd, D, rfl, hD, hk'⟩)
  · exact absurd hbz h1
  replace hw := hw.call1 hk'
  clear hk'
  refine ⟨_, rfl, ?_⟩
  have hdb := dbI_ok he1 hD
  have hDl := hD.len
  have hLl := hL.len
  repeat (first | refine go_run ?_ | (refine go_newP ?_; clear hw; intro p w hw) | (refine go_newW ?_; clear hw; intro w hw) | (refine go_newS ?_; clear hw; intro s w hw))
  refine st_buildSlice0 tInt hw ?_
  clear hw
  intro s w hw
  obtain ⟨b0, hb0⟩ : ∃ b0, b0 = s := ⟨s, rfl⟩
  subst hb0
  repeat (first | refine go_run ?_ | (refine go_newP ?_; clear hw; intro p w hw) | (refine go_newW ?_; clear hw; intro w hw) | (refine go_newS ?_; clear hw; intro s w hw))
  refine st_call rfl (Table_spec (rdbO hw) hdb) ?_
  rintro _ w' ⟨s2, rfl, hk'⟩
  replace hw := hw.call1 hk'
  clear hk'
  refine ⟨_, rfl, ?_⟩
  have htb : (dbI t L D).tab = D := rfl
  rw [htb] at hw
  repeat (first | refine go_run ?_ | (refine go_newP ?_; clear hw; intro p w hw) | (refine go_newW ?_; clear hw; intro w hw) | (refine go_newS ?_; clear hw; intro s w hw))
  rw [List.nil_append] at hw
  obtain ⟨bv, hbv⟩ : ∃ bv, bv = s := ⟨s, rfl⟩
  subst hbv
  refine st_call rfl (Table_spec (rdbO hw) hdb) ?_
  rintro _ w' ⟨s3, rfl, hk'⟩
  replace hw := hw.call1 hk'
  clear hk'
  refine ⟨_, rfl, ?_⟩
  have hw : Sat w0 w' [OS tInt 3 s3 (cutL D (-1) 0), DbO pd (dbI t L D), OS tInt 3 bv D, Box pt 26 [a, b, c, d], OS tInt 3 s1 L] := by
    have hw2 : Sat w0 w' [OS tInt 3 s3 (cutL D (-1) 0), OS tInt 3 s2 D, OS tInt 3 bv D, DbO pd (dbI t L D), OS tInt 3 s1 L, Box pt 26 [a, b, c, d]] := hw
    exact hw2.sel
  repeat (first | refine go_run ?_ | (refine go_newP ?_; clear hw; intro p w hw) | (refine go_newW ?_; clear hw; intro w hw) | (refine go_newS ?_; clear hw; intro s w hw))
  refine vc_loop [9, 43, 44, 45, 46, 47, 48, 49, 50, 51] (G := Nat) (fun k => [(9, .int .i64 k)]) (fun k w => k ≤ D.length ∧ Sat w0 w [OS tInt 3 s3 (cutL D (-1) k), DbO pd (dbI t L D), OS tInt 3 bv D, Box pt 26 [a, b, c, d], OS tInt 3 s1 L]) (fun k => D.length - k) 0 (fun _ => rfl) ⟨rfl, trivial⟩ ⟨Nat.zero_le _, hw⟩ ?_
  clear hw
  rintro σ k w ⟨hk, hw⟩
  have hcl := cutL_len (x := -1) hk
  repeat (first | refine go_run ?_ | (refine go_newP ?_; clear hw; intro p w hw) | (refine go_newW ?_; clear hw; intro w hw) | (refine go_newS ?_; clear hw; intro s w hw))
  refine go_if (fun h1 => ?_) (fun h1 => ?_)
  · have hkl : k < D.length := by omega
    repeat (first | refine go_run ?_ | (refine go_newP ?_; clear hw; intro p w hw) | (refine go_newW ?_; clear hw; intro w hw) | (refine go_newS ?_; clear hw; intro s w hw))
    rw [cutL_set hkl] at hw
    exact ⟨k + 1, ⟨rfl, trivial⟩, by repeat (first | exact agree_refl | (apply agree_upd rfl) | (apply agree_mix rfl) | (apply agree_sets rfl)), ⟨by omega, hw⟩, by omega⟩
  have hw : Sat w0 w [DbO pd (dbI t L D), OS tInt 3 bv D, Box pt 26 [a, b, c, d], OS tInt 3 s1 L] := hw.sel
  clear hcl
  repeat (first | refine go_run ?_ | (refine go_newP ?_; clear hw; intro p w hw) | (refine go_newW ?_; clear hw; intro w hw) | (refine go_newS ?_; clear hw; intro s w hw))
  refine st_call rfl (Pattern_spec (rdbO hw) (by show L.length ≤ _; omega)) ?_
  rintro _ w' ⟨s4, rfl, hk'⟩
  replace hw := hw.call1 hk'
  clear hk'
  refine ⟨_, rfl, ?_⟩
  have hw : Sat w0 w' [OS tInt 3 s4 (cutL L (-1) 0), DbO pd (dbI t L D), OS tInt 3 bv D, Box pt 26 [a, b, c, d], OS tInt 3 s1 L] := hw
  repeat (first | refine go_run ?_ | (refine go_newP ?_; clear hw; intro p w hw) | (refine go_newW ?_; clear hw; intro w hw) | (refine go_newS ?_; clear hw; intro s w hw))
  refine vc_loop [11, 54, 55, 56, 57, 58, 59, 60, 61, 62] (G := Nat) (fun k => [(11, .int .i64 k)]) (fun k w => k ≤ L.length ∧ Sat w0 w [OS tInt 3 s4 (cutL L (-1) k), DbO pd (dbI t L D), OS tInt 3 bv D, Box pt 26 [a, b, c, d], OS tInt 3 s1 L]) (fun k => L.length - k) 0 (fun _ => rfl) ⟨rfl, trivial⟩ ⟨Nat.zero_le _, hw⟩ ?_
  clear hw
  rintro σ1 k w ⟨hk, hw⟩
  have hcl := cutL_len (x := -1) hk
  repeat (first | refine go_run ?_ | (refine go_newP ?_; clear hw; intro p w hw) | (refine go_newW ?_; clear hw; intro w hw) | (refine go_newS ?_; clear hw; intro s w hw))
  refine go_if (fun h2 => ?_) (fun h2 => ?_)
  · have hkl : k < L.length := by omega
    repeat (first | refine go_run ?_ | (refine go_newP ?_; clear hw; intro p w hw) | (refine go_newW ?_; clear hw; intro w hw) | (refine go_newS ?_; clear hw; intro s w hw))
    rw [cutL_set hkl] at hw
    exact ⟨k + 1, ⟨rfl, trivial⟩, by repeat (first | exact agree_refl | (apply agree_upd rfl) | (apply agree_mix rfl) | (apply agree_sets rfl)), ⟨by omega, hw⟩, by omega⟩
  have hw : Sat w0 w [OS tInt 3 s1 L, DbO pd (dbI t L D), OS tInt 3 bv D, Box pt 26 [a, b, c, d]] := hw.sel
  clear hcl
  repeat (first | refine go_run ?_ | (refine go_newP ?_; clear hw; intro p w hw) | (refine go_newW ?_; clear hw; intro w hw) | (refine go_newS ?_; clear hw; intro s w hw))
  refine vc_loop2 [13, 65, 66, 67, 68, 69, 70, 71, 72, 73, 74] (G := Nat) (H := List Int) (fun k _ => [(65, .int .i64 k)]) (fun k M w => k ≤ L.length ∧ M.length = L.length ∧ (∀ i, k ≤ i → M.getD i tInt.dflt = L.getD i tInt.dflt) ∧ Sat w0 w [OS tInt 3 s1 M, DbO pd (dbI t L D), OS tInt 3 bv D, Box pt 26 [a, b, c, d]]) (fun k _ => L.length - k) 0 L (fun _ _ => rfl) ⟨rfl, trivial⟩ ⟨Nat.zero_le _, rfl, fun _ _ => rfl, hw⟩ ?_
  clear hw
  rintro σ2 k M w ⟨hk, hml, hmi, hw⟩
  repeat (first | refine go_run ?_ | (refine go_newP ?_; clear hw; intro p w hw) | (refine go_newW ?_; clear hw; intro w hw) | (refine go_newS ?_; clear hw; intro s w hw))
  refine go_if (fun h3 => ?_) (fun h3 => ?_)
  · have hkl : k < L.length := by omega
    have hLk := hL.mem _ (mem_getD tInt.dflt hkl)
    have hMk := hmi k (Nat.le_refl _)
    repeat (first | refine go_run ?_ | (refine go_newP ?_; clear hw; intro p w hw) | (refine go_newW ?_; clear hw; intro w hw) | (refine go_newS ?_; clear hw; intro s w hw))
    exact ⟨k + 1, _, ⟨rfl, trivial⟩, by repeat (first | exact agree_refl | (apply agree_upd rfl) | (apply agree_mix rfl) | (apply agree_sets rfl)), ⟨by omega, by simp [hml], fun i hi => by rw [getD_set_ne (by omega)]; exact hmi i (by omega), hw⟩, by omega⟩
  have hw : Sat w0 w [DbO pd (dbI t L D), OS tInt 3 bv D, Box pt 26 [a, b, c, d]] := hw.sel
  repeat (first | refine go_run ?_ | (refine go_newP ?_; clear hw; intro p w hw) | (refine go_newW ?_; clear hw; intro w hw) | (refine go_newS ?_; clear hw; intro s w hw))
  refine st_call rfl (Saturated_spec (rdbO hw) hdb) ?_
  rintro _ w' ⟨s5, rfl, hk'⟩
  replace hw := hw.call1 hk'
  clear hk'
  refine ⟨_, rfl, ?_⟩
  obtain ⟨S, hS⟩ : ∃ S, S = satL (dbI t L D).sys.edges (dbI t L D).tab (dbI t L D).sys.costs.length := ⟨_, rfl⟩
  have hSl : S.length ≤ 4096 := by rw [hS, satL_len]; exact hdb.clen
  rw [← hS] at hw
  have hw : Sat w0 w' [OS tInt 3 s5 (cutL S (-1) 0), DbO pd (dbI t L D), OS tInt 3 bv D, Box pt 26 [a, b, c, d]] := hw
  repeat (first | refine go_run ?_ | (refine go_newP ?_; clear hw; intro p w hw) | (refine go_newW ?_; clear hw; intro w hw) | (refine go_newS ?_; clear hw; intro s w hw))
  refine vc_loop [14, 77, 78, 79, 80, 81, 82, 83, 84, 85] (G := Nat) (fun k => [(14, .int .i64 k)]) (fun k w => k ≤ S.length ∧ Sat w0 w [OS tInt 3 s5 (cutL S (-1) k), DbO pd (dbI t L D), OS tInt 3 bv D, Box pt 26 [a, b, c, d]]) (fun k => S.length - k) 0 (fun _ => rfl) ⟨rfl, trivial⟩ ⟨Nat.zero_le _, hw⟩ ?_
  clear hw
  rintro σ3 k w ⟨hk, hw⟩
  have hcl := cutL_len (x := -1) hk
  repeat (first | refine go_run ?_ | (refine go_newP ?_; clear hw; intro p w hw) | (refine go_newW ?_; clear hw; intro w hw) | (refine go_newS ?_; clear hw; intro s w hw))
  refine go_if (fun h4 => ?_) (fun h4 => ?_)
  · have hkl : k < S.length := by omega
    repeat (first | refine go_run ?_ | (refine go_newP ?_; clear hw; intro p w hw) | (refine go_newW ?_; clear hw; intro w hw) | (refine go_newS ?_; clear hw; intro s w hw))
    rw [cutL_set hkl] at hw
    exact ⟨k + 1, ⟨rfl, trivial⟩, by repeat (first | exact agree_refl | (apply agree_upd rfl) | (apply agree_mix rfl) | (apply agree_sets rfl)), ⟨by omega, hw⟩, by omega⟩
  have hw : Sat w0 w [DbO pd (dbI t L D), OS tInt 3 bv D, Box pt 26 [a, b, c, d]] := hw.sel
  clear hcl
  repeat (first | refine go_run ?_ | (refine go_newP ?_; clear hw; intro p w hw) | (refine go_newWr ?_; clear hw; intro w hw) | (refine go_newS ?_; clear hw; intro s w hw))
  refine vc_plan [.op 0, .op 1, .op 2, .op 3, .chk 0, .op 4, .op 5, .op 6, .op 7, .op 8, .op 9] hw (by kernel_rfl) ?_; clear hw; intro w hw
  repeat (first | refine go_run ?_ | (refine go_newP ?_; clear hw; intro p w hw) | (refine go_newWr ?_; clear hw; intro w hw) | (refine go_newS ?_; clear hw; intro s w hw))
  refine st_call rfl (chosen_spec (ht'.at hw) (by omega)) ?_
  rintro _ w' ⟨s6, rfl, hk'⟩
  replace hw := hw.call1 hk'
  clear hk'
  refine ⟨_, rfl, ?_⟩
  rw [← hLe] at hw
  repeat (first | refine go_run ?_ | (refine go_newP ?_; clear hw; intro p w hw) | (refine go_newWr ?_; clear hw; intro w hw) | (refine go_newS ?_; clear hw; intro s w hw))
  refine st_call rfl (Build_spec (kv := .slice none 0 0) (vp := s6) (L := L) (cs := []) (ht'.at hw) (rsO hw) RS.nil) ?_
  rintro _ w' (⟨h1, _⟩ | ⟨_, _, _, _, pd2, D2, rfl, hD2, hk'⟩)
  · exact absurd hbz h1
  replace hw := hw.call1 hk'
  clear hk'
  refine ⟨_, rfl, ?_⟩
  obtain rfl := hD.unique hD2
  have hw : Sat w0 w' [DbO pd2 (dbI t L D), DbO pd (dbI t L D), OS tInt 3 bv D, Box pt 26 [a, b, c, d]] := hw.sel
  repeat (first | refine go_run ?_ | (refine go_newP ?_; clear hw; intro p w hw) | (refine go_newWr ?_; clear hw; intro w hw) | (refine go_newS ?_; clear hw; intro s w hw))
  refine vc_plan [.op 0, .op 1, .op 2, .op 3, .op 5, .op 4, .op 6, .op 7, .op 8, .op 9, .op 11, .op 12, .op 10, .chk 11, .op 13, .op 14, .op 15, .op 16, .op 17, .op 19, .op 18, .op 20, .op 21, .op 22, .op 23] hw (by kernel_rfl) ?_; clear hw; intro w hw
  repeat (first | refine go_run ?_ | (refine go_newP ?_; clear hw; intro p w hw) | (refine go_newWr ?_; clear hw; intro w hw) | (refine go_newS ?_; clear hw; intro s w hw))
  refine st_call rfl (Table_spec (p := pd) (rdbO hw) hdb) ?_
  rintro _ w' ⟨s7, rfl, hk'⟩
  replace hw := hw.call1 hk'
  clear hk'
  refine ⟨_, rfl, ?_⟩
  repeat (first | refine go_run ?_ | (refine go_newP ?_; clear hw; intro p w hw) | (refine go_newWr ?_; clear hw; intro w hw) | (refine go_newS ?_; clear hw; intro s w hw))
  refine st_call rfl (Ints_spec (a := s7) (b := bv) (rsO hw) (rsO hw)) ?_
  rintro _ w' ⟨⟨r, rfl, hr⟩, hk'⟩
  replace hw := hw.call0 hk'
  clear hk'
  obtain rfl : r = true := hr.2 rfl
  clear hr
  refine ⟨_, rfl, ?_⟩
  repeat (first | refine go_run ?_ | (refine go_newP ?_; clear hw; intro p w hw) | (refine go_newWr ?_; clear hw; intro w hw) | (refine go_newS ?_; clear hw; intro s w hw))
  refine st_call rfl (Pattern_spec (p := pd) (rdbO hw) (by show L.length ≤ _; omega)) ?_
  rintro _ w' ⟨s8, rfl, hk'⟩
  replace hw := hw.call1 hk'
  clear hk'
  refine ⟨_, rfl, ?_⟩
  repeat (first | refine go_run ?_ | (refine go_newP ?_; clear hw; intro p w hw) | (refine go_newWr ?_; clear hw; intro w hw) | (refine go_newS ?_; clear hw; intro s w hw))
  refine st_call rfl (chosen_spec (ht'.at hw) (by omega)) ?_
  rintro _ w' ⟨s9, rfl, hk'⟩
  replace hw := hw.call1 hk'
  clear hk'
  refine ⟨_, rfl, ?_⟩
  rw [← hLe] at hw
  repeat (first | refine go_run ?_ | (refine go_newP ?_; clear hw; intro p w hw) | (refine go_newWr ?_; clear hw; intro w hw) | (refine go_newS ?_; clear hw; intro s w hw))
  refine st_call rfl (Ints_spec (a := s8) (b := s9) (rsO hw) (rsO hw)) ?_
  rintro _ w' ⟨⟨r, rfl, hr⟩, hk'⟩
  replace hw := hw.call0 hk'
  clear hk'
  obtain rfl : r = true := hr.2 rfl
  clear hr
  refine ⟨_, rfl, ?_⟩
  repeat (first | refine go_run ?_ | (refine go_newP ?_; clear hw; intro p w hw) | (refine go_newWr ?_; clear hw; intro w hw) | (refine go_newS ?_; clear hw; intro s w hw))
  refine st_call rfl (Saturated_spec (p := pd) (rdbO hw) hdb) ?_
  rintro _ w' ⟨s10, rfl, hk'⟩
  replace hw := hw.call1 hk'
  clear hk'
  refine ⟨_, rfl, ?_⟩
  repeat (first | refine go_run ?_ | (refine go_newP ?_; clear hw; intro p w hw) | (refine go_newWr ?_; clear hw; intro w hw) | (refine go_newS ?_; clear hw; intro s w hw))
  refine st_call rfl (Saturated_spec (p := pd2) (rdbO hw) hdb) ?_
  rintro _ w' ⟨s11, rfl, hk'⟩
  replace hw := hw.call1 hk'
  clear hk'
  refine ⟨_, rfl, ?_⟩
  repeat (first | refine go_run ?_ | (refine go_newP ?_; clear hw; intro p w hw) | (refine go_newWr ?_; clear hw; intro w hw) | (refine go_newS ?_; clear hw; intro s w hw))
  refine st_call rfl (Ints_spec (a := s10) (b := s11) (rsO hw) (rsO hw)) ?_
  rintro _ w' ⟨⟨r, rfl, hr⟩, hk'⟩
  replace hw := hw.call0 hk'
  clear hk'
  obtain rfl : r = true := hr.2 rfl
  clear hr
  refine ⟨_, rfl, ?_⟩
  repeat (first | refine go_run ?_ | (refine go_newP ?_; clear hw; intro p w hw) | (refine go_newWr ?_; clear hw; intro w hw) | (refine go_newS ?_; clear hw; intro s w hw))
  exact res_one (v := .bool true) rfl rfl ⟨rfl, sat_none hw⟩
end Go.Proofs.Ytnichjjloipghaa
