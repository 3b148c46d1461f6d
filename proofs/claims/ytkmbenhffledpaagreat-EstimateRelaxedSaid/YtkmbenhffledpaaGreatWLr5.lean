
/-
  Contracts of reference 34's 'start' and 'Facts'.
-/
import Derived.Test.YtkmbenhffledpaaGreatWLr3
import Derived.Test.YtkmbenhffledpaaGreatTLr
import Derived.Test.YtkmbenhffledpaaGreatWLm1
set_option linter.unusedSimpArgs false
set_option linter.unusedVariables false
namespace Go.Proofs.YtkmbenhffledpaaGreat
open Go.Sl Go
attribute [local irreducible] vc opsW opsD opV opW PureV ReadV Thn Blk
set_option maxRecDepth 8000 in
set_option maxHeartbeats 4000000 in
theorem r34start_spec {w0 : World} {a b c d sv : Value} {vs : List OpV} {t : TTask} {z : List Int} (ht : RTask w0 a b c d vs t) (hg : GoodT t) (hs : RS tInt w0 sv z) (hok : StateOk t.vars z) :
    Calls Tryz.prog 37 #[.agg #[a, b, c, d], sv, .int .i64 0, .int .i64 1125899906842624] w0 fun e w' => ∃ lv ls, e = .returned lv ∧ Sat w0 w' [RowsAt tInt 3 ls (stRows t.vars z t.vars.length), OS tVal 22 lv ls] := by
  have hvr := ht.vars
  have hvl := hg.vars
  have hzl := hok.1
  have hw := Sat.start w0
  refine calls_of_vc (args := [.agg #[a, b, c, d], sv, .int .i64 0, .int .i64 1125899906842624]) mixed Tryz.func37 rfl (by kernel_rfl) (Nat.le_of_ble_eq_true rfl) ?_
  repeat (first | refine go_run ?_ | (refine go_newP ?_; clear hw; intro p w hw) | (refine go_newW ?_; clear hw; intro w hw) | (refine go_newS ?_; clear hw; intro s w hw))
  obtain ⟨pt, hpt⟩ : ∃ pt, pt = p := ⟨p, rfl⟩
  subst hpt
  replace hw := (hw.nil (T := tVal) (e := 22)).rows0 (T := tInt) (e := 3)
  refine vc_loop3 [9, 10, 11, 12, 13, 17, 18, 19, 20, 21, 22, 23, 24, 25, 26, 27, 28, 29, 30, 31, 32, 33, 34, 35, 36, 37, 38, 39, 40, 41, 42, 43, 44, 45, 46, 47, 48] (G := Nat) (H := Value) (I := List Value) (fun k lv _ => [(17, .int .i64 k), (9, lv)]) (fun k lv ls w => k ≤ t.vars.length ∧ ls.length = k ∧ Sat w0 w [RowsAt tInt 3 ls (stRows t.vars z k), OS tVal 22 lv ls, Box pt 26 [a, b, c, d]]) (fun k _ _ => t.vars.length - k) 0 (.slice none 0 0) [] (fun _ _ _ => rfl) ⟨rfl, rfl, trivial⟩ ⟨Nat.zero_le _, rfl, hw⟩ ?_
  clear hw
  rintro σ k lv ls w ⟨hk, hll, hw⟩
  repeat (first | refine go_run ?_ | (refine go_newP ?_; clear hw; intro p w hw) | (refine go_newW ?_; clear hw; intro w hw) | (refine go_newS ?_; clear hw; intro s w hw))
  refine go_if (fun h1 => ?_) (fun h1 => ?_)
  · have hkl : k < t.vars.length := by omega
    have hd := hg.dom k hkl
    have hz := hok.2 k (by rw [hok.1]; exact hkl)
    obtain ⟨n, hn⟩ : ∃ n : Nat, n = (t.vars.getD k tInt.dflt).toNat := ⟨_, rfl⟩
    have hn2 : t.vars.getD k tInt.dflt = (n : Int) := by omega
    repeat (first | refine go_run ?_ | (refine go_newP ?_; clear hw; intro p w hw) | (refine go_newW ?_; clear hw; intro w hw) | (refine go_newS ?_; clear hw; intro s w hw))
    obtain ⟨rv, hrv⟩ : ∃ rv, rv = s := ⟨s, rfl⟩
    subst hrv
    have hw1 : Sat w0 w [OS tInt 3 rv (stRow n (z.getD k tInt.dflt) 0), RowsAt tInt 3 ls (stRows t.vars z k), OS tVal 22 lv ls, Box pt 26 [a, b, c, d]] := by
      rw [← stRow_zero, hn]; exact hw
    clear hw
    have hrl0 := stRow_len n (z.getD k tInt.dflt) 0
    have hw := hw1
    clear hw1
    have hrep : (List.replicate (t.vars.getD k tInt.dflt).toNat (0 : Int)).length = n := by simp [hn]
    repeat (first | refine go_run ?_ | (refine go_newP ?_; clear hw; intro p w hw) | (refine go_newW ?_; clear hw; intro w hw) | (refine go_newS ?_; clear hw; intro s w hw))
    refine vc_loop [13, 26, 27, 28, 29, 30, 31, 32, 33, 34, 35, 36, 37, 38, 39, 40, 41, 42, 43] (G := Nat) (fun j => [(26, .int .i64 j)]) (fun j w => j ≤ n ∧ Sat w0 w [OS tInt 3 rv (stRow n (z.getD k tInt.dflt) j), RowsAt tInt 3 ls (stRows t.vars z k), OS tVal 22 lv ls, Box pt 26 [a, b, c, d]]) (fun j => n - j) 0 (fun _ => rfl) ⟨rfl, trivial⟩ ⟨Nat.zero_le _, hw⟩ ?_
    clear hw
    rintro σ1 j w ⟨hj, hw⟩
    have hrl := stRow_len n (z.getD k tInt.dflt) j
    have hrl2 : ((stRow n (z.getD k tInt.dflt) j).set j 1125899906842624).length = n := by rw [List.length_set]; exact hrl
    repeat (first | refine go_run ?_ | (refine go_newP ?_; clear hw; intro p w hw) | (refine go_newW ?_; clear hw; intro w hw) | (refine go_newS ?_; clear hw; intro s w hw))
    refine go_if (fun h2 => ?_) (fun h2 => ?_)
    · have hjl : j < n := by omega
      have hst := stRow_set (z := z.getD k tInt.dflt) hjl
      repeat (first | refine go_run ?_ | (refine go_newP ?_; clear hw; intro p w hw) | (refine go_newW ?_; clear hw; intro w hw) | (refine go_newS ?_; clear hw; intro s w hw))
      refine go_if (fun h3 => ?_) (fun h3 => ?_)
      · repeat (first | refine go_run ?_ | (refine go_newP ?_; clear hw; intro p w hw) | (refine go_newW ?_; clear hw; intro w hw) | (refine go_newS ?_; clear hw; intro s w hw))
        rw [List.set_set] at hw
        rw [if_pos h3] at hst
        rw [hst] at hw
        exact ⟨j + 1, ⟨rfl, trivial⟩, by repeat (first | exact agree_refl | (apply agree_upd rfl) | (apply agree_mix rfl) | (apply agree_sets rfl)), ⟨by omega, hw⟩, by omega⟩
      · repeat (first | refine go_run ?_ | (refine go_newP ?_; clear hw; intro p w hw) | (refine go_newW ?_; clear hw; intro w hw) | (refine go_newS ?_; clear hw; intro s w hw))
        rw [if_neg h3] at hst
        rw [show (1125899906842624 : Int) = inf from rfl, hst] at hw
        exact ⟨j + 1, ⟨rfl, trivial⟩, by repeat (first | exact agree_refl | (apply agree_upd rfl) | (apply agree_mix rfl) | (apply agree_sets rfl)), ⟨by omega, hw⟩, by omega⟩
    have hje : j = n := by omega
    rw [hje] at hw
    repeat (first | refine go_run ?_ | (refine go_newP ?_; clear hw; intro p w hw) | (refine go_newW ?_; clear hw; intro w hw) | (refine go_newS ?_; clear hw; intro s w hw))
    obtain ⟨lv2, hlv2⟩ : ∃ lv2, lv2 = s := ⟨s, rfl⟩
    subst hlv2
    have hw2 : Sat w0 w [OS tInt 3 rv (stRow n (z.getD k tInt.dflt) n), RowsAt tInt 3 ls (stRows t.vars z k), OS tVal 22 lv2 (ls ++ [rv]), Box pt 26 [a, b, c, d]] := hw.sel
    have hw3 := hw2.rowPush
    rw [hn, ← stRows_succ] at hw3
    exact ⟨k + 1, lv2, ls ++ [rv], ⟨rfl, rfl, trivial⟩, by repeat (first | exact agree_refl | (apply agree_upd rfl) | (apply agree_mix rfl) | (apply agree_sets rfl)), ⟨by omega, by simp [hll], hw3⟩, by omega⟩
  have hke : k = t.vars.length := by omega
  rw [hke] at hw
  repeat (first | refine go_run ?_ | (refine go_newP ?_; clear hw; intro p w hw) | (refine go_newW ?_; clear hw; intro w hw) | (refine go_newS ?_; clear hw; intro s w hw))
  exact res_one (v := lv) rfl rfl ⟨lv, ls, rfl, hw.sel⟩
theorem rvals_of {w0 w : World} {Γ : List HP} {lv : Value} {ls : List Value} {vars D : List Int} (hp : ∀ x ∈ vars, 1 ≤ x) (hw : Sat w0 w (RowsAt tInt 3 ls (rowsD vars D) :: OS tVal 22 lv ls :: Γ)) : RVals w lv vars D := by
  have hl : ls.length = vars.length := hw.rowsLen.trans (rowsD_len _ _)
  refine ⟨ls, hw.rs 1 rfl, hl, fun v hv => ?_⟩
  have h1 := hw.row (i := v) (by rw [rowsD_len]; exact hv)
  rw [rowsD_at hv] at h1
  have h2 := hp _ (mem_getD tInt.dflt hv)
  refine ⟨_, h1, by rw [rowD_len]; omega, fun x hx => ?_⟩
  rw [rowD_len] at hx
  exact rowD_at (by omega)
set_option maxRecDepth 8000 in
set_option maxHeartbeats 8000000 in
theorem r34Facts_spec {w0 : World} {a b c d sv cv : Value} {vs : List OpV} {t : TTask} {z cs : List Int} (ht : RTask w0 a b c d vs t) (hg : GoodT t) (hc : CostsOk t cs) (hcs : RS tInt w0 cv cs) (hs : RS tInt w0 sv z) (hok : StateOk t.vars z) :
    Calls Tryz.prog 14 #[.agg #[a, b, c, d], cv, sv, .slice none 0 0] w0 fun e w' => ∃ lv ls D, e = .returned lv ∧ IsHM (withC t cs) z D ∧ Sat w0 w' [RowsAt tInt 3 ls (rowsD t.vars D), OS tVal 22 lv ls] := by
  have hdr := ht.ops.rs
  have hdl := ht.ops.len
  have hol := hg.ops
  have hcl := hc.1
  have hvl := hg.vars
  have hN := factN_eq hg
  have hw := Sat.start w0
  have hnil : RS tInt w0 (.slice none 0 0) [] := (hw.nil (T := tInt) (e := 3)).rs 0 rfl
  refine calls_of_vc (args := [.agg #[a, b, c, d], cv, sv, .slice none 0 0]) mixed Tryz.func14 rfl (by kernel_rfl) (Nat.le_of_ble_eq_true rfl) ?_
  repeat (first | refine go_run ?_ | (refine go_newP ?_; clear hw; intro p w hw) | (refine go_newW ?_; clear hw; intro w hw) | (refine go_newS ?_; clear hw; intro s w hw))
  obtain ⟨pt, hpt⟩ : ∃ pt, pt = p := ⟨p, rfl⟩
  subst hpt
  refine st_call rfl (r34start_spec (ht.at hw) hg (hs.at hw) hok) ?_
  rintro _ w' ⟨lv, ls, rfl, hk'⟩
  replace hw := hw.call2 hk'
  clear hk'
  refine ⟨_, rfl, ?_⟩
  obtain ⟨D0, hV0, hD0⟩ := st_rows_ex (cs := cs) hg hok
  rw [hD0] at hw
  repeat (first | refine go_run ?_ | (refine go_newP ?_; clear hw; intro p w hw) | (refine go_newW ?_; clear hw; intro w hw) | (refine go_newS ?_; clear hw; intro s w hw))
  refine vc_loop2 [10, 11, 12, 13, 15, 16, 17, 18, 22, 23, 24, 25, 26, 27, 28, 29, 30, 31, 32, 33, 34, 35, 36, 37, 38, 39, 40, 41, 42, 43, 44, 45, 46, 47, 48, 49, 50, 51, 52, 53, 54, 55, 56, 57, 58, 59, 60, 61, 62, 63, 64, 65, 66, 67, 68, 69, 70, 71, 72, 73, 74, 75, 76, 77, 78, 79, 80, 81, 82, 83, 84, 85, 86, 87, 88, 89, 90, 91, 92, 93] (G := Bool) (H := List Int) (fun ch _ => [(10, .bool ch)]) (fun ch D w => LVI (withC t cs) z D ∧ (ch = false → ∀ k' j' : Nat, (fun (k' j' : Nat) (D : List Int) => k' < t.ops.length → j' < (t.ops.getD k' dOp).effs.length → maxG t.vars (rNeed (t.ops.getD k' dOp) j') D < inf → dg D (numF t.vars (rTo (t.ops.getD k' dOp) j')) ≤ maxG t.vars (rNeed (t.ops.getD k' dOp) j') D + cs.getD k' tInt.dflt) k' j' D) ∧ Sat w0 w [RowsAt tInt 3 ls (rowsD t.vars D), OS tVal 22 lv ls, Box pt 26 [a, b, c, d]]) (fun ch D => 2 * sumD D + (bif ch then 1 else 0)) true D0 (fun _ _ => rfl) ⟨rfl, trivial⟩ ⟨hV0, (fun h => by cases h), hw⟩ ?_
  clear hw hV0 hD0
  rintro σ ch D w ⟨hV, hst, hw⟩
  cases ch
  · repeat (first | refine go_run ?_ | (refine go_newP ?_; clear hw; intro p w hw) | (refine go_newW ?_; clear hw; intro w hw) | (refine go_newS ?_; clear hw; intro s w hw))
    exact res_one (v := lv) rfl rfl ⟨lv, ls, D, rfl, hV.done hg hc fun k j hk hj => hst rfl k j hk hj, hw.sel⟩
  clear hst
  repeat (first | refine go_run ?_ | (refine go_newP ?_; clear hw; intro p w hw) | (refine go_newW ?_; clear hw; intro w hw) | (refine go_newS ?_; clear hw; intro s w hw))
  refine vc_loop3 [10, 11, 12, 13, 15, 16, 17, 18, 26, 27, 28, 29, 30, 31, 32, 33, 34, 35, 36, 37, 38, 39, 40, 41, 42, 43, 44, 45, 46, 47, 48, 49, 50, 51, 52, 53, 54, 55, 56, 57, 58, 59, 60, 61, 62, 63, 64, 65, 66, 67, 68, 69, 70, 71, 72, 73, 74, 75, 76, 77, 78, 79, 80, 81, 82, 83, 84, 85, 86, 87, 88, 89, 90, 91, 92, 93] (G := Nat) (H := Bool) (I := List Int) (fun k ch _ => [(26, .int .i64 k), (10, .bool ch)]) (fun k ch D' w => k ≤ t.ops.length ∧ LVI (withC t cs) z D' ∧ sumD D' ≤ sumD D ∧ (ch = true → sumD D' < sumD D) ∧ (ch = false → ∀ k' j' : Nat, k' < k → (fun (k' j' : Nat) (D : List Int) => k' < t.ops.length → j' < (t.ops.getD k' dOp).effs.length → maxG t.vars (rNeed (t.ops.getD k' dOp) j') D < inf → dg D (numF t.vars (rTo (t.ops.getD k' dOp) j')) ≤ maxG t.vars (rNeed (t.ops.getD k' dOp) j') D + cs.getD k' tInt.dflt) k' j' D') ∧ Sat w0 w [RowsAt tInt 3 ls (rowsD t.vars D'), OS tVal 22 lv ls, Box pt 26 [a, b, c, d]]) (fun k _ _ => t.ops.length - k) 0 false D (fun _ _ _ => rfl) ⟨rfl, rfl, trivial⟩ ⟨Nat.zero_le _, hV, Nat.le_refl _, (fun h => by cases h), (fun _ k' j' h => absurd h (Nat.not_lt_zero _)), hw⟩ ?_
  clear hw
  rintro σ1 k ch D' w ⟨hk, hV1, hs1, hs2, hs3, hw⟩
  repeat (first | refine go_run ?_ | (refine go_newP ?_; clear hw; intro p w hw) | (refine go_newW ?_; clear hw; intro w hw) | (refine go_newS ?_; clear hw; intro s w hw))
  refine go_if (fun h1 => ?_) (fun h1 => ?_)
  · have hkl : k < t.ops.length := by omega
    have hop := ht.ops.at_ k hkl
    have hoo := hg.op k hkl
    have hone := hop.one
    obtain ⟨es, hes⟩ := hop.effs
    have hesr := hes.rs
    have hesl := hes.len
    have heb := hoo.effs
    repeat (first | refine go_run ?_ | (refine go_newP ?_; clear hw; intro p w hw) | (refine go_newW ?_; clear hw; intro w hw) | (refine go_newS ?_; clear hw; intro s w hw))
    obtain ⟨po, hpo⟩ : ∃ po, po = p := ⟨p, rfl⟩
    subst hpo
    have hw1 : Sat w0 w [Box po 56 (tOp.enc (eget tOp vs k)), RowsAt tInt 3 ls (rowsD t.vars D'), OS tVal 22 lv ls, Box pt 26 [a, b, c, d]] := hw
    clear hw
    have hw := hw1
    clear hw1
    refine vc_loop [13, 15, 33, 34, 35, 36, 37, 38, 39, 40, 41, 42, 43] (G := Nat) (fun i => [(33, .int .i64 i), (13, .bool false)]) (fun i w => i = 0 ∧ Sat w0 w [Box po 56 (tOp.enc (eget tOp vs k)), RowsAt tInt 3 ls (rowsD t.vars D'), OS tVal 22 lv ls, Box pt 26 [a, b, c, d]]) (fun i => 0) 0 (fun _ => rfl) ⟨rfl, rfl, trivial⟩ ⟨rfl, hw⟩ ?_
    clear hw
    rintro σ2 i w ⟨rfl, hw⟩
    repeat (first | refine go_run ?_ | (refine go_newP ?_; clear hw; intro p w hw) | (refine go_newW ?_; clear hw; intro w hw) | (refine go_newS ?_; clear hw; intro s w hw))
    refine vc_loop3 [10, 16, 17, 18, 48, 49, 50, 51, 52, 53, 54, 55, 56, 57, 58, 59, 60, 61, 62, 63, 64, 65, 66, 67, 68, 69, 70, 71, 72, 73, 74, 75, 76, 77, 78, 79, 80, 81, 82, 83, 84, 85, 86, 87, 88, 89, 90, 91, 92] (G := Nat) (H := Bool) (I := List Int) (fun j ch _ => [(48, .int .i64 j), (10, .bool ch)]) (fun j ch D' w => j ≤ (t.ops.getD k dOp).effs.length ∧ LVI (withC t cs) z D' ∧ sumD D' ≤ sumD D ∧ (ch = true → sumD D' < sumD D) ∧ (ch = false → ∀ k' j' : Nat, (k' < k ∨ (k' = k ∧ j' < j)) → (fun (k' j' : Nat) (D : List Int) => k' < t.ops.length → j' < (t.ops.getD k' dOp).effs.length → maxG t.vars (rNeed (t.ops.getD k' dOp) j') D < inf → dg D (numF t.vars (rTo (t.ops.getD k' dOp) j')) ≤ maxG t.vars (rNeed (t.ops.getD k' dOp) j') D + cs.getD k' tInt.dflt) k' j' D') ∧ Sat w0 w [Box po 56 (tOp.enc (eget tOp vs k)), RowsAt tInt 3 ls (rowsD t.vars D'), OS tVal 22 lv ls, Box pt 26 [a, b, c, d]]) (fun j _ _ => (t.ops.getD k dOp).effs.length - j) 0 ch D' (fun _ _ _ => rfl) ⟨rfl, rfl, trivial⟩ ⟨Nat.zero_le _, hV1, hs1, hs2, (fun h k' j' h' => hs3 h k' j' (by omega)), hw⟩ ?_
    clear hw hV1 hs1 hs2 hs3
    rintro σ3 j ch1 D1 w ⟨hj, hV1, hs1, hs2, hs3, hw⟩
    repeat (first | refine go_run ?_ | (refine go_newP ?_; clear hw; intro p w hw) | (refine go_newW ?_; clear hw; intro w hw) | (refine go_newS ?_; clear hw; intro s w hw))
    refine go_if (fun h2 => ?_) (fun h2 => ?_)
    · have hjl : j < (t.ops.getD k dOp).effs.length := by omega
      have hue := hes.at_ j hjl
      have hue1 := hue.var
      have hue2 := hue.val
      have hueo := hue.one
      obtain ⟨x0, x1, x2, x3⟩ := rTo_ok hg hkl hjl
      have hrel := hV1.rel hg hc hkl hjl
      have hnok := rNeed_ok hg hkl hjl
      have hnl := rNeed_len hg hkl hjl
      have hcr := hc.2 _ (mem_getD tInt.dflt (show k < cs.length by omega))
      have hvo : (rTo (t.ops.getD k dOp) j).var.toNat < t.vars.length := by omega
      have hmr := hV1.rng (numF t.vars (rTo (t.ops.getD k dOp) j)) (numF_rng hg.pos (rTo_ok hg hkl hjl)).1 (by have := (numF_rng hg.pos (rTo_ok hg hkl hjl)).2; have e : factN (withC t cs) = factN t := rfl; omega)
      obtain ⟨vn, hvn⟩ : ∃ vn : Nat, vn = (rTo (t.ops.getD k dOp) j).var.toNat := ⟨_, rfl⟩
      obtain ⟨xn, hxn⟩ : ∃ xn : Nat, xn = (rTo (t.ops.getD k dOp) j).val.toNat := ⟨_, rfl⟩
      have hvn1 : (eget tEff es j).var = (vn : Int) := by rw [hue1]; show (rTo (t.ops.getD k dOp) j).var = _; omega
      have hxn1 : (eget tEff es j).val = (xn : Int) := by rw [hue2]; show (rTo (t.ops.getD k dOp) j).val = _; omega
      rw [← hvn] at hvo
      have hxl : (xn : Int) < t.vars.getD vn tInt.dflt := by rw [hvn, hxn, Int.toNat_of_nonneg x2]; exact x3
      have hnum : numF t.vars (rTo (t.ops.getD k dOp) j) = firstV t.vars vn + (xn : Int) := by unfold numF; rw [← hvn]; omega
      have hrowl := rowD_len t.vars D1 vn
      have hrowa := rowD_at (vars := t.vars) (D := D1) hxl
      have hen : tEff.enc (eget tEff es j) = [(eget tEff es j).when, .int .i64 (vn : Int), .int .i64 (xn : Int)] := by
        show [(eget tEff es j).when, .int .i64 (eget tEff es j).var, .int .i64 (eget tEff es j).val] = _
        rw [hvn1, hxn1]
      rw [hnum] at hrel hmr
      rw [← hrowa] at hrel hmr
      repeat (first | refine go_run ?_ | (refine go_newP ?_; clear hw; intro p w hw) | (refine go_newW ?_; clear hw; intro w hw) | (refine go_newS ?_; clear hw; intro s w hw))
      obtain ⟨p17, hp17⟩ : ∃ p17, p17 = p := ⟨p, rfl⟩
      subst hp17
      refine st_call rfl (r34Needs_spec (hop.at hw) hoo hvl hjl) ?_
      rintro _ w' ⟨nv, rfl, hk'⟩
      replace hw := hw.call1 hk'
      clear hk'
      refine ⟨_, rfl, ?_⟩
      rw [hen] at hw
      replace hw : Sat w0 w' [OS tFact 77 nv (rNeed (t.ops.getD k dOp) j), Box p17 80 [(eget tEff es j).when, .int .i64 (vn : Int), .int .i64 (xn : Int)], Box po 56 (tOp.enc (eget tOp vs k)), RowsAt tInt 3 ls (rowsD t.vars D1), OS tVal 22 lv ls, Box pt 26 [a, b, c, d]] := hw
      have hw1 : Sat w0 w' [RowsAt tInt 3 ls (rowsD t.vars D1), OS tVal 22 lv ls, OS tFact 77 nv (rNeed (t.ops.getD k dOp) j), Box p17 80 [(eget tEff es j).when, .int .i64 (vn : Int), .int .i64 (xn : Int)], Box po 56 (tOp.enc (eget tOp vs k)), Box pt 26 [a, b, c, d]] := hw.sel
      clear hw
      have hw := hw1
      clear hw1
      repeat (first | refine go_run ?_ | (refine go_newP ?_; clear hw; intro p w hw) | (refine go_newW ?_; clear hw; intro w hw) | (refine go_newS ?_; clear hw; intro s w hw))
      refine st_call rfl (r34Greatest_spec (rvals_of hg.pos hw) (rsO (s := nv) hw) hnok) ?_
      rintro _ w' ⟨rfl, hk'⟩
      replace hw := hw.call0 hk'
      clear hk'
      refine ⟨_, rfl, ?_⟩
      obtain ⟨m, hm⟩ : ∃ m, m = maxG t.vars (rNeed (t.ops.getD k dOp) j) D1 := ⟨_, rfl⟩
      rw [← hm] at hrel ⊢
      have hm0 := hrel.1
      have hrl2 := hrel.2 m rfl
      have hlsl : ls.length = t.vars.length := hw.rowsLen.trans (rowsD_len _ _)
      by_cases q1 : m < inf
      · have q1' : m < 1125899906842624 := q1
        have hd1 : decide (m < 1125899906842624) = true := decide_eq_true q1
        by_cases q2 : m + cs.getD k tInt.dflt < (rowD t.vars D1 vn).getD xn tInt.dflt
        · have hd2 : decide (m + cs.getD k tInt.dflt < (rowD t.vars D1 vn).getD xn tInt.dflt) = true := decide_eq_true q2
          repeat (first | refine go_run ?_ | (refine go_newP ?_; clear hw; intro p w hw) | (refine go_newWr ?_; clear hw; intro w hw) | (refine go_newS ?_; clear hw; intro s w hw))
          refine go_draw ?_
          clear hw
          intro w hw
          have hrow := hw.row (i := vn) (by rw [rowsD_len]; exact hvo)
          rw [rowsD_at hvo] at hrow
          repeat (first | refine go_run ?_ | (refine go_newP ?_; clear hw; intro p w hw) | (refine go_newWr ?_; clear hw; intro w hw) | (refine go_newS ?_; clear hw; intro s w hw))
          simp only [hd1, beq_self_eq_true, beq_tfI, beq_ftI, Bool.false_and, Bool.true_and, Bool.false_or, Bool.true_or, Bool.not_true, Bool.not_false, Bool.cond_true, Bool.cond_false, gv_fI, gv_tI]
          repeat (first | refine go_run ?_ | (refine go_newP ?_; clear hw; intro p w hw) | (refine go_newWr ?_; clear hw; intro w hw) | (refine go_newS ?_; clear hw; intro s w hw))
          simp only [hd2, beq_self_eq_true, beq_tfI, beq_ftI, Bool.false_and, Bool.true_and, Bool.false_or, Bool.true_or, Bool.not_true, Bool.not_false, Bool.cond_true, Bool.cond_false, gv_fI, gv_tI]
          repeat (first | refine go_run ?_ | (refine go_newP ?_; clear hw; intro p w hw) | (refine go_newWr ?_; clear hw; intro w hw) | (refine go_newS ?_; clear hw; intro s w hw))
          refine go_draw ?_
          clear hw
          intro w hw
          replace hw := hw.rowOut (i := vn) (by rw [rowsD_len]; exact hvo)
          rw [rowsD_at hvo] at hw
          repeat (first | refine go_run ?_ | (refine go_newP ?_; clear hw; intro p w hw) | (refine go_newWr ?_; clear hw; intro w hw) | (refine go_newS ?_; clear hw; intro s w hw))
          replace hw := Sat.rowBack (by rw [rowsD_len]; exact hvo) (hlsl.trans (rowsD_len _ _).symm) hw
          have hst := rowsD_set hg.pos (D := D1) (by rw [hV1.len]; exact hN) hvo (Int.natCast_nonneg xn) hxl (m + cs.getD k tInt.dflt)
          rw [Int.toNat_natCast] at hst
          rw [hst] at hw
          obtain ⟨g1, g2⟩ := hrl2 q1 q2
          exact ⟨j + 1, true, _, ⟨rfl, rfl, trivial⟩, by repeat (first | exact agree_refl | (apply agree_upd rfl) | (apply agree_mix rfl) | (apply agree_sets rfl)), ⟨by omega, g1, by omega, fun _ => by omega, (fun h => by cases h), hw.sel⟩, by omega⟩
        · have hd2 : decide (m + cs.getD k tInt.dflt < (rowD t.vars D1 vn).getD xn tInt.dflt) = false := decide_eq_false q2
          repeat (first | refine go_run ?_ | (refine go_newP ?_; clear hw; intro p w hw) | (refine go_newWr ?_; clear hw; intro w hw) | (refine go_newS ?_; clear hw; intro s w hw))
          refine go_draw ?_
          clear hw
          intro w hw
          have hrow := hw.row (i := vn) (by rw [rowsD_len]; exact hvo)
          rw [rowsD_at hvo] at hrow
          repeat (first | refine go_run ?_ | (refine go_newP ?_; clear hw; intro p w hw) | (refine go_newWr ?_; clear hw; intro w hw) | (refine go_newS ?_; clear hw; intro s w hw))
          simp only [hd1, beq_self_eq_true, beq_tfI, beq_ftI, Bool.false_and, Bool.true_and, Bool.false_or, Bool.true_or, Bool.not_true, Bool.not_false, Bool.cond_true, Bool.cond_false, gv_fI, gv_tI]
          repeat (first | refine go_run ?_ | (refine go_newP ?_; clear hw; intro p w hw) | (refine go_newWr ?_; clear hw; intro w hw) | (refine go_newS ?_; clear hw; intro s w hw))
          simp only [hd2, beq_self_eq_true, beq_tfI, beq_ftI, Bool.false_and, Bool.true_and, Bool.false_or, Bool.true_or, Bool.not_true, Bool.not_false, Bool.cond_true, Bool.cond_false, gv_fI, gv_tI]
          repeat (first | refine go_run ?_ | (refine go_newP ?_; clear hw; intro p w hw) | (refine go_newWr ?_; clear hw; intro w hw) | (refine go_newS ?_; clear hw; intro s w hw))
          refine ⟨j + 1, ch1, D1, ⟨rfl, rfl, trivial⟩, by repeat (first | exact agree_refl | (apply agree_upd rfl) | (apply agree_mix rfl) | (apply agree_sets rfl)), ⟨by omega, hV1, hs1, hs2, fun hch k' j' hlt => ?_, hw.sel⟩, by omega⟩
          by_cases e : k' = k ∧ j' = j
          · obtain ⟨rfl, rfl⟩ := e
            intro _ _ _
            rw [hnum, ← hrowa, ← hm]
            omega
          · exact hs3 hch k' j' (by omega)
      · have hd1 : decide (m < 1125899906842624) = false := decide_eq_false q1
        repeat (first | refine go_run ?_ | (refine go_newP ?_; clear hw; intro p w hw) | (refine go_newWr ?_; clear hw; intro w hw) | (refine go_newS ?_; clear hw; intro s w hw))
        refine go_draw ?_
        clear hw
        intro w hw
        repeat (first | refine go_run ?_ | (refine go_newP ?_; clear hw; intro p w hw) | (refine go_newWr ?_; clear hw; intro w hw) | (refine go_newS ?_; clear hw; intro s w hw))
        simp only [hd1, beq_self_eq_true, beq_tfI, beq_ftI, Bool.false_and, Bool.true_and, Bool.false_or, Bool.true_or, Bool.not_true, Bool.not_false, Bool.cond_true, Bool.cond_false, gv_fI, gv_tI]
        repeat (first | refine go_run ?_ | (refine go_newP ?_; clear hw; intro p w hw) | (refine go_newWr ?_; clear hw; intro w hw) | (refine go_newS ?_; clear hw; intro s w hw))
        refine ⟨j + 1, ch1, D1, ⟨rfl, rfl, trivial⟩, by repeat (first | exact agree_refl | (apply agree_upd rfl) | (apply agree_mix rfl) | (apply agree_sets rfl)), ⟨by omega, hV1, hs1, hs2, fun hch k' j' hlt => ?_, hw.sel⟩, by omega⟩
        by_cases e : k' = k ∧ j' = j
        · obtain ⟨rfl, rfl⟩ := e
          intro _ _ h
          rw [← hm] at h
          exact absurd h q1
        · exact hs3 hch k' j' (by omega)
    have hje : j = (t.ops.getD k dOp).effs.length := by omega
    repeat (first | refine go_run ?_ | (refine go_newP ?_; clear hw; intro p w hw) | (refine go_newW ?_; clear hw; intro w hw) | (refine go_newS ?_; clear hw; intro s w hw))
    refine ⟨k + 1, ch1, D1, ⟨rfl, rfl, trivial⟩, by repeat (first | exact agree_refl | (apply agree_upd rfl) | (apply agree_mix rfl) | (apply agree_sets rfl)), ⟨by omega, hV1, hs1, hs2, fun hch k' j' hlt h1' h2' => ?_, hw.sel⟩, by omega⟩
    refine hs3 hch k' j' ?_ h1' h2'
    by_cases e : k' = k
    · rw [e] at h2'; omega
    · omega
  · repeat (first | refine go_run ?_ | (refine go_newP ?_; clear hw; intro p w hw) | (refine go_newW ?_; clear hw; intro w hw) | (refine go_newS ?_; clear hw; intro s w hw))
    refine ⟨ch, D', ⟨rfl, trivial⟩, by repeat (first | exact agree_refl | (apply agree_upd rfl) | (apply agree_mix rfl) | (apply agree_sets rfl)), ⟨hV1, fun hch k' j' h1' => hs3 hch k' j' (by omega) h1', hw⟩, ?_⟩
    cases ch
    · simp only [cond_true, cond_false]; omega
    · have := hs2 rfl
      simp only [cond_true]; omega
end Go.Proofs.YtkmbenhffledpaaGreat
