
/-
  Contracts of the reference of layer 50: 'Round', 'Rounds'.
-/
import Derived.Test.YtoddgmmkpiojlaaWRef50
import Derived.Test.YtoddgmmkpiojlaaTRnd
set_option linter.unusedSimpArgs false
set_option linter.unusedVariables false
namespace Go.Proofs.Ytoddgmmkpiojlaa
open Go.Sl Go
attribute [local irreducible] vc opsW opsD opV opW PureV ReadV Thn Blk
set_option maxRecDepth 8000 in
set_option maxHeartbeats 8000000 in
theorem rround_spec {w0 : World} {a b c d hv : Value} {vs : List OpV} {t : TTask} {T : List Int} {lim e : Nat} {bound : Int} {R : IR} {S' : ISt} (ht : RTask w0 a b c d vs t) (hh : RS tInt w0 hv T) (hg : GoodT t) (hB : prodL t.vars ≤ 512) (hTl : T.length = (statesL t.vars).length) (hT : ∀ x ∈ T, 0 ≤ x ∧ x ≤ inf) (hlim : lim ≤ 1048576) (he : e ≤ lim) (hv1 : visF ⟨t, tabH t T, lim, bound⟩ (lim + 1) t.init 0 (start0 e) = (R, S')) (hne : R ≠ .unknown) :
    Calls Try.prog 43 #[.agg #[a, b, c, d], hv, .int .i64 bound] w0 fun e w' => e = .returned (.tuple #[.bool (decide (R = .solved)), .int .i64 (minI S'.next)]) ∧ Sat w0 w' [] := by
  have hsl : (statesL t.vars).length = (prodL t.vars).toNat := statesL_len hg.pos
  have hpp := prodL_pos hg.pos
  have hTb := hh.big
  have hrl : (List.replicate ((T.length : Nat) : Int).toNat (0 : Int)).length = T.length := by simp
  have hw := Sat.start w0
  refine calls_of_vc (args := [.agg #[a, b, c, d], hv, .int .i64 bound]) mixed Try.func43 rfl (by kernel_rfl) (Nat.le_of_ble_eq_true rfl) ?_
  repeat (first | refine go_run ?_ | (refine go_newP ?_; clear hw; intro p w hw) | (refine go_newWr ?_; clear hw; intro w hw) | (refine go_newS ?_; clear hw; intro s w hw))
  obtain ⟨pt, hpt⟩ : ∃ pt, pt = p := ⟨p, rfl⟩
  subst hpt
  obtain ⟨nv, hnv⟩ : ∃ nv, nv = s := ⟨s, rfl⟩
  subst hnv
  rw [Int.toNat_natCast, ← fillL_zero T.length (fun _ => inf)] at hw
  repeat (first | refine go_run ?_ | (refine go_newP ?_; clear hw; intro p w hw) | (refine go_newWr ?_; clear hw; intro w hw) | (refine go_newS ?_; clear hw; intro s w hw))
  refine vc_loop [9, 15, 16, 17, 18, 19, 20, 21] (G := Nat) (fun k => [(15, .int .i64 k)]) (fun k w => k ≤ T.length ∧ Sat w0 w [OS tInt 3 nv (fillL T.length (fun _ => inf) k), Box pt 26 [a, b, c, d]]) (fun k => T.length - k) 0 (fun _ => rfl) ⟨rfl, trivial⟩ ⟨Nat.zero_le _, hw⟩ ?_
  clear hw
  rintro σ k w ⟨hk, hw⟩
  have hml := fillL_len T.length (fun _ => inf) k
  repeat (first | refine go_run ?_ | (refine go_newP ?_; clear hw; intro p w hw) | (refine go_newW ?_; clear hw; intro w hw) | (refine go_newS ?_; clear hw; intro s w hw))
  refine go_if (fun h1 => ?_) (fun h1 => ?_)
  · have hkl : k < T.length := by omega
    repeat (first | refine go_run ?_ | (refine go_newP ?_; clear hw; intro p w hw) | (refine go_newW ?_; clear hw; intro w hw) | (refine go_newS ?_; clear hw; intro s w hw))
    rw [show (1125899906842624 : Int) = (fun _ : Nat => inf) k from rfl, fillL_set] at hw
    exact ⟨k + 1, ⟨rfl, trivial⟩, by repeat (first | exact agree_refl | (apply agree_upd rfl) | (apply agree_mix rfl) | (apply agree_sets rfl)), ⟨by omega, hw⟩, by omega⟩
  have hke : k = T.length := by omega
  rw [hke, fillL_end, hTl] at hw
  clear hml
  repeat (first | refine go_run ?_ | (refine go_newP ?_; clear hw; intro p w hw) | (refine go_newWr ?_; clear hw; intro w hw) | (refine go_newS ?_; clear hw; intro s w hw))
  have hP : RPre t lim t.init 0 (start0 e) := ⟨hg.init, Int.le_refl _, by show (0 : Int) ≤ (e : Int) * 1048576; omega, he⟩
  refine st_call rfl (rvisit_spec hg hB hTl hT hlim (lim + 1) w0 w [Box pt 26 [a, b, c, d]] a b c d hv nv b vs _ t.init 0 (start0 e) R S' ht hh (Kept.of fun w Γ' h => ht.init.at h) hP (by rw [List.length_replicate]) (seenR_none hg) hv1 hne hw) ?_
  clear hw
  rintro _ w ⟨rfl, N2, hN2l, hN2, hw⟩
  refine ⟨_, rfl, ?_⟩
  repeat (first | refine go_run ?_ | (refine go_newP ?_; clear hw; intro p w hw) | (refine go_newWr ?_; clear hw; intro w hw) | (refine go_newS ?_; clear hw; intro s w hw))
  exact res_two (v := .bool (decide (R = .solved))) (v' := .int .i64 (minI S'.next)) rfl rfl rfl ⟨rfl, sat_none hw⟩
set_option maxRecDepth 8000 in
set_option maxHeartbeats 8000000 in
theorem rrounds_spec {w0 : World} {a b c d hv : Value} {vs : List OpV} {t : TTask} {T : List Int} {lim : Nat} (ht : RTask w0 a b c d vs t) (hh : RS tInt w0 hv T) (hg : GoodT t) (hB : prodL t.vars ≤ 512) (hTl : T.length = (statesL t.vars).length) (hT : ∀ x ∈ T, 0 ≤ x ∧ x ≤ inf) (hlim : lim ≤ 1048576) (hne : (runR t (tabH t T) lim).1 ≠ .unknown) (hrng : ∀ x ∈ (runR t (tabH t T) lim).2.2, x < inf) :
    Calls Try.prog 23 #[.agg #[a, b, c, d], hv] w0 fun e w' => ∃ bv, e = .returned bv ∧ Sat w0 w' [OS tInt 3 bv (runR t (tabH t T) lim).2.2] := by
  have hsl : (statesL t.vars).length = (prodL t.vars).toNat := statesL_len hg.pos
  have hpp := prodL_pos hg.pos
  have hTb := hh.big
  have hH := tab_ok hg hTl hT
  have hrb := rankL_bound hg.init
  have hfm := first_min hH
  have e2 : inf = 1125899906842624 := rfl
  have e3 : big62 = 4611686018427387904 := rfl
  obtain ⟨R, hR⟩ : ∃ R, R = runR t (tabH t T) lim := ⟨_, rfl⟩
  rw [← hR] at hne hrng ⊢
  have hinit : tabH t T t.init = T.getD (rankL t.vars t.init).toNat tInt.dflt := tabH_ok hg.init
  rw [hinit] at hfm
  have hw := Sat.start w0
  refine calls_of_vc (args := [.agg #[a, b, c, d], hv]) mixed Try.func23 rfl (by kernel_rfl) (Nat.le_of_ble_eq_true rfl) ?_
  repeat (first | refine go_run ?_ | (refine go_newP ?_; clear hw; intro p w hw) | (refine go_newWr ?_; clear hw; intro w hw) | (refine go_newS ?_; clear hw; intro s w hw))
  obtain ⟨pt, hpt⟩ : ∃ pt, pt = p := ⟨p, rfl⟩
  subst hpt
  refine st_call rfl (Rank_spec (ht.vars.at hw) (ht.init.at hw) hg.init hg.pos (by omega)) ?_
  rintro _ w' ⟨rfl, hk'⟩
  replace hw := hw.call0 hk'
  clear hk'
  refine ⟨_, rfl, ?_⟩
  repeat (first | refine go_run ?_ | (refine go_newP ?_; clear hw; intro p w hw) | (refine go_newWr ?_; clear hw; intro w hw) | (refine go_newS ?_; clear hw; intro s w hw))
  replace hw : Sat w0 w' [OS tInt 3 nilS [], Box pt 26 [a, b, c, d]] := hw.nil
  refine vc_loop4 [5, 6, 7, 8, 17, 18, 19, 20, 21, 22, 23, 24, 25, 26, 27, 28, 29, 30, 31] (G := Nat) (H := Int) (I := List Int) (M := Value) (fun _ next _ bv => [(6, .int .i64 (minI next)), (5, bv)])
    (fun f next bs bv w => (∃ e, runF t (tabH t T) lim f next e bs = R ∧ e ≤ lim ∧ lim - e < f ∧ bs.length ≤ e) ∧ 0 ≤ next ∧ Sat w0 w [OS tInt 3 bv bs, Box pt 26 [a, b, c, d]])
    (fun f _ _ _ => f) (lim + 1) (first0 t (tabH t T)) [] nilS (fun _ _ _ _ => rfl) ⟨by rw [hfm]; rfl, rfl, trivial⟩ ⟨⟨0, hR.symm, Nat.zero_le _, by omega, Nat.le_refl _⟩, (first_ok (lim := lim) hH).nn, hw⟩ ?_
  clear hw
  rintro σ f next bs bv w ⟨⟨e, hrun, hel, hef, hbl⟩, hnn, hw⟩
  obtain ⟨f, rfl⟩ : ∃ f', f = f' + 1 := ⟨f - 1, by omega⟩
  by_cases hb : next < big62
  · have hnx : next < inf := hrng next (by rw [← hrun]; exact runF_next hb)
    have hmn := minI_lt hnx
    rw [hmn]
    have hd1 : decide (next < (1125899906842624 : Int)) = true := decide_eq_true hnx
    repeat (first | refine go_run ?_ | (refine go_newP ?_; clear hw; intro p w hw) | (refine go_newWr ?_; clear hw; intro w hw) | (refine go_newS ?_; clear hw; intro s w hw))
    simp only [hd1, beq_self_eq_true, beq_tfI, beq_ftI, Bool.false_and, Bool.true_and, Bool.false_or, Bool.true_or, Bool.not_true, Bool.not_false, Bool.cond_true, Bool.cond_false, gv_fI, gv_tI]
    repeat (first | refine go_run ?_ | (refine go_newP ?_; clear hw; intro p w hw) | (refine go_newWr ?_; clear hw; intro w hw) | (refine go_newS ?_; clear hw; intro s w hw))
    cases hv : visF ⟨t, tabH t T, lim, next⟩ (lim + 1) t.init 0 (start0 e) with
    | mk r S =>
      have hR := round_ok hH hnn hb hlim hel hv
      have hru : r ≠ .unknown := fun hu => by
        subst hu
        rw [runF_fin hb hv (by decide)] at hrun
        rw [← hrun] at hne
        exact hne rfl
      refine st_call rfl (rround_spec (ht.at hw) (hh.at hw) hg hB hTl hT hlim hel hv hru) ?_
      rintro _ w' ⟨rfl, hk'⟩
      replace hw := hw.call0 hk'
      clear hk'
      refine ⟨_, rfl, ?_⟩
      cases hrr : r with
      | unknown => exact absurd hrr hru
      | solved =>
        rw [hrr] at hv
        rw [runF_fin hb hv (by decide)] at hrun
        rw [← hrun]
        have hds : decide (IR.solved = IR.solved) = true := by decide
        simp only [hds]
        repeat (first | refine go_run ?_ | (refine go_newP ?_; clear hw; intro p w hw) | (refine go_newW ?_; clear hw; intro w hw) | (refine go_newS ?_; clear hw; intro s w hw))
        exact res_one (v := s) rfl rfl ⟨s, rfl, hw.sel⟩
      | goOn =>
        rw [hrr] at hv hR
        rw [runF_more hb hv] at hrun
        have q1 := hR.lt rfl
        have q2 := hR.lm
        have q3 := hR.asc rfl
        have hds : decide (IR.goOn = IR.solved) = false := by decide
        simp only [hds]
        repeat (first | refine go_run ?_ | (refine go_newP ?_; clear hw; intro p w hw) | (refine go_newW ?_; clear hw; intro w hw) | (refine go_newS ?_; clear hw; intro s w hw))
        exact ⟨f, S.next, bs ++ [next], s, ⟨rfl, rfl, trivial⟩, by repeat (first | exact agree_refl | (apply agree_upd rfl) | (apply agree_mix rfl) | (apply agree_sets rfl)), ⟨⟨S.exp, hrun, q2, by omega, by simp only [List.length_append, List.length_cons, List.length_nil]; omega⟩, by omega, hw.sel⟩, by omega⟩
  · have hmb : minI next = inf := by unfold minI; omega
    rw [hmb]
    rw [runF_end hb] at hrun
    rw [← hrun]
    repeat (first | refine go_run ?_ | (refine go_newP ?_; clear hw; intro p w hw) | (refine go_newW ?_; clear hw; intro w hw) | (refine go_newS ?_; clear hw; intro s w hw))
    exact res_one (v := bv) rfl rfl ⟨bv, rfl, hw.sel⟩
end Go.Proofs.Ytoddgmmkpiojlaa
