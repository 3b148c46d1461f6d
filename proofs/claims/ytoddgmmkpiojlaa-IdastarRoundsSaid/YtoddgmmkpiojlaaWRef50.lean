
/-
  Contracts of the reference of layer 50: 'visit', 'Round', 'Rounds'.
-/
import Derived.Test.YtoddgmmkpiojlaaWLawIA
import Derived.Test.YtoddgmmkpiojlaaMTA
set_option linter.unusedSimpArgs false
set_option linter.unusedVariables false
namespace Go.Proofs.Ytoddgmmkpiojlaa
open Go.Sl Go
attribute [local irreducible] vc opsW opsD opV opW PureV ReadV Thn Blk
structure RPre (t : TTask) (lim : Nat) (s : List Int) (g : Int) (S : ISt) : Prop where
  ok : StateOk t.vars s
  g0 : 0 ≤ g
  g1 : g ≤ (S.exp : Int) * 1048576
  e1 : S.exp ≤ lim
/-- The reference's visit, where the program's does not end for want of states. -/
def RVisOk (t : TTask) (T : List Int) (lim : Nat) (bound : Int) (f : Nat) : Prop :=
  ∀ (w0 w : World) (Γ : List HP) (a b c d hv nv sv : Value) (vs : List OpV) (N : List Int) (s : List Int) (g : Int) (S : ISt) (R : IR) (S' : ISt),
    RTask w0 a b c d vs t → RS tInt w0 hv T → Kept w0 Γ (fun w => RS tInt w sv s) → RPre t lim s g S → N.length = (statesL t.vars).length → SeenR t.vars N S.vis →
    visF ⟨t, tabH t T, lim, bound⟩ f s g S = (R, S') → R ≠ .unknown →
    Sat w0 w (OS tInt 3 nv N :: Γ) →
    Calls Try.prog 62 #[.agg #[a, b, c, d], hv, nv, .int .i64 bound, .int .i64 g, sv, .int .i64 (minI S.next)] w fun e w' => e = .returned (.tuple #[.bool (decide (R = .solved)), .int .i64 (minI S'.next)]) ∧ ∃ N', N'.length = (statesL t.vars).length ∧ SeenR t.vars N' S'.vis ∧ Sat w0 w' (OS tInt 3 nv N' :: Γ)
set_option maxRecDepth 8000 in
set_option maxHeartbeats 16000000 in
theorem rvisit_step {t : TTask} {T : List Int} {lim : Nat} {bound : Int} {f : Nat} (hg : GoodT t) (hB : prodL t.vars ≤ 512) (hTl : T.length = (statesL t.vars).length) (hT : ∀ x ∈ T, 0 ≤ x ∧ x ≤ inf) (hlim : lim ≤ 1048576) (ih : RVisOk t T lim bound f) : RVisOk t T lim bound (f + 1) := by
  intro w0 w Γ a b c d hv nv sv vs N z g S R S' ht hh hS hP hNl hN hvis hne hw
  obtain ⟨hok, hg0, hg1, he1⟩ := hP
  have hsl : (statesL t.vars).length = (prodL t.vars).toNat := statesL_len hg.pos
  have hrb := rankL_bound hok
  have hpp := prodL_pos hg.pos
  have hvl := hg.vars
  have hol := hg.ops
  have htl := ht.ops.len
  have htr := ht.ops.rs
  refine calls_of_vc (args := [.agg #[a, b, c, d], hv, nv, .int .i64 bound, .int .i64 g, sv, .int .i64 (minI S.next)]) mixed Try.func62 rfl (by kernel_rfl) (Nat.le_of_ble_eq_true rfl) ?_
  repeat (first | refine go_run ?_ | (refine go_newP ?_; clear hw; intro p w hw) | (refine go_newWr ?_; clear hw; intro w hw) | (refine go_newS ?_; clear hw; intro s w hw))
  obtain ⟨p7, hp7⟩ : ∃ p7, p7 = p := ⟨p, rfl⟩
  subst hp7
  replace hw : Sat w0 w (Box p7 26 [a, b, c, d] :: OS tInt 3 nv N :: Γ) := hw
  refine st_call rfl (Rank_spec (ht.vars.at hw) (hS w [_, _] hw) hok hg.pos (by omega)) ?_
  rintro _ w' ⟨rfl, hk'⟩
  replace hw := hw.call0 hk'
  clear hk'
  refine ⟨_, rfl, ?_⟩
  repeat (first | refine go_run ?_ | (refine go_newP ?_; clear hw; intro p w hw) | (refine go_newWr ?_; clear hw; intro w hw) | (refine go_newS ?_; clear hw; intro s w hw))
  have hN1 : SeenR t.vars (N.set (rankL t.vars z).toNat g) (S.put z g).vis := hN.put hg hNl hok g
  have hN1l : (N.set (rankL t.vars z).toNat g).length = (statesL t.vars).length := by rw [List.length_set]; exact hNl
  refine st_call rfl (Holds_spec (ht.goal.at hw) (hS _ [_, _] hw)) ?_
  rintro _ w' ⟨⟨r, rfl, hr⟩, hk'⟩
  replace hw := hw.call0 hk'
  clear hk'
  refine ⟨_, rfl, ?_⟩
  cases r
  rotate_left
  · have hh2 : HoldFs z t.goal := hr.1 rfl
    rw [visF, if_pos hh2] at hvis
    obtain ⟨rfl, rfl⟩ := Prod.mk.inj hvis
    repeat (first | refine go_run ?_ | (refine go_newP ?_; clear hw; intro p w hw) | (refine go_newWr ?_; clear hw; intro w hw) | (refine go_newS ?_; clear hw; intro s w hw))
    exact res_two (v := .bool true) (v' := .int .i64 (minI S.next)) rfl rfl rfl ⟨rfl, _, hN1l, hN1, hw.tail⟩
  have hno : ¬ HoldFs z t.goal := fun h => by cases hr.2 h
  rw [visF, if_neg hno] at hvis
  by_cases hl : lim ≤ S.exp
  · rw [if_pos hl] at hvis
    exact absurd (Prod.mk.inj hvis).1.symm hne
  rw [if_neg hl] at hvis
  rw [← succsK_zero t z] at hvis
  obtain ⟨I, hI⟩ : ∃ I : IPar, I = ⟨t, tabH t T, lim, bound⟩ := ⟨_, rfl⟩
  rw [← hI] at hvis
  have hIt : I.t = t := by rw [hI]
  have hIH : I.H = tabH t T := by rw [hI]
  have hIl : I.lim = lim := by rw [hI]
  have hIb : I.bound = bound := by rw [hI]
  have e3 : inf = 1125899906842624 := rfl
  repeat (first | refine go_run ?_ | (refine go_newP ?_; clear hw; intro p w hw) | (refine go_newWr ?_; clear hw; intro w hw) | (refine go_newS ?_; clear hw; intro s w hw))
  refine vc_loop3 [6, 14, 15, 16, 17, 18, 19, 20, 21, 22, 38, 39, 40, 41, 42, 43, 44, 45, 46, 47, 48, 49, 50, 51, 52, 53, 54, 55, 56, 57, 58, 59, 60, 61, 62, 63, 64, 65, 66, 67, 68, 69, 70, 71, 72, 73, 74, 75, 76, 77, 78, 79, 80, 81, 82, 83, 84, 85, 86, 87, 88, 89, 90, 91, 92, 93, 94, 95, 96, 97, 98, 99, 100, 101, 102, 103, 104, 105] (G := Nat) (H := ISt) (I := List Int) (fun k Sk _ => [(38, .int .i64 k), (6, .int .i64 (minI Sk.next))])
    (fun k Sk Nk w => k ≤ t.ops.length ∧ loopV I (visF I f) z g (succsK t z k) Sk = (R, S') ∧ S.exp + 1 ≤ Sk.exp ∧ Sk.exp ≤ lim ∧ Nk.length = (statesL t.vars).length ∧ SeenR t.vars Nk Sk.vis ∧ Sat w0 w (Box p7 26 [a, b, c, d] :: OS tInt 3 nv Nk :: Γ))
    (fun k _ _ => t.ops.length - k) 0 (S.put z g).tick (N.set (rankL t.vars z).toNat g) (fun _ _ _ => rfl) ⟨rfl, rfl, trivial⟩ ⟨Nat.zero_le _, hvis, Nat.le_refl _, by show S.exp + 1 ≤ lim; omega, hN1l, hN1, hw⟩ ?_
  clear hw
  rintro σ k Sk Nk w ⟨hk, hlp, hke, hkl2, hNkl, hNk, hw⟩
  repeat (first | refine go_run ?_ | (refine go_newP ?_; clear hw; intro p w hw) | (refine go_newW ?_; clear hw; intro w hw) | (refine go_newS ?_; clear hw; intro s w hw))
  refine go_if (fun h2 => ?_) (fun h2 => ?_)
  · have hkl : k < t.ops.length := by omega
    have hcr := opC_rng hg hkl
    have hco : (eget tOp vs k).cost = opC t k := (ht.ops.at_ k hkl).cost
    have hap := ht.ops.at_ k hkl
    repeat (first | refine go_run ?_ | (refine go_newP ?_; clear hw; intro p w hw) | (refine go_newWr ?_; clear hw; intro w hw) | (refine go_newS ?_; clear hw; intro s w hw))
    refine st_call rfl (Apply_spec (op := (k : Int)) (ht.at hw) (hS w [_, _] hw) hg hok) ?_
    rintro _ w' ⟨r, rv, rfl, hr3, hk'⟩
    replace hw := hw.call1 hk'
    clear hk'
    refine ⟨_, rfl, ?_⟩
    rw [Int.toNat_natCast] at hr3 hw
    cases r
    · have hna : ¬ AppT t z k := fun h => by cases hr3.2 ⟨by omega, by omega, h⟩
      rw [succsK_no hkl hna] at hlp
      repeat (first | refine go_run ?_ | (refine go_newP ?_; clear hw; intro p w hw) | (refine go_newW ?_; clear hw; intro w hw) | (refine go_newS ?_; clear hw; intro s w hw))
      exact ⟨k + 1, Sk, Nk, ⟨rfl, rfl, trivial⟩, by repeat (first | exact agree_refl | (apply agree_upd rfl) | (apply agree_mix rfl) | (apply agree_sets rfl)), ⟨by omega, hlp, hke, hkl2, hNkl, hNk, hw.tail⟩, by omega⟩
    have hya : AppT t z k := (hr3.1 rfl).2.2
    rw [succsK_app hkl hya] at hlp
    obtain ⟨x, hx⟩ : ∃ x : List Int, x = succT t z k := ⟨_, rfl⟩
    replace hw : Sat w0 w' (OS tInt 3 rv x :: Box p7 26 [a, b, c, d] :: OS tInt 3 nv Nk :: Γ) := by rw [hx]; exact hw
    have hxo : StateOk t.vars x := by rw [hx]; exact succT_ok hg hok hkl
    have hrx := rankL_bound hxo
    have hn : (g + (eget tOp vs k).cost) = g + opC t k := by rw [hco]
    have hn0 : 0 ≤ (g + (eget tOp vs k).cost) := by omega
    have hn1 : (g + (eget tOp vs k).cost) ≤ (Sk.exp : Int) * 1048576 := by omega
    have eI1 : succT I.t z k = x := by rw [hIt, hx]
    have eI2 : g + opC I.t k = (g + (eget tOp vs k).cost) := by rw [hIt, hn]
    have hHx : tabH t T x = T.getD (rankL t.vars x).toNat tInt.dflt := tabH_ok hxo
    have hHm := hT _ (mem_getD tInt.dflt (show (rankL t.vars x).toNat < T.length by omega))
    have hold := SeenR.old hNk hxo (n := (g + (eget tOp vs k).cost)) (by omega)
    repeat (first | refine go_run ?_ | (refine go_newP ?_; clear hw; intro p w hw) | (refine go_newWr ?_; clear hw; intro w hw) | (refine go_newS ?_; clear hw; intro s w hw))
    refine vc_plan [.op 0, .op 1, .op 2, .op 3, .op 4, .op 5, .op 6, .op 7, .op 8, .op 9, .op 10, .op 11, .chk 2, .chk 6, .op 12, .op 13] hw (by kernel_rfl) ?_; clear hw; intro w hw
    repeat (first | refine go_run ?_ | (refine go_newP ?_; clear hw; intro p w hw) | (refine go_newWr ?_; clear hw; intro w hw) | (refine go_newS ?_; clear hw; intro s w hw))
    refine st_call rfl (Rank_spec (ht.vars.at hw) (rsO (s := rv) hw) hxo hg.pos (by omega)) ?_
    rintro _ w' ⟨rfl, hk'⟩
    replace hw := hw.call0 hk'
    clear hk'
    refine ⟨_, rfl, ?_⟩
    by_cases h3 : Nk.getD (rankL t.vars x).toNat tInt.dflt ≤ (g + (eget tOp vs k).cost)
    · have hd3 : decide (Nk.getD (rankL t.vars x).toNat tInt.dflt ≤ (g + (eget tOp vs k).cost)) = true := decide_eq_true h3
      rw [loopV_old (by rw [eI1, eI2]; exact hold.1 h3)] at hlp
      repeat (first | refine go_run ?_ | (refine go_newP ?_; clear hw; intro p w hw) | (refine go_newWr ?_; clear hw; intro w hw) | (refine go_newS ?_; clear hw; intro s w hw))
      simp only [hd3, beq_self_eq_true, beq_tfI, beq_ftI, Bool.false_and, Bool.true_and, Bool.false_or, Bool.true_or, Bool.not_true, Bool.not_false, Bool.cond_true, Bool.cond_false, gv_fI, gv_tI]
      repeat (first | refine go_run ?_ | (refine go_newP ?_; clear hw; intro p w hw) | (refine go_newWr ?_; clear hw; intro w hw) | (refine go_newS ?_; clear hw; intro s w hw))
      exact ⟨k + 1, Sk, Nk, ⟨rfl, rfl, trivial⟩, by repeat (first | exact agree_refl | (apply agree_upd rfl) | (apply agree_mix rfl) | (apply agree_sets rfl)), ⟨by omega, hlp, hke, hkl2, hNkl, hNk, hw.tail⟩, by omega⟩
    have hd3 : decide (Nk.getD (rankL t.vars x).toNat tInt.dflt ≤ (g + (eget tOp vs k).cost)) = false := decide_eq_false h3
    have hold2 : ¬ oldLe Sk.vis (succT I.t z k) (g + opC I.t k) = true := by rw [eI1, eI2]; exact fun h => h3 (hold.2 h)
    by_cases h4 : inf ≤ T.getD (rankL t.vars x).toNat tInt.dflt
    · have hd4 : decide ((1125899906842624 : Int) ≤ T.getD (rankL t.vars x).toNat tInt.dflt) = true := decide_eq_true h4
      rw [loopV_inf hold2 (by rw [eI1, hIH, hHx]; exact h4)] at hlp
      repeat (first | refine go_run ?_ | (refine go_newP ?_; clear hw; intro p w hw) | (refine go_newWr ?_; clear hw; intro w hw) | (refine go_newS ?_; clear hw; intro s w hw))
      simp only [hd3, hd4, beq_self_eq_true, beq_tfI, beq_ftI, Bool.false_and, Bool.true_and, Bool.false_or, Bool.true_or, Bool.not_true, Bool.not_false, Bool.cond_true, Bool.cond_false, gv_fI, gv_tI]
      repeat (first | refine go_run ?_ | (refine go_newP ?_; clear hw; intro p w hw) | (refine go_newWr ?_; clear hw; intro w hw) | (refine go_newS ?_; clear hw; intro s w hw))
      exact ⟨k + 1, Sk, Nk, ⟨rfl, rfl, trivial⟩, by repeat (first | exact agree_refl | (apply agree_upd rfl) | (apply agree_mix rfl) | (apply agree_sets rfl)), ⟨by omega, hlp, hke, hkl2, hNkl, hNk, hw.tail⟩, by omega⟩
    have hd4 : decide ((1125899906842624 : Int) ≤ T.getD (rankL t.vars x).toNat tInt.dflt) = false := decide_eq_false h4
    have hfin : ¬ inf ≤ I.H (succT I.t z k) := by rw [eI1, hIH, hHx]; exact h4
    repeat (first | refine go_run ?_ | (refine go_newP ?_; clear hw; intro p w hw) | (refine go_newWr ?_; clear hw; intro w hw) | (refine go_newS ?_; clear hw; intro s w hw))
    simp only [hd3, hd4, beq_self_eq_true, beq_tfI, beq_ftI, Bool.false_and, Bool.true_and, Bool.false_or, Bool.true_or, Bool.not_true, Bool.not_false, Bool.cond_true, Bool.cond_false, gv_fI, gv_tI]
    repeat (first | refine go_run ?_ | (refine go_newP ?_; clear hw; intro p w hw) | (refine go_newWr ?_; clear hw; intro w hw) | (refine go_newS ?_; clear hw; intro s w hw))
    refine go_if (fun h5 => ?_) (fun h5 => ?_)
    · rw [loopV_cut hold2 hfin (by rw [eI1, eI2, hIH, hIb, hHx]; exact h5), eI1, eI2, hIH, hHx] at hlp
      repeat (first | refine go_run ?_ | (refine go_newP ?_; clear hw; intro p w hw) | (refine go_newWr ?_; clear hw; intro w hw) | (refine go_newS ?_; clear hw; intro s w hw))
      have e : (if (g + (eget tOp vs k).cost) + T.getD (rankL t.vars x).toNat tInt.dflt < minI Sk.next then (g + (eget tOp vs k).cost) + T.getD (rankL t.vars x).toNat tInt.dflt else minI Sk.next) = minI (Sk.cut ((g + (eget tOp vs k).cost) + T.getD (rankL t.vars x).toNat tInt.dflt)).next := by
        rw [← minI_cut]
        split <;> omega
      exact ⟨k + 1, Sk.cut ((g + (eget tOp vs k).cost) + T.getD (rankL t.vars x).toNat tInt.dflt), Nk, ⟨rfl, by rw [← e]; rfl, trivial⟩, by repeat (first | exact agree_refl | (apply agree_upd rfl) | (apply agree_mix rfl) | (apply agree_sets rfl)), ⟨by omega, hlp, hke, hkl2, hNkl, hNk, hw.tail⟩, by omega⟩
    have hin : ¬ I.bound < g + opC I.t k + I.H (succT I.t z k) := by rw [eI1, eI2, hIH, hIb, hHx]; exact Int.not_lt.2 h5
    repeat (first | refine go_run ?_ | (refine go_newP ?_; clear hw; intro p w hw) | (refine go_newWr ?_; clear hw; intro w hw) | (refine go_newS ?_; clear hw; intro s w hw))
    have hw1 : Sat w0 w' (OS tInt 3 nv Nk :: OS tInt 3 rv x :: Box p7 26 [a, b, c, d] :: Γ) := hw.focus 2 rfl
    have hmono := vis_mono I f x (g + (eget tOp vs k).cost) (Sk.push k) (by rw [hIl]; exact hkl2)
    cases hr2 : visF I f x (g + (eget tOp vs k).cost) (Sk.push k) with
    | mk R2 S2 =>
      rw [hr2] at hmono
      obtain ⟨u1, u2, u3, u4, u5⟩ := hmono
      have u1' : Sk.exp ≤ S2.exp := u1
      have u2' : S2.exp ≤ lim := by rw [← hIl]; exact u2
      have hR2 : R2 ≠ .unknown := fun hu => by
        subst hu
        rw [loopV_stop (r := .unknown) (S' := S2) hold2 hfin hin (by rw [eI1, eI2]; exact hr2) (by decide)] at hlp
        exact hne (Prod.mk.inj hlp).1.symm
      refine st_call rfl (ih w0 w' (OS tInt 3 rv x :: Box p7 26 [a, b, c, d] :: Γ) a b c d hv nv rv vs Nk x (g + (eget tOp vs k).cost) (Sk.push k) R2 S2 ht hh (fun w Δ h => (Sat.after h).rs 0 rfl) ⟨hxo, hn0, hn1, hkl2⟩ hNkl hNk (by rw [← hI]; exact hr2) hR2 hw1) ?_
      clear hw hw1
      rintro _ w ⟨rfl, N2, hN2l, hN2, hw⟩
      refine ⟨_, rfl, ?_⟩
      cases R2 with
      | unknown => exact absurd rfl hR2
      | solved =>
        rw [loopV_stop (r := .solved) (S' := S2) hold2 hfin hin (by rw [eI1, eI2]; exact hr2) (by decide)] at hlp
        obtain ⟨rfl, rfl⟩ := Prod.mk.inj hlp
        repeat (first | refine go_run ?_ | (refine go_newP ?_; clear hw; intro p w hw) | (refine go_newWr ?_; clear hw; intro w hw) | (refine go_newS ?_; clear hw; intro s w hw))
        exact res_two (v := .bool true) (v' := .int .i64 (minI S2.next)) rfl rfl rfl ⟨rfl, N2, hN2l, hN2, hw.tailMono fun _ y => y.tail.tail⟩
      | goOn =>
        rw [loopV_go (S' := S2) hold2 hfin hin (by rw [eI1, eI2]; exact hr2)] at hlp
        repeat (first | refine go_run ?_ | (refine go_newP ?_; clear hw; intro p w hw) | (refine go_newWr ?_; clear hw; intro w hw) | (refine go_newS ?_; clear hw; intro s w hw))
        have hw3 : Sat w0 w (Box p7 26 [a, b, c, d] :: OS tInt 3 nv N2 :: OS tInt 3 rv x :: Γ) := hw.focus 2 rfl
        exact ⟨k + 1, S2.pop, N2, ⟨rfl, rfl, trivial⟩, by repeat (first | exact agree_refl | (apply agree_upd rfl) | (apply agree_mix rfl) | (apply agree_sets rfl)), ⟨by omega, hlp, by show S.exp + 1 ≤ S2.exp; omega, u2', hN2l, hN2, hw3.tailMono fun _ y => SatL.cons_mono (fun _ q => q) (fun _ q => q.tail) y⟩, by omega⟩
  have hkE : k = t.ops.length := by omega
  subst hkE
  rw [succsK_end (Nat.le_refl _), loopV_nil] at hlp
  obtain ⟨rfl, rfl⟩ := Prod.mk.inj hlp
  repeat (first | refine go_run ?_ | (refine go_newP ?_; clear hw; intro p w hw) | (refine go_newW ?_; clear hw; intro w hw) | (refine go_newS ?_; clear hw; intro s w hw))
  exact res_two (v := .bool false) (v' := .int .i64 (minI Sk.next)) rfl rfl rfl ⟨rfl, Nk, hNkl, hNk, hw.tail⟩
theorem rvisit_spec {t : TTask} {T : List Int} {lim : Nat} {bound : Int} (hg : GoodT t) (hB : prodL t.vars ≤ 512) (hTl : T.length = (statesL t.vars).length) (hT : ∀ x ∈ T, 0 ≤ x ∧ x ≤ inf) (hlim : lim ≤ 1048576) : ∀ f, RVisOk t T lim bound f
  | 0 => fun _ _ _ _ _ _ _ _ _ _ _ _ _ _ _ R _ _ _ _ _ _ _ h hne _ => absurd (Prod.mk.inj h).1.symm hne
  | f + 1 => rvisit_step hg hB hTl hT hlim (rvisit_spec hg hB hTl hT hlim f)
end Go.Proofs.Ytoddgmmkpiojlaa
