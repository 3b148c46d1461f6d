
/-
  Contracts of the verifier's 'Best', 'Cost', 'Result'.
-/
import Derived.Test.YtkmbenhffledpaaGreatWRun
import Derived.Test.YtkmbenhffledpaaGreatMW6
import Derived.Test.YtkmbenhffledpaaGreatTIda4
set_option linter.unusedSimpArgs false
set_option linter.unusedVariables false
namespace Go.Proofs.YtkmbenhffledpaaGreat
open Go.Sl Go
attribute [local irreducible] vc opsW opsD opV opW PureV ReadV Thn Blk
set_option maxRecDepth 8000 in
set_option maxHeartbeats 4000000 in
theorem Best_spec {w0 : World} {a b c d : Value} {vs : List OpV} {t : TTask} (ht : RTask w0 a b c d vs t) (hg : GoodT t) (hB : prodL t.vars ≤ 512) :
    Calls Tryz.prog 21 #[.agg #[a, b, c, d]] w0 fun e w' => ∃ m : Int, e = .returned (.int .i64 m) ∧ Least t t.init m ∧ Sat w0 w' [] := by
  have ha := ht.vars
  have hb := ht.init
  have hw := Sat.start w0
  have hrb := rankL_bound hg.init
  have hsl : (statesL t.vars).length = (prodL t.vars).toNat := statesL_len hg.pos
  refine calls_of_vc (args := [.agg #[a, b, c, d]]) mixed Tryz.func21 rfl (by kernel_rfl) (Nat.le_of_ble_eq_true rfl) ?_
  repeat (first | refine go_run ?_ | (refine go_newP ?_; clear hw; intro p w hw) | (refine go_newWr ?_; clear hw; intro w hw) | (refine go_newS ?_; clear hw; intro s w hw))
  refine vc_plan [.op 0, .op 2, .op 3, .op 4, .op 5, .op 1, .chk 3, .chk 5, .op 6, .op 7, .op 8, .op 9] hw (by kernel_rfl) ?_; clear hw; intro w hw
  repeat (first | refine go_run ?_ | (refine go_newP ?_; clear hw; intro p w hw) | (refine go_newWr ?_; clear hw; intro w hw) | (refine go_newS ?_; clear hw; intro s w hw))
  refine st_call rfl (Distances_spec (kv := .slice none 0 0) (ht.at hw) (.own rfl rfl) hg (by omega)) ?_
  rintro _ w' ⟨dv, D, rfl, hD, hk'⟩
  replace hw := hw.call1 hk'
  clear hk'
  refine ⟨_, rfl, ?_⟩
  have hDl := hD.len
  repeat (first | refine go_run ?_ | (refine go_newP ?_; clear hw; intro p w hw) | (refine go_newWr ?_; clear hw; intro w hw) | (refine go_newS ?_; clear hw; intro s w hw))
  refine st_call rfl (Rank_spec (ha.at hw) (hb.at hw) hg.init hg.pos (by omega)) ?_
  rintro _ w' ⟨rfl, hk'⟩
  replace hw := hw.call0 hk'
  clear hk'
  refine ⟨_, rfl, ?_⟩
  have hL := least_of hg (by omega) hD hg.init
  repeat (first | refine go_run ?_ | (refine go_newP ?_; clear hw; intro p w hw) | (refine go_newWr ?_; clear hw; intro w hw) | (refine go_newS ?_; clear hw; intro s w hw))
  exact res_one (v := .int .i64 (D.getD (rankL t.vars t.init).toNat tInt.dflt)) rfl rfl ⟨_, rfl, hL, hw.sel⟩
theorem cost_step {t : TTask} {s p : List Int} {c : Int} (h : Pln t s p c) {k : Nat} (hk : k < p.length) : stL t s (p.take (k + 1)) = succT t (stL t s (p.take k)) (p.getD k tInt.dflt).toNat ∧ coL t (p.take (k + 1)) = coL t (p.take k) + opC t (p.getD k tInt.dflt).toNat := by
  rw [take_snoc tInt.dflt hk, stL_snoc, coL_snoc]
  exact ⟨rfl, rfl⟩
set_option maxRecDepth 8000 in
set_option maxHeartbeats 4000000 in
theorem Cost_spec {w0 : World} {a b c d sv pv : Value} {vs : List OpV} {t : TTask} {s pl : List Int} {k0 : Int} (ht : RTask w0 a b c d vs t) (hg : GoodT t) (hs : RS tInt w0 sv s) (hok : StateOk t.vars s) (hp : RS tInt w0 pv pl) (hP : Pln t s pl k0) (hpl : pl.length ≤ 1048576) :
    Calls Tryz.prog 48 #[.agg #[a, b, c, d], sv, pv] w0 fun e w' => e = .returned (.tuple #[.int .i64 k0, .bool true]) ∧ Sat w0 w' [] := by
  have ht' := ht
  obtain ⟨ha, hb, hc, hd⟩ := ht
  have hdr := hd.rs
  have hdl := hd.len
  have hw := Sat.start w0
  refine calls_of_vc (args := [.agg #[a, b, c, d], sv, pv]) mixed Tryz.func48 rfl (by kernel_rfl) (Nat.le_of_ble_eq_true rfl) ?_
  repeat (first | refine go_run ?_ | (refine go_newP ?_; clear hw; intro p w hw) | (refine go_newW ?_; clear hw; intro w hw) | (refine go_newS ?_; clear hw; intro s w hw))
  obtain ⟨pt, hpt⟩ : ∃ pt, pt = p := ⟨p, rfl⟩
  subst hpt
  have hw0 : Sat w0 w [Box pt 26 [a, b, c, d]] := hw
  refine vc_loop3 [1, 6, 7, 8, 10, 11, 12, 15, 16, 17, 18, 19, 20, 21, 22, 23, 24, 25, 26, 27, 28, 29, 30, 31, 32, 33, 34, 35, 36, 37] (G := Nat) (H := Int) (I := Value) (fun k m zv => [(15, .int .i64 k), (8, .int .i64 m), (1, zv)]) (fun k m zv w => k ≤ pl.length ∧ m = coL t (pl.take k) ∧ (∃ Γe, Kept w0 Γe (fun w => RS tInt w zv (stL t s (pl.take k))) ∧ Sat w0 w (Box pt 26 [a, b, c, d] :: Γe))) (fun k _ _ => pl.length - k) 0 0 sv (fun _ _ _ => rfl) ⟨rfl, rfl, rfl, trivial⟩ ⟨Nat.zero_le _, rfl, [], Kept.of fun w Γ' h => hs.at h, hw0⟩ ?_
  clear hw hw0
  rintro σ k m zv w ⟨hk, hm, Γe, hK, hw⟩
  repeat (first | refine go_run ?_ | (refine go_newP ?_; clear hw; intro p w hw) | (refine go_newW ?_; clear hw; intro w hw) | (refine go_newS ?_; clear hw; intro s w hw))
  refine go_if (fun h1 => ?_) (fun h1 => ?_)
  · have hkl : k < pl.length := by omega
    obtain ⟨p1, p2, p3⟩ := hP.at_ hkl
    have hso := stL_ok hg hP hok (k := k) (by omega)
    have hcr := coL_rng hg hP (k := k) (by omega)
    rw [← hm] at hcr
    have hcr2 := opC_rng hg p2
    obtain ⟨c1, c2⟩ := cost_step hP hkl
    repeat (first | refine go_run ?_ | (refine go_newP ?_; clear hw; intro p w hw) | (refine go_newW ?_; clear hw; intro w hw) | (refine go_newS ?_; clear hw; intro s w hw))
    refine st_call rfl (Apply_spec (ht'.at hw) (hK w [_] hw) hg hso) ?_
    rintro _ w' ⟨r, rv, rfl, hr, hk'⟩
    replace hw := hw.call1 hk'
    clear hk'
    refine ⟨_, rfl, ?_⟩
    have hrt : r = true := hr.2 ⟨p1, by omega, p3⟩
    subst hrt
    have hco : (eget tOp vs (pl.getD k tInt.dflt).toNat).cost = opC t (pl.getD k tInt.dflt).toNat := (ht'.ops.at_ _ p2).cost
    repeat (first | refine go_run ?_ | (refine go_newP ?_; clear hw; intro p w hw) | (refine go_newW ?_; clear hw; intro w hw) | (refine go_newS ?_; clear hw; intro s w hw))
    refine ⟨k + 1, _, rv, ⟨rfl, rfl, rfl, trivial⟩, by repeat (first | exact agree_refl | (apply agree_upd rfl) | (apply agree_mix rfl) | (apply agree_sets rfl)), ⟨by omega, by rw [c2, ← hm, hco], [OS tInt 3 rv (stL t s (pl.take (k + 1)))], fun w Δ h => (Sat.after h).rs 0 rfl, ?_⟩, by omega⟩
    rw [c1]
    have hw2 : Sat w0 w' (OS tInt 3 rv (succT t (stL t s (pl.take k)) (pl.getD k tInt.dflt).toNat) :: Box pt 26 [a, b, c, d] :: Γe) := hw
    exact hw2.sel
  have hke : k = pl.length := by omega
  subst hke
  rw [List.take_of_length_le (Nat.le_refl _)] at hm hK
  obtain ⟨hgoal, hce⟩ := hP.fin
  repeat (first | refine go_run ?_ | (refine go_newP ?_; clear hw; intro p w hw) | (refine go_newW ?_; clear hw; intro w hw) | (refine go_newS ?_; clear hw; intro s w hw))
  refine st_call rfl (Holds_spec (hc.at hw) (hK w [_] hw)) ?_
  rintro _ w' ⟨⟨r, rfl, hr⟩, hk'⟩
  replace hw := hw.call0 hk'
  clear hk'
  refine ⟨_, rfl, ?_⟩
  have hrt : r = true := hr.2 hgoal
  subst hrt
  repeat (first | refine go_run ?_ | (refine go_newP ?_; clear hw; intro p w hw) | (refine go_newW ?_; clear hw; intro w hw) | (refine go_newS ?_; clear hw; intro s w hw))
  exact res_two (v := .int .i64 k0) (v' := .bool true) rfl (by rw [hce, ← hm]; rfl) rfl ⟨rfl, sat_none hw⟩
set_option maxRecDepth 8000 in
set_option maxHeartbeats 4000000 in
theorem Result_spec {w0 : World} {a b c d pv : Value} {vs : List OpV} {t : TTask} {p : List Int} {vd co ex best : Int} (ht : RTask w0 a b c d vs t) (hg : GoodT t) (hp : RS tInt w0 pv p) (hpl : p.length ≤ 1048576)
    (h : (inf ≤ best ∧ vd = 2 ∧ p = [] ∧ co = 0) ∨ (best < inf ∧ vd = 1 ∧ Pln t t.init p best ∧ co = best)) :
    Calls Tryz.prog 20 #[.agg #[a, b, c, d], .agg #[.int .i64 vd, pv, .int .i64 co, .int .i64 ex], .int .i64 best] w0 fun e w' => e = .returned (.bool true) ∧ Sat w0 w' [] := by
  have hw := Sat.start w0
  refine calls_of_vc (args := [.agg #[a, b, c, d], .agg #[.int .i64 vd, pv, .int .i64 co, .int .i64 ex], .int .i64 best]) mixed Tryz.func20 rfl (by kernel_rfl) (Nat.le_of_ble_eq_true rfl) ?_
  rcases h with ⟨h1, rfl, rfl, rfl⟩ | ⟨h1, rfl, hP, hco⟩
  · repeat (first | refine go_run ?_ | (refine go_newP ?_; clear hw; intro p w hw) | (refine go_newW ?_; clear hw; intro w hw) | (refine go_newS ?_; clear hw; intro s w hw))
    refine go_if (fun h2 => ?_) (fun h2 => ?_)
    rotate_left
    · exact absurd h1 (Int.not_le.2 h2)
    repeat (first | refine go_run ?_ | (refine go_newP ?_; clear hw; intro p w hw) | (refine go_newW ?_; clear hw; intro w hw) | (refine go_newS ?_; clear hw; intro s w hw))
    exact res_one (v := .bool true) rfl rfl ⟨rfl, sat_none hw⟩
  · repeat (first | refine go_run ?_ | (refine go_newP ?_; clear hw; intro p w hw) | (refine go_newW ?_; clear hw; intro w hw) | (refine go_newS ?_; clear hw; intro s w hw))
    refine go_if (fun h2 => ?_) (fun h2 => ?_)
    · exact absurd h1 (Int.not_lt.2 h2)
    repeat (first | refine go_run ?_ | (refine go_newP ?_; clear hw; intro p w hw) | (refine go_newW ?_; clear hw; intro w hw) | (refine go_newS ?_; clear hw; intro s w hw))
    refine st_call rfl (Cost_spec (ht.at hw) hg (ht.init.at hw) hg.init (hp.at hw) hP hpl) ?_
    rintro _ w' ⟨rfl, hk'⟩
    replace hw := hw.call0 hk'
    clear hk'
    refine ⟨_, rfl, ?_⟩
    have hd : decide (best = best) = true := decide_eq_true rfl
    rw [hco] at hw ⊢
    repeat (first | refine go_run ?_ | (refine go_newP ?_; clear hw; intro p w hw) | (refine go_newWr ?_; clear hw; intro w hw) | (refine go_newS ?_; clear hw; intro s w hw))
    simp only [hd, beq_self_eq_true, beq_tfI, beq_ftI, Bool.false_and, Bool.true_and, Bool.not_true, Bool.not_false, Bool.cond_true, Bool.cond_false, gv_fI, gv_tI]
    exact res_one (v := .bool true) rfl rfl ⟨rfl, sat_none hw⟩
end Go.Proofs.YtkmbenhffledpaaGreat
