
/-
  The reference of layer 39: contracts of 'on', 'Arc' and 'Connected'; 'Clip'.
-/
import Derived.Test.YtemnlcnjpjdoaaaGreatDoorTConnR
import Derived.Test.YtemnlcnjpjdoaaaGreatDoorWSyst
set_option linter.unusedSimpArgs false
set_option linter.unusedVariables false
namespace Go.Proofs.YtemnlcnjpjdoaaaGreatDoor
open Go.Sl Go
attribute [local irreducible] vc opsW opsD opV opW PureV ReadV Thn Blk
set_option maxRecDepth 8000 in
theorem Clip_spec {w0 : World} (n lo hi : Int) :
    Calls Tryz.prog 39 #[.int .i64 n, .int .i64 lo, .int .i64 hi] w0 fun e w' => e = .returned (.int .i64 (max lo (min n hi))) ∧ Sat w0 w' [] := by
  have hw := Sat.start w0
  refine calls_of_vc (args := [.int .i64 n, .int .i64 lo, .int .i64 hi]) mixed Tryz.func39 rfl (by kernel_rfl) (Nat.le_of_ble_eq_true rfl) ?_
  repeat (first | refine go_run ?_ | (refine go_newP ?_; clear hw; intro p w hw) | (refine go_newW ?_; clear hw; intro w hw) | (refine go_newS ?_; clear hw; intro s w hw))
  refine res_one (v := .int .i64 (if (if hi < n then hi else n) > lo then if hi < n then hi else n else lo)) rfl rfl ⟨?_, hw⟩
  have e : (if (if hi < n then hi else n) > lo then if hi < n then hi else n else lo) = max lo (min n hi) := by split <;> split <;> omega
  rw [e]
set_option maxRecDepth 8000 in
set_option maxHeartbeats 2000000 in
theorem on_spec {w0 : World} {lv : Value} {l : List Fact} {v : Int} (hl : RS tFact w0 lv l) :
    Calls Tryz.prog 86 #[lv, .int .i64 v] w0 fun e w' => (∃ r, e = .returned (.bool r) ∧ (r = true ↔ hasV l v)) ∧ Sat w0 w' [] := by
  have hlb := hl.big
  have hw := Sat.start w0
  refine calls_of_vc (args := [lv, .int .i64 v]) mixed Tryz.func86 rfl (by kernel_rfl) (Nat.le_of_ble_eq_true rfl) ?_
  repeat (first | refine go_run ?_ | (refine go_newP ?_; clear hw; intro p w hw) | (refine go_newW ?_; clear hw; intro w hw) | (refine go_newS ?_; clear hw; intro s w hw))
  refine vc_loop [4, 6, 9, 10, 11, 12, 13, 14, 15, 16, 17] (G := Nat) (fun i => [(9, .int .i64 i)]) (fun i w => i ≤ l.length ∧ (∀ m, m < i → (l.getD m tFact.dflt).var ≠ v) ∧ Sat w0 w []) (fun i => l.length - i) 0 (fun _ => rfl) ⟨rfl, trivial⟩ ⟨Nat.zero_le _, fun i hi => absurd hi (Nat.not_lt_zero _), hw⟩ ?_
  clear hw
  rintro σ i w ⟨hi, hno, hw⟩
  repeat (first | refine go_run ?_ | (refine go_newP ?_; clear hw; intro p w hw) | (refine go_newW ?_; clear hw; intro w hw) | (refine go_newS ?_; clear hw; intro s w hw))
  refine go_if (fun h1 => ?_) (fun h1 => ?_)
  · have hil : i < l.length := by omega
    repeat (first | refine go_run ?_ | (refine go_newP ?_; clear hw; intro p w hw) | (refine go_newW ?_; clear hw; intro w hw) | (refine go_newS ?_; clear hw; intro s w hw))
    refine go_if (fun h2 => ?_) (fun h2 => ?_)
    · repeat (first | refine go_run ?_ | (refine go_newP ?_; clear hw; intro p w hw) | (refine go_newW ?_; clear hw; intro w hw) | (refine go_newS ?_; clear hw; intro s w hw))
      exact res_one (v := .bool true) rfl rfl ⟨⟨true, rfl, iffT (hasV_ex.2 ⟨i, hil, h2⟩)⟩, hw.sel⟩
    · repeat (first | refine go_run ?_ | (refine go_newP ?_; clear hw; intro p w hw) | (refine go_newW ?_; clear hw; intro w hw) | (refine go_newS ?_; clear hw; intro s w hw))
      refine ⟨i + 1, ⟨rfl, trivial⟩, by repeat (first | exact agree_refl | (apply agree_upd rfl) | (apply agree_mix rfl) | (apply agree_sets rfl)), ⟨by omega, fun m hm => ?_, hw.sel⟩, by omega⟩
      by_cases e : m = i
      · subst e; exact h2
      · exact hno m (by omega)
  · repeat (first | refine go_run ?_ | (refine go_newP ?_; clear hw; intro p w hw) | (refine go_newW ?_; clear hw; intro w hw) | (refine go_newS ?_; clear hw; intro s w hw))
    exact res_one (v := .bool false) rfl rfl ⟨⟨false, rfl, iffF fun h => by
      obtain ⟨m, hm, e⟩ := hasV_ex.1 h
      exact hno m (by omega) e⟩, hw.sel⟩
theorem beq_tf : (true == false) = false := rfl
theorem beq_ft : (false == true) = false := rfl
theorem gv_f (v : Value) : gv false v = undef := by unfold gv; rfl
theorem gv_t (v : Value) : gv true v = v := gv_true rfl
/-- What the effects say. -/
def setsK (o : TOp) (k : Nat) (v : Int) : Prop := ∃ i, i < k ∧ (o.effs.getD i dEff).var = v
def mattK (o : TOp) (k : Nat) (u v : Int) : Prop := ∃ i, i < k ∧ ((o.effs.getD i dEff).var = u ∨ (o.effs.getD i dEff).var = v ∧ hasV (o.effs.getD i dEff).when u)
theorem setsK_all {o : TOp} {v : Int} : setsK o o.effs.length v ↔ ∃ e ∈ o.effs, e.var = v := effV_ex.symm
theorem mattK_all {o : TOp} {u v : Int} : mattK o o.effs.length u v ↔ ∃ e ∈ o.effs, e.var = u ∨ e.var = v ∧ hasV e.when u := by
  constructor
  · rintro ⟨i, hi, h⟩; exact ⟨_, mem_getD dEff hi, h⟩
  · rintro ⟨e, he, h⟩
    obtain ⟨i, hi, rfl⟩ := List.getElem_of_mem he
    exact ⟨i, hi, by rw [getD_at hi]; exact h⟩
set_option maxRecDepth 8000 in
set_option maxHeartbeats 4000000 in
theorem rArc_spec {w0 : World} {a b c d : Value} {vs : List OpV} {t : TTask} {u v : Int} (ht : RTask w0 a b c d vs t) :
    Calls Tryz.prog 67 #[.agg #[a, b, c, d], .int .i64 u, .int .i64 v] w0 fun e w' => (∃ r, e = .returned (.bool r) ∧ (r = true ↔ arcT t u v)) ∧ Sat w0 w' [] := by
  obtain ⟨ha, hb, hc, hd⟩ := ht
  have hrs := hd.rs
  have hdl := hd.len
  have hdb := hrs.big
  have hw := Sat.start w0
  refine calls_of_vc (args := [.agg #[a, b, c, d], .int .i64 u, .int .i64 v]) mixed Tryz.func67 rfl (by kernel_rfl) (Nat.le_of_ble_eq_true rfl) ?_
  repeat (first | refine go_run ?_ | (refine go_newP ?_; clear hw; intro p w hw) | (refine go_newW ?_; clear hw; intro w hw) | (refine go_newS ?_; clear hw; intro s w hw))
  obtain ⟨pt, hpt⟩ : ∃ pt, pt = p := ⟨p, rfl⟩
  subst hpt
  refine go_if (fun h0 => ?_) (fun h0 => ?_)
  · repeat (first | refine go_run ?_ | (refine go_newP ?_; clear hw; intro p w hw) | (refine go_newW ?_; clear hw; intro w hw) | (refine go_newS ?_; clear hw; intro s w hw))
    exact res_one (v := .bool false) rfl rfl ⟨⟨false, rfl, iffF fun h => h.1 h0⟩, hw.sel⟩
  repeat (first | refine go_run ?_ | (refine go_newP ?_; clear hw; intro p w hw) | (refine go_newW ?_; clear hw; intro w hw) | (refine go_newS ?_; clear hw; intro s w hw))
  refine vc_loop [6, 8, 9, 10, 12, 19, 20, 21, 22, 23, 24, 25, 26, 27, 28, 29, 30, 31, 32, 33, 34, 35, 36, 37, 38, 39, 40, 41, 42, 43, 44, 45, 46, 47, 48, 49, 50, 51, 52, 53, 54, 55, 56, 57, 58, 59, 60, 61, 62, 63, 64, 65] (G := Nat) (fun k => [(19, .int .i64 k)]) (fun k w => k ≤ t.ops.length ∧ (∀ op, op < k → ¬ arcO (t.ops.getD op dOp) u v) ∧ Sat w0 w [Box pt 26 [a, b, c, d]]) (fun k => t.ops.length - k) 0 (fun _ => rfl) ⟨rfl, trivial⟩ ⟨Nat.zero_le _, fun i hi => absurd hi (Nat.not_lt_zero _), hw⟩ ?_
  clear hw
  rintro σ k w ⟨hk, hall, hw⟩
  repeat (first | refine go_run ?_ | (refine go_newP ?_; clear hw; intro p w hw) | (refine go_newW ?_; clear hw; intro w hw) | (refine go_newS ?_; clear hw; intro s w hw))
  refine go_if (fun h1 => ?_) (fun h1 => ?_)
  · have hkl : k < t.ops.length := by omega
    have hop := hd.at_ k hkl
    have hone := hop.one
    have hpre := hop.pre
    obtain ⟨es, hes⟩ := hop.effs
    have her := hes.rs
    have hel := hes.len
    have heb := her.big
    repeat (first | refine go_run ?_ | (refine go_newP ?_; clear hw; intro p w hw) | (refine go_newW ?_; clear hw; intro w hw) | (refine go_newS ?_; clear hw; intro s w hw))
    obtain ⟨po, hpo⟩ : ∃ po, po = p := ⟨p, rfl⟩
    subst hpo
    refine st_call rfl (on_spec (hpre.at hw)) ?_
    rintro _ w' ⟨⟨m0, rfl, hm0⟩, hk'⟩
    replace hw := hw.call0 hk'
    clear hk'
    refine ⟨_, rfl, ?_⟩
    repeat (first | refine go_run ?_ | (refine go_newP ?_; clear hw; intro p w hw) | (refine go_newW ?_; clear hw; intro w hw) | (refine go_newS ?_; clear hw; intro s w hw))
    refine vc_loop3 [9, 10, 12, 30, 31, 32, 33, 34, 35, 36, 37, 38, 39, 40, 41, 42, 43, 44, 45, 46, 47, 48, 49, 50, 51, 52, 53, 54, 55, 56, 57, 58, 59, 60] (G := Nat) (H := Bool) (I := Bool) (fun j r m => [(30, .int .i64 j), (9, .bool r), (10, .bool m)]) (fun j r m w => j ≤ (t.ops.getD k dOp).effs.length ∧ (r = true ↔ setsK (t.ops.getD k dOp) j v) ∧ (m = true ↔ hasV (t.ops.getD k dOp).pre u ∨ mattK (t.ops.getD k dOp) j u v) ∧ Sat w0 w [Box po 58 (tOp.enc (eget tOp vs k)), Box pt 26 [a, b, c, d]]) (fun j _ _ => (t.ops.getD k dOp).effs.length - j) 0 false m0 (fun _ _ _ => rfl) ⟨rfl, rfl, rfl, trivial⟩ ⟨Nat.zero_le _, iffF fun ⟨i, hi, _⟩ => absurd hi (Nat.not_lt_zero _), hm0.trans ⟨.inl, fun h => h.elim id fun ⟨i, hi, _⟩ => absurd hi (Nat.not_lt_zero _)⟩, hw.sel⟩ ?_
    clear hw
    rintro σ1 j r m w ⟨hj, hr, hm, hw⟩
    repeat (first | refine go_run ?_ | (refine go_newP ?_; clear hw; intro p w hw) | (refine go_newW ?_; clear hw; intro w hw) | (refine go_newS ?_; clear hw; intro s w hw))
    refine go_if (fun h2 => ?_) (fun h2 => ?_)
    · have hjl : j < (t.ops.getD k dOp).effs.length := by omega
      have hee := hes.at_ j hjl
      have heo := hee.one
      have hev := hee.var
      have hew := hee.when
      have hS : setsK (t.ops.getD k dOp) (j + 1) v ↔ setsK (t.ops.getD k dOp) j v ∨ (eget tEff es j).var = v := by rw [hev]; exact ex_succ
      have hM : mattK (t.ops.getD k dOp) (j + 1) u v ↔ mattK (t.ops.getD k dOp) j u v ∨ ((eget tEff es j).var = u ∨ (eget tEff es j).var = v ∧ hasV ((t.ops.getD k dOp).effs.getD j dEff).when u) := by rw [hev]; exact ex_succ
      cases m
      · have hnm : ¬ (hasV (t.ops.getD k dOp).pre u ∨ mattK (t.ops.getD k dOp) j u v) := fun h => by have := hm.2 h; cases this
        by_cases hu : (eget tEff es j).var = u
        · have hdu : decide ((eget tEff es j).var = u) = true := decide_eq_true hu
          repeat (first | refine go_run ?_ | (refine go_newP ?_; clear hw; intro p w hw) | (refine go_newWr ?_; clear hw; intro w hw) | (refine go_newS ?_; clear hw; intro s w hw))
          simp only [hdu, beq_self_eq_true, beq_tf, beq_ft, Bool.false_and, Bool.true_and, Bool.not_true, Bool.not_false, Bool.cond_true, Bool.cond_false, gv_f, gv_t]
          repeat (first | refine go_run ?_ | (refine go_newP ?_; clear hw; intro p w hw) | (refine go_newWr ?_; clear hw; intro w hw) | (refine go_newS ?_; clear hw; intro s w hw))
          exact ⟨j + 1, _, true, ⟨rfl, rfl, rfl, trivial⟩, by repeat (first | exact agree_refl | (apply agree_upd rfl) | (apply agree_mix rfl) | (apply agree_sets rfl)), ⟨by omega, (orP hr).trans hS.symm, iffT (.inr (hM.2 (.inr (.inl hu)))), hw.sel⟩, by omega⟩
        have hdu : decide ((eget tEff es j).var = u) = false := decide_eq_false hu
        by_cases hv : (eget tEff es j).var = v
        · have hdv : decide ((eget tEff es j).var = v) = true := decide_eq_true hv
          repeat (first | refine go_run ?_ | (refine go_newP ?_; clear hw; intro p w hw) | (refine go_newWr ?_; clear hw; intro w hw) | (refine go_newS ?_; clear hw; intro s w hw))
          simp only [hdu, hdv, beq_self_eq_true, beq_tf, beq_ft, Bool.false_and, Bool.true_and, Bool.not_true, Bool.not_false, Bool.cond_true, Bool.cond_false, gv_f, gv_t]
          repeat (first | refine go_run ?_ | (refine go_newP ?_; clear hw; intro p w hw) | (refine go_newWr ?_; clear hw; intro w hw) | (refine go_newS ?_; clear hw; intro s w hw))
          refine st_call rfl (on_spec (hew.at hw)) ?_
          rintro _ w' ⟨⟨m1, rfl, hm1⟩, hk'⟩
          replace hw := hw.call0 hk'
          clear hk'
          refine ⟨_, rfl, ?_⟩
          repeat (first | refine go_run ?_ | (refine go_newP ?_; clear hw; intro p w hw) | (refine go_newWr ?_; clear hw; intro w hw) | (refine go_newS ?_; clear hw; intro s w hw))
          exact ⟨j + 1, _, m1, ⟨rfl, rfl, rfl, trivial⟩, by repeat (first | exact agree_refl | (apply agree_upd rfl) | (apply agree_mix rfl) | (apply agree_sets rfl)), ⟨by omega, by have h := (orP hr).trans hS.symm; rw [hdv] at h; exact h, hm1.trans ⟨fun h => .inr (hM.2 (.inr (.inr ⟨hv, h⟩))), fun h => h.elim (fun h => absurd (.inl h) hnm) fun h => (hM.1 h).elim (fun h => absurd (.inr h) hnm) fun h => h.elim (fun h => absurd h hu) (·.2)⟩, hw.sel⟩, by omega⟩
        · have hdv : decide ((eget tEff es j).var = v) = false := decide_eq_false hv
          repeat (first | refine go_run ?_ | (refine go_newP ?_; clear hw; intro p w hw) | (refine go_newWr ?_; clear hw; intro w hw) | (refine go_newS ?_; clear hw; intro s w hw))
          simp only [hdu, hdv, beq_self_eq_true, beq_tf, beq_ft, Bool.false_and, Bool.true_and, Bool.not_true, Bool.not_false, Bool.cond_true, Bool.cond_false, gv_f, gv_t]
          repeat (first | refine go_run ?_ | (refine go_newP ?_; clear hw; intro p w hw) | (refine go_newWr ?_; clear hw; intro w hw) | (refine go_newS ?_; clear hw; intro s w hw))
          exact ⟨j + 1, _, false, ⟨rfl, rfl, rfl, trivial⟩, by repeat (first | exact agree_refl | (apply agree_upd rfl) | (apply agree_mix rfl) | (apply agree_sets rfl)), ⟨by omega, by have h := (orP hr).trans hS.symm; rw [hdv] at h; exact h, iffF fun h => h.elim (fun h => absurd (.inl h) hnm) fun h => (hM.1 h).elim (fun h => absurd (.inr h) hnm) fun h => h.elim (fun h => absurd h hu) fun h => hv h.1, hw.sel⟩, by omega⟩
      · repeat (first | refine go_run ?_ | (refine go_newP ?_; clear hw; intro p w hw) | (refine go_newW ?_; clear hw; intro w hw) | (refine go_newS ?_; clear hw; intro s w hw))
        exact ⟨j + 1, _, true, ⟨rfl, rfl, rfl, trivial⟩, by repeat (first | exact agree_refl | (apply agree_upd rfl) | (apply agree_mix rfl) | (apply agree_sets rfl)), ⟨by omega, (orP hr).trans hS.symm, iffT ((hm.1 rfl).elim .inl fun h => .inr (hM.2 (.inl h))), hw.sel⟩, by omega⟩
    have hje : j = (t.ops.getD k dOp).effs.length := by omega
    subst hje
    rw [setsK_all] at hr
    rw [mattK_all] at hm
    have hiff : arcO (t.ops.getD k dOp) u v ↔ r = true ∧ m = true := by rw [arcO_ref, hr, hm]
    cases r
    · repeat (first | refine go_run ?_ | (refine go_newP ?_; clear hw; intro p w hw) | (refine go_newW ?_; clear hw; intro w hw) | (refine go_newS ?_; clear hw; intro s w hw))
      refine ⟨k + 1, ⟨rfl, trivial⟩, by repeat (first | exact agree_refl | (apply agree_upd rfl) | (apply agree_mix rfl) | (apply agree_sets rfl)), ⟨by omega, fun op ho => ?_, hw.sel⟩, by omega⟩
      by_cases e : op = k
      · subst e; exact fun h => by have := (hiff.1 h).1; cases this
      · exact hall op (by omega)
    cases m
    · repeat (first | refine go_run ?_ | (refine go_newP ?_; clear hw; intro p w hw) | (refine go_newW ?_; clear hw; intro w hw) | (refine go_newS ?_; clear hw; intro s w hw))
      refine ⟨k + 1, ⟨rfl, trivial⟩, by repeat (first | exact agree_refl | (apply agree_upd rfl) | (apply agree_mix rfl) | (apply agree_sets rfl)), ⟨by omega, fun op ho => ?_, hw.sel⟩, by omega⟩
      by_cases e : op = k
      · subst e; exact fun h => by have := (hiff.1 h).2; cases this
      · exact hall op (by omega)
    · repeat (first | refine go_run ?_ | (refine go_newP ?_; clear hw; intro p w hw) | (refine go_newW ?_; clear hw; intro w hw) | (refine go_newS ?_; clear hw; intro s w hw))
      exact res_one (v := .bool true) rfl rfl ⟨⟨true, rfl, iffT ⟨h0, k, hkl, hiff.2 ⟨rfl, rfl⟩⟩⟩, hw.sel⟩
  · repeat (first | refine go_run ?_ | (refine go_newP ?_; clear hw; intro p w hw) | (refine go_newW ?_; clear hw; intro w hw) | (refine go_newS ?_; clear hw; intro s w hw))
    exact res_one (v := .bool false) rfl rfl ⟨⟨false, rfl, iffF fun ⟨_, op, ho, h⟩ => hall op (by omega) h⟩, hw.sel⟩
end Go.Proofs.YtemnlcnjpjdoaaaGreatDoor
