
/-
  Contracts of 'task.apply', 'task.Run', 'task.Solves' for a plan that is one.
-/
import Derived.Test.YtegndanecnicaaaGreatWIAw
import Derived.Test.YtegndanecnicaaaGreatMTA
import Derived.Test.YtegndanecnicaaaGreatMSlB
set_option linter.unusedSimpArgs false
set_option linter.unusedVariables false
namespace Go.Proofs.YtegndanecnicaaaGreat
open Go.Sl Go
attribute [local irreducible] vc opsW opsD opV opW PureV ReadV Thn Blk
set_option maxRecDepth 8000 in
set_option maxHeartbeats 4000000 in
theorem tapply_spec {w0 : World} {a b c d sv : Value} {vs : List OpV} {t : TTask} {s : List Int} {op : Nat} (ht : RTask w0 a b c d vs t) (hg : GoodT t) (hs : RS tInt w0 sv s) (hok : StateOk t.vars s) (ho : op < t.ops.length) (hap : AppT t s op) :
    Calls Tryz.prog 76 #[.agg #[a, b, c, d], sv, .int .i64 (op : Int)] w0 fun e w' => ∃ rv, e = .returned (.tuple #[rv, .nilIface]) ∧ Sat w0 w' [OS tInt 3 rv (succT t s op)] := by
  have ht' := ht
  obtain ⟨ha, hb, hc, hd⟩ := ht
  have hdr := hd.rs
  have hdl := hd.len
  have hvl := hg.vars
  have hsl := hok.1
  have hop := hd.at_ op ho
  have hoo := hg.op op ho
  have hone := hop.one
  have hpre := hop.pre
  obtain ⟨es, hes⟩ := hop.effs
  have hesr := hes.rs
  have hesl := hes.len
  have heb := hoo.effs
  have hw := Sat.start w0
  refine calls_of_vc (args := [.agg #[a, b, c, d], sv, .int .i64 (op : Int)]) mixed Tryz.func76 rfl (by kernel_rfl) (Nat.le_of_ble_eq_true rfl) ?_
  have hd1 : decide ((op : Int) < 0) = false := decide_eq_false (by omega)
  have hd2 : decide ((vs.length : Int) ≤ (op : Int)) = false := decide_eq_false (by omega)
  repeat (first | refine go_run ?_ | (refine go_newP ?_; clear hw; intro p w hw) | (refine go_newWr ?_; clear hw; intro w hw) | (refine go_newS ?_; clear hw; intro s w hw))
  obtain ⟨pt, hpt⟩ : ∃ pt, pt = p := ⟨p, rfl⟩
  subst hpt
  replace hw : Sat w0 w [Box pt 26 [a, b, c, d]] := hw
  simp only [hd1, hd2, beq_self_eq_true, beq_tfI, beq_ftI, Bool.false_and, Bool.true_and, Bool.not_true, Bool.not_false, Bool.cond_true, Bool.cond_false, gv_fI, gv_tI]
  repeat (first | refine go_run ?_ | (refine go_newP ?_; clear hw; intro p w hw) | (refine go_newWr ?_; clear hw; intro w hw) | (refine go_newS ?_; clear hw; intro s w hw))
  refine st_call rfl (tProper_spec (ha.at hw) (hs.at hw)) ?_
  rintro _ w' ⟨⟨r, rfl, hr⟩, hk'⟩
  replace hw := hw.call0 hk'
  clear hk'
  refine ⟨_, rfl, ?_⟩
  obtain rfl : r = true := hr.2 hok
  repeat (first | refine go_run ?_ | (refine go_newP ?_; clear hw; intro p w hw) | (refine go_newWr ?_; clear hw; intro w hw) | (refine go_newS ?_; clear hw; intro s w hw))
  refine st_call rfl (tHolds_spec (hpre.at hw) (hs.at hw)) ?_
  rintro _ w' ⟨⟨r, rfl, hr2⟩, hk'⟩
  replace hw := hw.call0 hk'
  clear hk'
  refine ⟨_, rfl, ?_⟩
  obtain rfl : r = true := hr2.2 hap
  repeat (first | refine go_run ?_ | (refine go_newP ?_; clear hw; intro p w hw) | (refine go_newWr ?_; clear hw; intro w hw) | (refine go_newS ?_; clear hw; intro s w hw))
  refine st_call rfl (Clone_spec (hs.at hw) (by omega)) ?_
  rintro _ w' ⟨nv, rfl, hk'⟩
  replace hw := hw.call1 hk'
  clear hk'
  refine ⟨_, rfl, ?_⟩
  repeat (first | refine go_run ?_ | (refine go_newP ?_; clear hw; intro p w hw) | (refine go_newWr ?_; clear hw; intro w hw) | (refine go_newS ?_; clear hw; intro s w hw))
  rw [show s = effsL s ((t.ops.getD op dOp).effs.take 0) from rfl] at hw
  refine vc_loop [10, 49, 50, 51, 52, 53, 54, 55, 56, 57, 58, 59, 60, 61, 62, 63] (G := Nat) (fun j => [(49, .int .i64 j)]) (fun j w => j ≤ (t.ops.getD op dOp).effs.length ∧ Sat w0 w [OS tInt 3 nv (effsL s ((t.ops.getD op dOp).effs.take j)), Box pt 26 [a, b, c, d]]) (fun j => (t.ops.getD op dOp).effs.length - j) 0 (fun _ => rfl) ⟨rfl, trivial⟩ ⟨Nat.zero_le _, hw⟩ ?_
  clear hw
  rintro σ1 j w ⟨hj, hw⟩
  have hel := effsL_len s ((t.ops.getD op dOp).effs.take j)
  repeat (first | refine go_run ?_ | (refine go_newP ?_; clear hw; intro p w hw) | (refine go_newW ?_; clear hw; intro w hw) | (refine go_newS ?_; clear hw; intro s w hw))
  refine go_if (fun h2 => ?_) (fun h2 => ?_)
  · have hjl : j < (t.ops.getD op dOp).effs.length := by omega
    have hue := hes.at_ j hjl
    have huo := hue.one
    have huv := hue.var
    have hux := hue.val
    have hwhen := hue.when
    have her := effOk_range (hoo.eff j hjl)
    have htk := take_snoc dEff hjl
    repeat (first | refine go_run ?_ | (refine go_newP ?_; clear hw; intro p w hw) | (refine go_newW ?_; clear hw; intro w hw) | (refine go_newS ?_; clear hw; intro s w hw))
    refine st_call rfl (tHolds_spec (hwhen.at hw) (hs.at hw)) ?_
    rintro _ w' ⟨⟨r, rfl, hr3⟩, hk'⟩
    replace hw := hw.call0 hk'
    clear hk'
    refine ⟨_, rfl, ?_⟩
    cases r
    · have hno : ¬ HoldFs s ((t.ops.getD op dOp).effs.getD j dEff).when := fun h => by cases hr3.2 h
      repeat (first | refine go_run ?_ | (refine go_newP ?_; clear hw; intro p w hw) | (refine go_newW ?_; clear hw; intro w hw) | (refine go_newS ?_; clear hw; intro s w hw))
      refine ⟨j + 1, ⟨rfl, trivial⟩, by repeat (first | exact agree_refl | (apply agree_upd rfl) | (apply agree_mix rfl) | (apply agree_sets rfl)), ⟨by omega, ?_⟩, by omega⟩
      rw [htk, effsL_snoc, if_neg hno]
      exact hw.tail
    · have hyes := hr3.1 rfl
      repeat (first | refine go_run ?_ | (refine go_newP ?_; clear hw; intro p w hw) | (refine go_newW ?_; clear hw; intro w hw) | (refine go_newS ?_; clear hw; intro s w hw))
      refine ⟨j + 1, ⟨rfl, trivial⟩, by repeat (first | exact agree_refl | (apply agree_upd rfl) | (apply agree_mix rfl) | (apply agree_sets rfl)), ⟨by omega, ?_⟩, by omega⟩
      rw [htk, effsL_snoc, if_pos hyes, ← huv, ← hux]
      exact hw.tail
  have hje : j = (t.ops.getD op dOp).effs.length := by omega
  subst hje
  rw [List.take_of_length_le (Nat.le_refl _)] at hw
  repeat (first | refine go_run ?_ | (refine go_newP ?_; clear hw; intro p w hw) | (refine go_newW ?_; clear hw; intro w hw) | (refine go_newS ?_; clear hw; intro s w hw))
  exact res_two (v := nv) (v' := .nilIface) rfl rfl rfl ⟨nv, rfl, (show Sat w0 w [OS tInt 3 nv (succT t s op), Box pt 26 [a, b, c, d]] from hw).sel⟩
set_option maxRecDepth 8000 in
set_option maxHeartbeats 4000000 in
theorem Solves_spec {w0 : World} {a b c d pv : Value} {vs : List OpV} {t : TTask} {q : List Int} {k0 : Int} (ht : RTask w0 a b c d vs t) (hg : GoodT t) (hp : RS tInt w0 pv q) (hP : Pln t t.init q k0) (hpl : q.length ≤ 65536) :
    Calls Tryz.prog 30 #[.agg #[a, b, c, d], pv] w0 fun e w' => e = .returned (.tuple #[.int .i64 k0, .nilIface]) ∧ Sat w0 w' [] := by
  have ht' := ht
  obtain ⟨ha, hb, hc, hd⟩ := ht
  have hdr := hd.rs
  have hdl := hd.len
  have hvl := hg.vars
  have hil := hg.init.1
  obtain ⟨hgoal, hce⟩ := hP.fin
  have hrun : ∀ (w : World) (Γ : List HP), Sat w0 w Γ → Calls Tryz.prog 57 #[.agg #[a, b, c, d], b, pv] w fun e w' => ∃ zv, e = .returned (.tuple #[zv, .int .i64 k0, .nilIface]) ∧ Sat w w' [OS tInt 3 zv (stL t t.init q)] := by
    intro w1 Γ1 hs1
    have hw := Sat.start w1
    have htw := ht'.at hs1
    have hpw := hp.at hs1
    have hbw := hb.at hs1
    have hdrw := hdr.at hs1
    refine calls_of_vc (args := [.agg #[a, b, c, d], b, pv]) mixed Tryz.func57 rfl (by kernel_rfl) (Nat.le_of_ble_eq_true rfl) ?_
    repeat (first | refine go_run ?_ | (refine go_newP ?_; clear hw; intro p w hw) | (refine go_newWr ?_; clear hw; intro w hw) | (refine go_newS ?_; clear hw; intro s w hw))
    obtain ⟨pt, hpt⟩ : ∃ pt, pt = p := ⟨p, rfl⟩
    subst hpt
    replace hw : Sat w1 w [Box pt 26 [a, b, c, d]] := hw
    refine st_call rfl (Check_spec (htw.at hw)) ?_
    rintro _ w' ⟨rfl, hk'⟩
    replace hw := hw.call0 hk'
    clear hk'
    refine ⟨_, rfl, ?_⟩
    rw [errV_zero ((good_iff t).2 hg)]
    repeat (first | refine go_run ?_ | (refine go_newP ?_; clear hw; intro p w hw) | (refine go_newWr ?_; clear hw; intro w hw) | (refine go_newS ?_; clear hw; intro s w hw))
    refine st_call rfl (tProper_spec (htw.vars.at hw) (hbw.at hw)) ?_
    rintro _ w' ⟨⟨r, rfl, hr⟩, hk'⟩
    replace hw := hw.call0 hk'
    clear hk'
    refine ⟨_, rfl, ?_⟩
    obtain rfl : r = true := hr.2 hg.init
    repeat (first | refine go_run ?_ | (refine go_newP ?_; clear hw; intro p w hw) | (refine go_newWr ?_; clear hw; intro w hw) | (refine go_newS ?_; clear hw; intro s w hw))
    refine go_if (fun h1 => ?_) (fun h1 => ?_)
    · omega
    repeat (first | refine go_run ?_ | (refine go_newP ?_; clear hw; intro p w hw) | (refine go_newWr ?_; clear hw; intro w hw) | (refine go_newS ?_; clear hw; intro s w hw))
    refine st_call rfl (Clone_spec (hbw.at hw) (by omega)) ?_
    rintro _ w' ⟨nv, rfl, hk'⟩
    replace hw := hw.call1 hk'
    clear hk'
    refine ⟨_, rfl, ?_⟩
    repeat (first | refine go_run ?_ | (refine go_newP ?_; clear hw; intro p w hw) | (refine go_newWr ?_; clear hw; intro w hw) | (refine go_newS ?_; clear hw; intro s w hw))
    refine vc_loop3 [1, 6, 7, 8, 10, 12, 13, 14, 34, 35, 36, 37, 38, 39, 40, 41, 42, 43, 44, 45, 46, 47, 48, 49, 50, 51, 52, 53, 54, 55, 56, 57] (G := Nat) (H := Int) (I := Value) (fun k m zv => [(34, .int .i64 k), (10, .int .i64 m), (1, zv)]) (fun k m zv w => k ≤ q.length ∧ m = coL t (q.take k) ∧ Sat w1 w [OS tInt 3 zv (stL t t.init (q.take k)), Box pt 26 [a, b, c, d]]) (fun k _ _ => q.length - k) 0 0 nv (fun _ _ _ => rfl) ⟨rfl, rfl, rfl, trivial⟩ ⟨Nat.zero_le _, rfl, hw⟩ ?_
    clear hw
    rintro σ k m zv w ⟨hk, hm, hw⟩
    repeat (first | refine go_run ?_ | (refine go_newP ?_; clear hw; intro p w hw) | (refine go_newW ?_; clear hw; intro w hw) | (refine go_newS ?_; clear hw; intro s w hw))
    refine go_if (fun h2 => ?_) (fun h2 => ?_)
    · have hkl : k < q.length := by omega
      obtain ⟨p1, p2, p3⟩ := hP.at_ hkl
      have hso := stL_ok hg hP hg.init (k := k) (by omega)
      have hcr := coL_rng hg hP (k := k) (by omega)
      rw [← hm] at hcr
      have hcr2 := opC_rng hg p2
      obtain ⟨c1, c2⟩ := cost_step hP hkl
      obtain ⟨o, hoe⟩ : ∃ o : Nat, q.getD k tInt.dflt = (o : Int) := ⟨(q.getD k tInt.dflt).toNat, by omega⟩
      rw [hoe, Int.toNat_natCast] at p2 p3 hcr2 c1 c2
      have hco : (eget tOp vs o).cost = opC t o := (ht'.ops.at_ _ p2).cost
      repeat (first | refine go_run ?_ | (refine go_newP ?_; clear hw; intro p w hw) | (refine go_newW ?_; clear hw; intro w hw) | (refine go_newS ?_; clear hw; intro s w hw))
      rw [hoe]
      refine st_call rfl (tapply_spec (htw.at hw) hg (rsO (s := zv) hw) hso p2 p3) ?_
      rintro _ w' ⟨rv, rfl, hk'⟩
      replace hw := hw.call1 hk'
      clear hk'
      refine ⟨_, rfl, ?_⟩
      repeat (first | refine go_run ?_ | (refine go_newP ?_; clear hw; intro p w hw) | (refine go_newW ?_; clear hw; intro w hw) | (refine go_newS ?_; clear hw; intro s w hw))
      refine ⟨k + 1, _, rv, ⟨rfl, rfl, rfl, trivial⟩, by repeat (first | exact agree_refl | (apply agree_upd rfl) | (apply agree_mix rfl) | (apply agree_sets rfl)), ⟨by omega, by rw [c2, ← hm, hco], ?_⟩, by omega⟩
      rw [c1]
      have hw2 : Sat w1 w [OS tInt 3 rv (succT t (stL t t.init (q.take k)) o), OS tInt 3 zv (stL t t.init (q.take k)), Box pt 26 [a, b, c, d]] := hw
      exact hw2.sel
    have hke : k = q.length := by omega
    subst hke
    rw [List.take_of_length_le (Nat.le_refl _)] at hm hw
    repeat (first | refine go_run ?_ | (refine go_newP ?_; clear hw; intro p w hw) | (refine go_newW ?_; clear hw; intro w hw) | (refine go_newS ?_; clear hw; intro s w hw))
    exact res_three (v1 := zv) (v2 := .int .i64 k0) (v3 := .nilIface) rfl rfl (by rw [hce, ← hm]; rfl) rfl ⟨zv, rfl, hw.sel⟩
  have hw := Sat.start w0
  refine calls_of_vc (args := [.agg #[a, b, c, d], pv]) mixed Tryz.func30 rfl (by kernel_rfl) (Nat.le_of_ble_eq_true rfl) ?_
  repeat (first | refine go_run ?_ | (refine go_newP ?_; clear hw; intro p w hw) | (refine go_newW ?_; clear hw; intro w hw) | (refine go_newS ?_; clear hw; intro s w hw))
  refine st_call rfl (hrun _ _ hw) ?_
  rintro _ w' ⟨zv, rfl, hk'⟩
  replace hw := hw.call1 hk'
  clear hk'
  refine ⟨_, rfl, ?_⟩
  repeat (first | refine go_run ?_ | (refine go_newP ?_; clear hw; intro p w hw) | (refine go_newW ?_; clear hw; intro w hw) | (refine go_newS ?_; clear hw; intro s w hw))
  refine st_call rfl (tHolds_spec (hc.at hw) (rsO (s := zv) hw)) ?_
  rintro _ w' ⟨⟨r, rfl, hr⟩, hk'⟩
  replace hw := hw.call0 hk'
  clear hk'
  refine ⟨_, rfl, ?_⟩
  obtain rfl : r = true := hr.2 hgoal
  repeat (first | refine go_run ?_ | (refine go_newP ?_; clear hw; intro p w hw) | (refine go_newW ?_; clear hw; intro w hw) | (refine go_newS ?_; clear hw; intro s w hw))
  exact res_two (v := .int .i64 k0) (v' := .nilIface) rfl rfl rfl ⟨rfl, sat_none hw⟩
end Go.Proofs.YtegndanecnicaaaGreat
