
/-
  Contract of reference 35's 'goals'.
-/
import Derived.Test.YtkmbenhffledpaaGreatWLr7
import Derived.Test.YtkmbenhffledpaaGreatWLr4
set_option linter.unusedSimpArgs false
set_option linter.unusedVariables false
namespace Go.Proofs.YtkmbenhffledpaaGreat
open Go.Sl Go
attribute [local irreducible] vc opsW opsD opV opW PureV ReadV Thn Blk
theorem arc_get {A : List RArc} {m : Nat} (h : m < A.length) : A[m]? = some (A.getD m tRA.dflt) := by
  rw [List.getElem?_eq_getElem h, getD_at h]
theorem fact_get {l : List Fact} {m : Nat} (h : m < l.length) : l[m]? = some (l.getD m tFact.dflt) := by
  rw [List.getElem?_eq_getElem h, getD_at h]
theorem fact_ints {f g : Fact} : [f.var, f.val] = [g.var, g.val] ↔ f = g := by
  cases f; cases g
  simp
set_option maxRecDepth 8000 in
set_option maxHeartbeats 8000000 in
theorem r35goals_spec {w0 : World} {av lv : Value} {t : TTask} {A : List RArc} {cs V : List Int} {g0 : Fact} (hA : RAll t V A) (hg : GoodT t) (hV : ∀ g : Int, 0 ≤ g → g < factN t → 0 ≤ dg V g) (hav : RS tRA w0 av A) (hlv : RS tInt w0 lv cs) (hcl : cs.length = t.ops.length) (hg0 : FactOk t.vars g0) :
    Calls Tryz.prog 40 #[av, lv, .agg #[.int .i64 g0.var, .int .i64 g0.val]] w0 fun e w' => ∃ zv l, e = .returned zv ∧ GZ t V cs g0 A l l.length 0 ∧ Sat w0 w' [OS tFact 77 zv l] := by
  have hab := hav.big
  have hN := factN_le hg
  have hw := Sat.start w0
  refine calls_of_vc (args := [av, lv, .agg #[.int .i64 g0.var, .int .i64 g0.val]]) mixed Tryz.func40 rfl (by kernel_rfl) (Nat.le_of_ble_eq_true rfl) ?_
  repeat (first | refine go_run ?_ | (refine go_newP ?_; clear hw; intro p w hw) | (refine go_newW ?_; clear hw; intro w hw) | (refine go_newS ?_; clear hw; intro s w hw))
  obtain ⟨pg, hpg⟩ : ∃ pg, pg = p := ⟨p, rfl⟩
  subst hpg
  refine st_buildSlice1 tFact (x1 := g0) rfl rfl rfl (Nat.le_of_ble_eq_true rfl) (Nat.zero_lt_succ _) hw ?_
  clear hw
  intro s0 w hw
  repeat (first | refine go_run ?_ | (refine go_newP ?_; clear hw; intro p w hw) | (refine go_newW ?_; clear hw; intro w hw) | (refine go_newS ?_; clear hw; intro s w hw))
  replace hw : Sat w0 w [OS tFact 77 s0 [g0], Box pg 77 [.int .i64 g0.var, .int .i64 g0.val]] := hw
  refine vc_loop3 [7, 8, 10, 13, 14, 15, 16, 17, 18, 19, 20, 21, 22, 23, 24, 25, 26, 27, 28, 29, 30, 31, 32, 33, 34, 35, 36, 37, 38, 39, 40, 41, 42, 43, 44, 45, 46, 47, 48, 49, 50, 51, 52, 53, 54, 55, 56, 57] (G := Nat) (H := Value) (I := List Fact) (fun i zv _ => [(8, .int .i64 i), (7, zv)]) (fun i zv l w => i ≤ l.length ∧ GZ t V cs g0 A l i 0 ∧ Sat w0 w [OS tFact 77 zv l, Box pg 77 [.int .i64 g0.var, .int .i64 g0.val]]) (fun i _ _ => factN t + 1 - i) 0 s0 [g0] (fun _ _ _ => rfl) ⟨rfl, rfl, trivial⟩ ⟨Nat.zero_le _, .start hg0, hw⟩ ?_
  clear hw
  rintro σ i zv l w ⟨hi, hZ, hw⟩
  have hll := hZ.z.len hg
  repeat (first | refine go_run ?_ | (refine go_newP ?_; clear hw; intro p w hw) | (refine go_newW ?_; clear hw; intro w hw) | (refine go_newS ?_; clear hw; intro s w hw))
  refine go_if (fun h1 => ?_) (fun h1 => ?_)
  · have hil : i < l.length := by omega
    repeat (first | refine go_run ?_ | (refine go_newP ?_; clear hw; intro p w hw) | (refine go_newW ?_; clear hw; intro w hw) | (refine go_newS ?_; clear hw; intro s w hw))
    refine vc_loop3 [7, 10, 21, 22, 23, 24, 25, 26, 27, 28, 29, 30, 31, 32, 33, 34, 35, 36, 37, 38, 39, 40, 41, 42, 43, 44, 45, 46, 47, 48, 49, 50, 51, 52, 53, 54, 55, 56, 57] (G := Nat) (H := Value) (I := List Fact) (fun m zv _ => [(21, .int .i64 m), (7, zv)]) (fun m zv l w => m ≤ A.length ∧ i < l.length ∧ GZ t V cs g0 A l i m ∧ Sat w0 w [OS tFact 77 zv l, Box pg 77 [.int .i64 g0.var, .int .i64 g0.val]]) (fun m _ _ => A.length - m) 0 zv l (fun _ _ _ => rfl) ⟨rfl, rfl, trivial⟩ ⟨Nat.zero_le _, hil, hZ, hw⟩ ?_
    clear hw hZ hil hll hi
    rintro σ1 m zv l w ⟨hm, hil, hZ, hw⟩
    have hll := hZ.z.len hg
    repeat (first | refine go_run ?_ | (refine go_newP ?_; clear hw; intro p w hw) | (refine go_newW ?_; clear hw; intro w hw) | (refine go_newS ?_; clear hw; intro s w hw))
    refine go_if (fun h2 => ?_) (fun h2 => ?_)
    · have hml : m < A.length := by omega
      have hma := mem_getD tRA.dflt hml
      have hat := arc_get hml
      have hit := fact_get hil
      obtain ⟨x, hx⟩ : ∃ x, x = A.getD m tRA.dflt := ⟨_, rfl⟩
      obtain ⟨f, hf⟩ : ∃ f, f = l.getD i tFact.dflt := ⟨_, rfl⟩
      rw [← hx] at hma hat
      rw [← hf] at hit
      obtain ⟨k1, k2, op, k3, k4⟩ := hA.ok x hma
      obtain ⟨st, hst⟩ : ∃ st, st = x.start := ⟨_, rfl⟩
      repeat (first | refine go_run ?_ | (refine go_newP ?_; clear hw; intro p w hw) | (refine go_newWr ?_; clear hw; intro w hw) | (refine go_newS ?_; clear hw; intro s w hw))
      obtain ⟨pa, hpa⟩ : ∃ pa, pa = p := ⟨p, rfl⟩
      subst hpa
      rw [← hx] at hw
      replace hw : Sat w0 w [Box pa 88 [.bool st, .int .i64 x.src.var, .int .i64 x.src.val, .int .i64 x.dst.var, .int .i64 x.dst.val, .int .i64 (op : Int)], OS tFact 77 zv l, Box pg 77 [.int .i64 g0.var, .int .i64 g0.val]] := by rw [hst, ← k3]; exact hw
      cases st
      · refine vc_plan [.op 0, .op 1, .op 2, .op 3, .op 4, .op 5, .op 6, .op 7, .op 8, .op 9, .op 10, .op 11, .op 12, .op 13, .op 14, .op 15, .op 16, .op 17, .op 18, .op 19, .op 20, .op 21, .op 22, .op 23, .op 24, .op 25, .op 26] hw (by kernel_rfl) ?_; clear hw; intro w hw
        repeat (first | refine go_run ?_ | (refine go_newP ?_; clear hw; intro p w hw) | (refine go_newWr ?_; clear hw; intro w hw) | (refine go_newS ?_; clear hw; intro s w hw))
        refine step_read rfl (rv_boxRSub (k := 3) (n := 2) (vs := [.int .i64 x.dst.var, .int .i64 x.dst.val]) rfl (hw.boxR 0 rfl) rfl rfl) ?_
        repeat (first | refine go_run ?_ | (refine go_newP ?_; clear hw; intro p w hw) | (refine go_newWr ?_; clear hw; intro w hw) | (refine go_newS ?_; clear hw; intro s w hw))
        refine step_pure rfl (pv_eqlInts (us := [x.dst.var, x.dst.val]) (zs := [(l.getD i tFact.dflt).var, (l.getD i tFact.dflt).val]) rfl rfl rfl rfl) ?_
        by_cases he : x.dst = f
        · have hd : decide ([x.dst.var, x.dst.val] = [(l.getD i tFact.dflt).var, (l.getD i tFact.dflt).val]) = true := decide_eq_true (fact_ints.2 (by rw [← hf]; exact he))
          rw [hd]
          repeat (first | refine go_run ?_ | (refine go_newP ?_; clear hw; intro p w hw) | (refine go_newWr ?_; clear hw; intro w hw) | (refine go_newS ?_; clear hw; intro s w hw))
          by_cases hz : cs.getD op tInt.dflt = 0
          · have hd2 : decide (cs.getD op tInt.dflt = 0) = true := decide_eq_true hz
            simp only [hd2, beq_self_eq_true, beq_tfI, beq_ftI, Bool.false_and, Bool.true_and, Bool.false_or, Bool.true_or, Bool.not_true, Bool.not_false, Bool.cond_true, Bool.cond_false, gv_fI, gv_tI]
            repeat (first | refine go_run ?_ | (refine go_newP ?_; clear hw; intro p w hw) | (refine go_newWr ?_; clear hw; intro w hw) | (refine go_newS ?_; clear hw; intro s w hw))
            refine step_read rfl (rv_boxRSub (k := 1) (n := 2) (vs := [.int .i64 x.src.var, .int .i64 x.src.val]) rfl (hw.boxR 0 rfl) rfl rfl) ?_
            repeat (first | refine go_run ?_ | (refine go_newP ?_; clear hw; intro p w hw) | (refine go_newWr ?_; clear hw; intro w hw) | (refine go_newS ?_; clear hw; intro s w hw))
            refine st_call rfl (r35in_spec (f := x.src) (rsO (s := zv) hw)) ?_
            rintro _ w' ⟨⟨r, rfl, hr⟩, hk'⟩
            replace hw := hw.call0 hk'
            clear hk'
            refine ⟨_, rfl, ?_⟩
            repeat (first | refine go_run ?_ | (refine go_newP ?_; clear hw; intro p w hw) | (refine go_newWr ?_; clear hw; intro w hw) | (refine go_newS ?_; clear hw; intro s w hw))
            cases r
            · have hns : x.src ∉ l := fun h => by have := hr.2 h; cases this
              repeat (first | refine go_run ?_ | (refine go_newP ?_; clear hw; intro p w hw) | (refine go_newWr ?_; clear hw; intro w hw) | (refine go_newS ?_; clear hw; intro s w hw))
              refine step_read rfl (rv_boxRSub (k := 1) (n := 2) (vs := [.int .i64 x.src.var, .int .i64 x.src.val]) rfl (hw.boxR 0 rfl) rfl rfl) ?_
              repeat (first | refine go_run ?_ | (refine go_newP ?_; clear hw; intro p w hw) | (refine go_newWr ?_; clear hw; intro w hw) | (refine go_newS ?_; clear hw; intro s w hw))
              refine st_buildSlice1 tFact (x1 := x.src) rfl rfl rfl (Nat.le_of_ble_eq_true rfl) (Nat.zero_lt_succ _) hw ?_
              clear hw
              intro s1 w hw
              repeat (first | refine go_run ?_ | (refine go_newP ?_; clear hw; intro p w hw) | (refine go_newWr ?_; clear hw; intro w hw) | (refine go_newS ?_; clear hw; intro s w hw))
              obtain ⟨zv2, hzv2⟩ : ∃ zv2, zv2 = s := ⟨s, rfl⟩
              subst hzv2
              exact ⟨m + 1, zv2, l ++ [x.src], ⟨rfl, rfl, trivial⟩, by repeat (first | exact agree_refl | (apply agree_upd rfl) | (apply agree_mix rfl) | (apply agree_sets rfl)), ⟨by omega, by rw [List.length_append]; omega, hZ.push hg hV hA hat hil hst.symm (by rw [hit, he]) (by rw [k3, Int.toNat_natCast]; exact hz) hns, hw.sel⟩, by omega⟩
            · repeat (first | refine go_run ?_ | (refine go_newP ?_; clear hw; intro p w hw) | (refine go_newWr ?_; clear hw; intro w hw) | (refine go_newS ?_; clear hw; intro s w hw))
              exact ⟨m + 1, zv, l, ⟨rfl, rfl, trivial⟩, by repeat (first | exact agree_refl | (apply agree_upd rfl) | (apply agree_mix rfl) | (apply agree_sets rfl)), ⟨by omega, hil, hZ.skip hat (fun _ _ _ => hr.1 rfl), hw.tail⟩, by omega⟩
          · have hd2 : decide (cs.getD op tInt.dflt = 0) = false := decide_eq_false hz
            simp only [hd2, beq_self_eq_true, beq_tfI, beq_ftI, Bool.false_and, Bool.true_and, Bool.false_or, Bool.true_or, Bool.not_true, Bool.not_false, Bool.cond_true, Bool.cond_false, gv_fI, gv_tI]
            repeat (first | refine go_run ?_ | (refine go_newP ?_; clear hw; intro p w hw) | (refine go_newWr ?_; clear hw; intro w hw) | (refine go_newS ?_; clear hw; intro s w hw))
            exact ⟨m + 1, zv, l, ⟨rfl, rfl, trivial⟩, by repeat (first | exact agree_refl | (apply agree_upd rfl) | (apply agree_mix rfl) | (apply agree_sets rfl)), ⟨by omega, hil, hZ.skip hat (fun _ _ h => absurd (by rw [k3, Int.toNat_natCast] at h; exact h) hz), hw.tail⟩, by omega⟩
        · have hd : decide ([x.dst.var, x.dst.val] = [(l.getD i tFact.dflt).var, (l.getD i tFact.dflt).val]) = false := decide_eq_false fun h => he (by rw [hf]; exact fact_ints.1 h)
          rw [hd]
          repeat (first | refine go_run ?_ | (refine go_newP ?_; clear hw; intro p w hw) | (refine go_newWr ?_; clear hw; intro w hw) | (refine go_newS ?_; clear hw; intro s w hw))
          exact ⟨m + 1, zv, l, ⟨rfl, rfl, trivial⟩, by repeat (first | exact agree_refl | (apply agree_upd rfl) | (apply agree_mix rfl) | (apply agree_sets rfl)), ⟨by omega, hil, hZ.skip hat (fun _ h => absurd (by rw [hit] at h; exact (Option.some.inj h).symm) he), hw.tail⟩, by omega⟩
      · refine vc_plan [.op 0, .op 1, .op 2, .op 3, .op 4, .op 5, .op 6, .op 7, .op 8, .op 9, .op 10, .op 11, .op 12, .op 13, .op 14, .op 15, .op 16, .op 17, .op 18, .op 19, .op 20, .op 21, .op 22, .op 23, .op 24, .op 25, .op 26] hw (by kernel_rfl) ?_; clear hw; intro w hw
        repeat (first | refine go_run ?_ | (refine go_newP ?_; clear hw; intro p w hw) | (refine go_newWr ?_; clear hw; intro w hw) | (refine go_newS ?_; clear hw; intro s w hw))
        exact ⟨m + 1, zv, l, ⟨rfl, rfl, trivial⟩, by repeat (first | exact agree_refl | (apply agree_upd rfl) | (apply agree_mix rfl) | (apply agree_sets rfl)), ⟨by omega, hil, hZ.skip hat (fun h => by rw [← hst] at h; cases h), hw.tail⟩, by omega⟩
    have hme : m = A.length := by omega
    subst hme
    repeat (first | refine go_run ?_ | (refine go_newP ?_; clear hw; intro p w hw) | (refine go_newW ?_; clear hw; intro w hw) | (refine go_newS ?_; clear hw; intro s w hw))
    exact ⟨i + 1, zv, l, ⟨rfl, rfl, trivial⟩, by repeat (first | exact agree_refl | (apply agree_upd rfl) | (apply agree_mix rfl) | (apply agree_sets rfl)), ⟨by omega, hZ.next, hw⟩, by omega⟩
  have hie : i = l.length := by omega
  subst hie
  repeat (first | refine go_run ?_ | (refine go_newP ?_; clear hw; intro p w hw) | (refine go_newW ?_; clear hw; intro w hw) | (refine go_newS ?_; clear hw; intro s w hw))
  exact res_one (v := zv) rfl rfl ⟨zv, l, rfl, hZ, hw.sel⟩
end Go.Proofs.YtkmbenhffledpaaGreat
