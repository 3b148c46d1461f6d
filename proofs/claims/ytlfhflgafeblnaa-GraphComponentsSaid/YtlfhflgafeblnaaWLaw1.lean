/-
  'small', 'awake' and the walk of 'GraphShortest'.
-/
import Derived.Test.YtlfhflgafeblnaaWShort
import Derived.Test.YtlfhflgafeblnaaWRefShort
namespace Go.Proofs.Ytlfhflgafeblnaa
open Go.Sl
attribute [local irreducible] vc opsW opsD opV opW PureV ReadV Thn Blk

theorem small_spec {w0 : World} {n : Int} {a : Value} {arcs : List Arc} (ha : RS tArc w0 a arcs) :
    Calls Try.prog 11 #[.agg #[.int .i64 n, a]] w0 fun e w' => e = .returned (.bool (decide (n ≤ 24) && decide ((arcs.length : Int) ≤ 100))) ∧ Sat w0 w' [] := by
  have hla := ha.big
  have hw := Sat.start w0
  refine calls_of_vc (args := [.agg #[.int .i64 n, a]]) mixed Try.func11 rfl (by kernel_rfl) (Nat.le_of_ble_eq_true rfl) ?_
  repeat (first | refine vc_seq ?_ | refine thn_normal ?_ | refine vc_region ?_ | refine ops_nil ?_ | refine go_pure ?_ | refine go_read ?_ | refine vc_block ?_ | refine blk_normal ?_ | refine vc_skip ?_ | refine vc_exit ?_ | refine vc_ret ?_ | refine thn_exit ?_ | refine thn_ret ?_ | refine blk_ret ?_ | refine blk_exit ?_ | refine go_exit_ne ?_ | refine go_condT ?_ | refine go_condF ?_ | refine opsD_op ?_ | refine opsD_nil ?_ | refine go_chk ?_ | refine go_gchk ?_ | refine opsT_lin ?_ | refine opsT_step ?_ | refine go_gt ?_ | refine go_gf ?_ | refine go_gpure ?_ | refine go_gread ?_ | refine go_build1 ?_ | refine go_build2 ?_ | refine go_build3 ?_ | ((first | refine go_alloc ?_ | refine go_box ?_); clear hw; intro p w hw) | ((first | refine go_stBoxAgg ?_ | refine go_stElem ?_ | refine go_stBox0 ?_ | refine go_stBox ?_ | refine go_draw ?_); clear hw; intro w hw) | ((first | refine go_makeI ?_ | refine go_makeB ?_ | refine go_makeS ?_ | refine go_sl1I ?_ | refine go_sl1V ?_ | refine go_append ?_); clear hw; intro s w hw))
  exact res_one (v := .bool (decide (n ≤ 24) && decide ((arcs.length : Int) ≤ 100))) rfl rfl ⟨rfl, hw.tail⟩

theorem awake_spec {w0 : World} : Calls Try.prog 10 #[] w0 fun e w' => e = .returned (.bool true) ∧ Sat w0 w' [] := by
  have hw := Sat.start w0
  refine calls_of_vc (args := []) mixed Try.func10 rfl (by kernel_rfl) (Nat.le_of_ble_eq_true rfl) ?_
  repeat (first | refine vc_seq ?_ | refine thn_normal ?_ | refine vc_region ?_ | refine ops_nil ?_ | refine go_pure ?_ | refine go_read ?_ | refine vc_block ?_ | refine blk_normal ?_ | refine vc_skip ?_ | refine vc_exit ?_ | refine vc_ret ?_ | refine thn_exit ?_ | refine thn_ret ?_ | refine blk_ret ?_ | refine blk_exit ?_ | refine go_exit_ne ?_ | refine go_condT ?_ | refine go_condF ?_ | refine opsD_op ?_ | refine opsD_nil ?_ | refine go_chk ?_ | refine go_gchk ?_ | refine opsT_lin ?_ | refine opsT_step ?_ | refine go_gt ?_ | refine go_gf ?_ | refine go_gpure ?_ | refine go_gread ?_ | refine go_build1 ?_ | refine go_build2 ?_ | refine go_build3 ?_ | ((first | refine go_alloc ?_ | refine go_box ?_); clear hw; intro p w hw) | ((first | refine go_stBoxAgg ?_ | refine go_stElem ?_ | refine go_stBox0 ?_ | refine go_stBox ?_ | refine go_draw ?_); clear hw; intro w hw) | ((first | refine go_makeI ?_ | refine go_makeB ?_ | refine go_makeS ?_ | refine go_sl1I ?_ | refine go_sl1V ?_ | refine go_append ?_); clear hw; intro s w hw))
  refine st_buildSlice (T := tArc) [⟨0, 1, 5⟩, ⟨1, 2, -2⟩, ⟨2, 1, 3⟩, ⟨0, 2, 4⟩] [.agg #[.int .i64 0, .int .i64 1, .int .i64 5], .agg #[.int .i64 1, .int .i64 2, .int .i64 (-2)], .agg #[.int .i64 2, .int .i64 1, .int .i64 3], .agg #[.int .i64 0, .int .i64 2, .int .i64 4]] rfl rfl rfl rfl rfl (Nat.le_of_ble_eq_true rfl) (Nat.le_of_ble_eq_true rfl) (Nat.le_of_ble_eq_true rfl) hw ?_
  clear hw
  intro s w hw
  refine st_call rfl (Shortest_spec (n := 4) (src := 0) (a := s) (rsO hw) (by decide)) ?_
  rintro _ w' ⟨d, rfl, hk⟩
  replace hw := hw.call1 hk
  clear hk
  have hR : shortR 4 [⟨0, 1, 5⟩, ⟨1, 2, -2⟩, ⟨2, 1, 3⟩, ⟨0, 2, 4⟩] 0 4 = (0, [0, 5, 3, 1125899906842624]) := by decide
  simp only [show (4 : Int).toNat = 4 from rfl, hR] at hw
  refine ⟨.tuple #[d, .nilIface], by rw [show (4 : Int).toNat = 4 from rfl, hR]; rfl, ?_⟩
  repeat (first | refine vc_seq ?_ | refine thn_normal ?_ | refine vc_region ?_ | refine ops_nil ?_ | refine go_pure ?_ | refine go_read ?_ | refine vc_block ?_ | refine blk_normal ?_ | refine vc_skip ?_ | refine vc_exit ?_ | refine vc_ret ?_ | refine thn_exit ?_ | refine thn_ret ?_ | refine blk_ret ?_ | refine blk_exit ?_ | refine go_exit_ne ?_ | refine go_condT ?_ | refine go_condF ?_ | refine opsD_op ?_ | refine opsD_nil ?_ | refine go_chk ?_ | refine go_gchk ?_ | refine opsT_lin ?_ | refine opsT_step ?_ | refine go_gt ?_ | refine go_gf ?_ | refine go_gpure ?_ | refine go_gread ?_ | refine go_build1 ?_ | refine go_build2 ?_ | refine go_build3 ?_ | ((first | refine go_alloc ?_ | refine go_box ?_); clear hw; intro p w hw) | ((first | refine go_stBoxAgg ?_ | refine go_stElem ?_ | refine go_stBox0 ?_ | refine go_stBox ?_ | refine go_draw ?_); clear hw; intro w hw) | ((first | refine go_makeI ?_ | refine go_makeB ?_ | refine go_makeS ?_ | refine go_sl1I ?_ | refine go_sl1V ?_ | refine go_append ?_); clear hw; intro s w hw))
  refine st_buildSlice (T := tInt) [0, 5, 3, 1125899906842624] [.int .i64 0, .int .i64 5, .int .i64 3, .int .i64 1125899906842624] rfl rfl rfl rfl rfl (Nat.le_of_ble_eq_true rfl) (Nat.le_of_ble_eq_true rfl) (Nat.le_of_ble_eq_true rfl) hw ?_
  clear hw
  intro s2 w hw
  repeat (first | refine vc_seq ?_ | refine thn_normal ?_ | refine vc_region ?_ | refine ops_nil ?_ | refine go_pure ?_ | refine go_read ?_ | refine vc_block ?_ | refine blk_normal ?_ | refine vc_skip ?_ | refine vc_exit ?_ | refine vc_ret ?_ | refine thn_exit ?_ | refine thn_ret ?_ | refine blk_ret ?_ | refine blk_exit ?_ | refine go_exit_ne ?_ | refine go_condT ?_ | refine go_condF ?_ | refine opsD_op ?_ | refine opsD_nil ?_ | refine go_chk ?_ | refine go_gchk ?_ | refine opsT_lin ?_ | refine opsT_step ?_ | refine go_gt ?_ | refine go_gf ?_ | refine go_gpure ?_ | refine go_gread ?_ | refine go_build1 ?_ | refine go_build2 ?_ | refine go_build3 ?_ | ((first | refine go_alloc ?_ | refine go_box ?_); clear hw; intro p w hw) | ((first | refine go_stBoxAgg ?_ | refine go_stElem ?_ | refine go_stBox0 ?_ | refine go_stBox ?_ | refine go_draw ?_); clear hw; intro w hw) | ((first | refine go_makeI ?_ | refine go_makeB ?_ | refine go_makeS ?_ | refine go_sl1I ?_ | refine go_sl1V ?_ | refine go_append ?_); clear hw; intro s w hw))
  refine st_call rfl (Ints_spec (a := d) (b := s2) (rsO hw) (rsO hw)) ?_
  rintro _ w' ⟨rfl, hk⟩
  replace hw := hw.call0 hk
  clear hk
  refine ⟨.bool true, by rw [decide_eq_true rfl], ?_⟩
  repeat (first | refine vc_seq ?_ | refine thn_normal ?_ | refine vc_region ?_ | refine ops_nil ?_ | refine go_pure ?_ | refine go_read ?_ | refine vc_block ?_ | refine blk_normal ?_ | refine vc_skip ?_ | refine vc_exit ?_ | refine vc_ret ?_ | refine thn_exit ?_ | refine thn_ret ?_ | refine blk_ret ?_ | refine blk_exit ?_ | refine go_exit_ne ?_ | refine go_condT ?_ | refine go_condF ?_ | refine opsD_op ?_ | refine opsD_nil ?_ | refine go_chk ?_ | refine go_gchk ?_ | refine opsT_lin ?_ | refine opsT_step ?_ | refine go_gt ?_ | refine go_gf ?_ | refine go_gpure ?_ | refine go_gread ?_ | refine go_build1 ?_ | refine go_build2 ?_ | refine go_build3 ?_ | ((first | refine go_alloc ?_ | refine go_box ?_); clear hw; intro p w hw) | ((first | refine go_stBoxAgg ?_ | refine go_stElem ?_ | refine go_stBox0 ?_ | refine go_stBox ?_ | refine go_draw ?_); clear hw; intro w hw) | ((first | refine go_makeI ?_ | refine go_makeB ?_ | refine go_makeS ?_ | refine go_sl1I ?_ | refine go_sl1V ?_ | refine go_append ?_); clear hw; intro s w hw))
  exact res_one (v := .bool true) rfl rfl ⟨rfl, hw.tail.tail.tail⟩

set_option maxHeartbeats 2000000 in
theorem GraphShortest_walk {w0 : World} {n src : Int} {a : Value} {arcs : List Arc} (ha : RS tArc w0 a arcs) :
    Calls Try.prog 3 #[.agg #[.int .i64 n, a], .int .i64 src] w0 fun e w' => e = .returned (.bool true) ∧ Sat w0 w' [] := by
  have hla := ha.big
  have hw := Sat.start w0
  refine calls_of_vc (args := [.agg #[.int .i64 n, a], .int .i64 src]) mixed Try.func3 rfl (by kernel_rfl) (Nat.le_of_ble_eq_true rfl) ?_
  repeat (first | refine vc_seq ?_ | refine thn_normal ?_ | refine vc_region ?_ | refine ops_nil ?_ | refine go_pure ?_ | refine go_read ?_ | refine vc_block ?_ | refine blk_normal ?_ | refine vc_skip ?_ | refine vc_exit ?_ | refine vc_ret ?_ | refine thn_exit ?_ | refine thn_ret ?_ | refine blk_ret ?_ | refine blk_exit ?_ | refine go_exit_ne ?_ | refine go_condT ?_ | refine go_condF ?_ | refine opsD_op ?_ | refine opsD_nil ?_ | refine go_chk ?_ | refine go_gchk ?_ | refine opsT_lin ?_ | refine opsT_step ?_ | refine go_gt ?_ | refine go_gf ?_ | refine go_gpure ?_ | refine go_gread ?_ | refine go_build1 ?_ | refine go_build2 ?_ | refine go_build3 ?_ | ((first | refine go_alloc ?_ | refine go_box ?_); clear hw; intro p w hw) | ((first | refine go_stBoxAgg ?_ | refine go_stElem ?_ | refine go_stBox0 ?_ | refine go_stBox ?_ | refine go_draw ?_); clear hw; intro w hw) | ((first | refine go_makeI ?_ | refine go_makeB ?_ | refine go_makeS ?_ | refine go_sl1I ?_ | refine go_sl1V ?_ | refine go_append ?_); clear hw; intro s w hw))
  refine st_call rfl awake_spec ?_
  rintro _ w' ⟨rfl, hk⟩
  replace hw := hw.call0 hk
  clear hk
  refine ⟨_, rfl, ?_⟩
  repeat (first | refine vc_seq ?_ | refine thn_normal ?_ | refine vc_region ?_ | refine ops_nil ?_ | refine go_pure ?_ | refine go_read ?_ | refine vc_block ?_ | refine blk_normal ?_ | refine vc_skip ?_ | refine vc_exit ?_ | refine vc_ret ?_ | refine thn_exit ?_ | refine thn_ret ?_ | refine blk_ret ?_ | refine blk_exit ?_ | refine go_exit_ne ?_ | refine go_condT ?_ | refine go_condF ?_ | refine opsD_op ?_ | refine opsD_nil ?_ | refine go_chk ?_ | refine go_gchk ?_ | refine opsT_lin ?_ | refine opsT_step ?_ | refine go_gt ?_ | refine go_gf ?_ | refine go_gpure ?_ | refine go_gread ?_ | refine go_build1 ?_ | refine go_build2 ?_ | refine go_build3 ?_ | ((first | refine go_alloc ?_ | refine go_box ?_); clear hw; intro p w hw) | ((first | refine go_stBoxAgg ?_ | refine go_stElem ?_ | refine go_stBox0 ?_ | refine go_stBox ?_ | refine go_draw ?_); clear hw; intro w hw) | ((first | refine go_makeI ?_ | refine go_makeB ?_ | refine go_makeS ?_ | refine go_sl1I ?_ | refine go_sl1V ?_ | refine go_append ?_); clear hw; intro s w hw))
  refine st_call rfl (small_spec (a := a) (n := n) (ha.at hw)) ?_
  rintro _ w' ⟨rfl, hk⟩
  replace hw := hw.call0 hk
  clear hk
  refine ⟨_, rfl, ?_⟩
  repeat (first | refine vc_seq ?_ | refine thn_normal ?_ | refine vc_region ?_ | refine ops_nil ?_ | refine go_pure ?_ | refine go_read ?_ | refine vc_block ?_ | refine blk_normal ?_ | refine vc_skip ?_ | refine vc_exit ?_ | refine vc_ret ?_ | refine thn_exit ?_ | refine thn_ret ?_ | refine blk_ret ?_ | refine blk_exit ?_ | refine go_exit_ne ?_ | refine go_condT ?_ | refine go_condF ?_ | refine opsD_op ?_ | refine opsD_nil ?_ | refine go_chk ?_ | refine go_gchk ?_ | refine opsT_lin ?_ | refine opsT_step ?_ | refine go_gt ?_ | refine go_gf ?_ | refine go_gpure ?_ | refine go_gread ?_ | refine go_build1 ?_ | refine go_build2 ?_ | refine go_build3 ?_ | ((first | refine go_alloc ?_ | refine go_box ?_); clear hw; intro p w hw) | ((first | refine go_stBoxAgg ?_ | refine go_stElem ?_ | refine go_stBox0 ?_ | refine go_stBox ?_ | refine go_draw ?_); clear hw; intro w hw) | ((first | refine go_makeI ?_ | refine go_makeB ?_ | refine go_makeS ?_ | refine go_sl1I ?_ | refine go_sl1V ?_ | refine go_append ?_); clear hw; intro s w hw))
  refine go_if (fun h1 => ?_) (fun h1 => ?_)
  · repeat (first | refine vc_seq ?_ | refine thn_normal ?_ | refine vc_region ?_ | refine ops_nil ?_ | refine go_pure ?_ | refine go_read ?_ | refine vc_block ?_ | refine blk_normal ?_ | refine vc_skip ?_ | refine vc_exit ?_ | refine vc_ret ?_ | refine thn_exit ?_ | refine thn_ret ?_ | refine blk_ret ?_ | refine blk_exit ?_ | refine go_exit_ne ?_ | refine go_condT ?_ | refine go_condF ?_ | refine opsD_op ?_ | refine opsD_nil ?_ | refine go_chk ?_ | refine go_gchk ?_ | refine opsT_lin ?_ | refine opsT_step ?_ | refine go_gt ?_ | refine go_gf ?_ | refine go_gpure ?_ | refine go_gread ?_ | refine go_build1 ?_ | refine go_build2 ?_ | refine go_build3 ?_ | ((first | refine go_alloc ?_ | refine go_box ?_); clear hw; intro p w hw) | ((first | refine go_stBoxAgg ?_ | refine go_stElem ?_ | refine go_stBox0 ?_ | refine go_stBox ?_ | refine go_draw ?_); clear hw; intro w hw) | ((first | refine go_makeI ?_ | refine go_makeB ?_ | refine go_makeS ?_ | refine go_sl1I ?_ | refine go_sl1V ?_ | refine go_append ?_); clear hw; intro s w hw))
    refine st_call rfl awake_spec ?_
    rintro _ w' ⟨rfl, hk⟩
    replace hw := hw.call0 hk
    clear hk
    refine ⟨_, rfl, ?_⟩
    repeat (first | refine vc_seq ?_ | refine thn_normal ?_ | refine vc_region ?_ | refine ops_nil ?_ | refine go_pure ?_ | refine go_read ?_ | refine vc_block ?_ | refine blk_normal ?_ | refine vc_skip ?_ | refine vc_exit ?_ | refine vc_ret ?_ | refine thn_exit ?_ | refine thn_ret ?_ | refine blk_ret ?_ | refine blk_exit ?_ | refine go_exit_ne ?_ | refine go_condT ?_ | refine go_condF ?_ | refine opsD_op ?_ | refine opsD_nil ?_ | refine go_chk ?_ | refine go_gchk ?_ | refine opsT_lin ?_ | refine opsT_step ?_ | refine go_gt ?_ | refine go_gf ?_ | refine go_gpure ?_ | refine go_gread ?_ | refine go_build1 ?_ | refine go_build2 ?_ | refine go_build3 ?_ | ((first | refine go_alloc ?_ | refine go_box ?_); clear hw; intro p w hw) | ((first | refine go_stBoxAgg ?_ | refine go_stElem ?_ | refine go_stBox0 ?_ | refine go_stBox ?_ | refine go_draw ?_); clear hw; intro w hw) | ((first | refine go_makeI ?_ | refine go_makeB ?_ | refine go_makeS ?_ | refine go_sl1I ?_ | refine go_sl1V ?_ | refine go_append ?_); clear hw; intro s w hw))
    exact res_one (v := .bool true) rfl rfl ⟨rfl, hw.tail⟩
  · have hB : (n.toNat + 2) * arcs.length ≤ 8000 := by
      have h2 := Nat.mul_le_mul (show n.toNat + 2 ≤ 26 by omega) (show arcs.length ≤ 100 by omega)
      omega
    repeat (first | refine vc_seq ?_ | refine thn_normal ?_ | refine vc_region ?_ | refine ops_nil ?_ | refine go_pure ?_ | refine go_read ?_ | refine vc_block ?_ | refine blk_normal ?_ | refine vc_skip ?_ | refine vc_exit ?_ | refine vc_ret ?_ | refine thn_exit ?_ | refine thn_ret ?_ | refine blk_ret ?_ | refine blk_exit ?_ | refine go_exit_ne ?_ | refine go_condT ?_ | refine go_condF ?_ | refine opsD_op ?_ | refine opsD_nil ?_ | refine go_chk ?_ | refine go_gchk ?_ | refine opsT_lin ?_ | refine opsT_step ?_ | refine go_gt ?_ | refine go_gf ?_ | refine go_gpure ?_ | refine go_gread ?_ | refine go_build1 ?_ | refine go_build2 ?_ | refine go_build3 ?_ | ((first | refine go_alloc ?_ | refine go_box ?_); clear hw; intro p w hw) | ((first | refine go_stBoxAgg ?_ | refine go_stElem ?_ | refine go_stBox0 ?_ | refine go_stBox ?_ | refine go_draw ?_); clear hw; intro w hw) | ((first | refine go_makeI ?_ | refine go_makeB ?_ | refine go_makeS ?_ | refine go_sl1I ?_ | refine go_sl1V ?_ | refine go_append ?_); clear hw; intro s w hw))
    refine st_call rfl (Shortest_spec (a := a) (n := n) (src := src) (ha.at hw) hB) ?_
    rintro _ w' ⟨got, rfl, hk⟩
    replace hw := hw.call1 hk
    clear hk
    refine ⟨_, rfl, ?_⟩
    repeat (first | refine vc_seq ?_ | refine thn_normal ?_ | refine vc_region ?_ | refine ops_nil ?_ | refine go_pure ?_ | refine go_read ?_ | refine vc_block ?_ | refine blk_normal ?_ | refine vc_skip ?_ | refine vc_exit ?_ | refine vc_ret ?_ | refine thn_exit ?_ | refine thn_ret ?_ | refine blk_ret ?_ | refine blk_exit ?_ | refine go_exit_ne ?_ | refine go_condT ?_ | refine go_condF ?_ | refine opsD_op ?_ | refine opsD_nil ?_ | refine go_chk ?_ | refine go_gchk ?_ | refine opsT_lin ?_ | refine opsT_step ?_ | refine go_gt ?_ | refine go_gf ?_ | refine go_gpure ?_ | refine go_gread ?_ | refine go_build1 ?_ | refine go_build2 ?_ | refine go_build3 ?_ | ((first | refine go_alloc ?_ | refine go_box ?_); clear hw; intro p w hw) | ((first | refine go_stBoxAgg ?_ | refine go_stElem ?_ | refine go_stBox0 ?_ | refine go_stBox ?_ | refine go_draw ?_); clear hw; intro w hw) | ((first | refine go_makeI ?_ | refine go_makeB ?_ | refine go_makeS ?_ | refine go_sl1I ?_ | refine go_sl1V ?_ | refine go_append ?_); clear hw; intro s w hw))
    refine st_call rfl (refShortest_spec (a := a) (n := n) (src := src) (ha.at hw) hB) ?_
    rintro _ w' ⟨want, rfl, hk⟩
    replace hw := hw.call1 hk
    clear hk
    refine ⟨_, rfl, ?_⟩
    rw [shortR_more] at hw ⊢
    repeat (first | refine vc_seq ?_ | refine thn_normal ?_ | refine vc_region ?_ | refine ops_nil ?_ | refine go_pure ?_ | refine go_read ?_ | refine vc_block ?_ | refine blk_normal ?_ | refine vc_skip ?_ | refine vc_exit ?_ | refine vc_ret ?_ | refine thn_exit ?_ | refine thn_ret ?_ | refine blk_ret ?_ | refine blk_exit ?_ | refine go_exit_ne ?_ | refine go_condT ?_ | refine go_condF ?_ | refine opsD_op ?_ | refine opsD_nil ?_ | refine go_chk ?_ | refine go_gchk ?_ | refine opsT_lin ?_ | refine opsT_step ?_ | refine go_gt ?_ | refine go_gf ?_ | refine go_gpure ?_ | refine go_gread ?_ | refine go_build1 ?_ | refine go_build2 ?_ | refine go_build3 ?_ | ((first | refine go_alloc ?_ | refine go_box ?_); clear hw; intro p w hw) | ((first | refine go_stBoxAgg ?_ | refine go_stElem ?_ | refine go_stBox0 ?_ | refine go_stBox ?_ | refine go_draw ?_); clear hw; intro w hw) | ((first | refine go_makeI ?_ | refine go_makeB ?_ | refine go_makeS ?_ | refine go_sl1I ?_ | refine go_sl1V ?_ | refine go_append ?_); clear hw; intro s w hw))
    refine st_call rfl (Ints_spec (a := got) (b := want) (rsO hw) (rsO hw)) ?_
    rintro _ w' ⟨rfl, hk⟩
    replace hw := hw.call0 hk
    clear hk
    refine ⟨.bool true, by rw [decide_eq_true rfl], ?_⟩
    repeat (first | refine vc_seq ?_ | refine thn_normal ?_ | refine vc_region ?_ | refine ops_nil ?_ | refine go_pure ?_ | refine go_read ?_ | refine vc_block ?_ | refine blk_normal ?_ | refine vc_skip ?_ | refine vc_exit ?_ | refine vc_ret ?_ | refine thn_exit ?_ | refine thn_ret ?_ | refine blk_ret ?_ | refine blk_exit ?_ | refine go_exit_ne ?_ | refine go_condT ?_ | refine go_condF ?_ | refine opsD_op ?_ | refine opsD_nil ?_ | refine go_chk ?_ | refine go_gchk ?_ | refine opsT_lin ?_ | refine opsT_step ?_ | refine go_gt ?_ | refine go_gf ?_ | refine go_gpure ?_ | refine go_gread ?_ | refine go_build1 ?_ | refine go_build2 ?_ | refine go_build3 ?_ | ((first | refine go_alloc ?_ | refine go_box ?_); clear hw; intro p w hw) | ((first | refine go_stBoxAgg ?_ | refine go_stElem ?_ | refine go_stBox0 ?_ | refine go_stBox ?_ | refine go_draw ?_); clear hw; intro w hw) | ((first | refine go_makeI ?_ | refine go_makeB ?_ | refine go_makeS ?_ | refine go_sl1I ?_ | refine go_sl1V ?_ | refine go_append ?_); clear hw; intro s w hw))
    refine st_call rfl (Num_spec _) ?_
    rintro _ w' ⟨rfl, hk⟩
    replace hw := hw.call0 hk
    clear hk
    refine ⟨_, rfl, ?_⟩
    repeat (first | refine vc_seq ?_ | refine thn_normal ?_ | refine vc_region ?_ | refine ops_nil ?_ | refine go_pure ?_ | refine go_read ?_ | refine vc_block ?_ | refine blk_normal ?_ | refine vc_skip ?_ | refine vc_exit ?_ | refine vc_ret ?_ | refine thn_exit ?_ | refine thn_ret ?_ | refine blk_ret ?_ | refine blk_exit ?_ | refine go_exit_ne ?_ | refine go_condT ?_ | refine go_condF ?_ | refine opsD_op ?_ | refine opsD_nil ?_ | refine go_chk ?_ | refine go_gchk ?_ | refine opsT_lin ?_ | refine opsT_step ?_ | refine go_gt ?_ | refine go_gf ?_ | refine go_gpure ?_ | refine go_gread ?_ | refine go_build1 ?_ | refine go_build2 ?_ | refine go_build3 ?_ | ((first | refine go_alloc ?_ | refine go_box ?_); clear hw; intro p w hw) | ((first | refine go_stBoxAgg ?_ | refine go_stElem ?_ | refine go_stBox0 ?_ | refine go_stBox ?_ | refine go_draw ?_); clear hw; intro w hw) | ((first | refine go_makeI ?_ | refine go_makeB ?_ | refine go_makeS ?_ | refine go_sl1I ?_ | refine go_sl1V ?_ | refine go_append ?_); clear hw; intro s w hw))
    refine res_one (v := .bool true) rfl ?_ ⟨rfl, hw.tail.tail.tail⟩
    (conv => lhs; whnf)
    simp
end Go.Proofs.Ytlfhflgafeblnaa
