/-
  'Is' and the walk of 'GraphTight'.
-/
import Derived.Test.YtlfhflgafeblnaaWRefReach
import Derived.Test.YtlfhflgafeblnaaGTight
namespace Go.Proofs.Ytlfhflgafeblnaa
open Go.Sl
attribute [local irreducible] vc opsW opsD opV opW PureV ReadV Thn Blk

theorem Is_spec {w0 : World} (c k : Int) :
    Calls Try.prog 19 #[errV c, .int .i64 k] w0 fun e w' => e = .returned (.bool (!decide (c = 0) && decide (c = k))) ∧ Sat w0 w' [] := by
  have hw := Sat.start w0
  by_cases hc : c = 0
  · subst hc
    refine calls_of_vc (args := [.nilIface, .int .i64 k]) mixed Try.func19 rfl (by kernel_rfl) (Nat.le_of_ble_eq_true rfl) ?_
    repeat (first | refine vc_seq ?_ | refine thn_normal ?_ | refine vc_region ?_ | refine ops_nil ?_ | refine go_pure ?_ | refine go_read ?_ | refine vc_block ?_ | refine blk_normal ?_ | refine vc_skip ?_ | refine vc_exit ?_ | refine vc_ret ?_ | refine thn_exit ?_ | refine thn_ret ?_ | refine blk_ret ?_ | refine blk_exit ?_ | refine go_exit_ne ?_ | refine go_condT ?_ | refine go_condF ?_ | refine opsD_op ?_ | refine opsD_nil ?_ | refine go_chk ?_ | refine go_gchk ?_ | refine opsT_lin ?_ | refine opsT_step ?_ | refine go_gt ?_ | refine go_gf ?_ | refine go_gpure ?_ | refine go_gread ?_ | refine go_build1 ?_ | refine go_build2 ?_ | refine go_build3 ?_ | ((first | refine go_alloc ?_ | refine go_box ?_); clear hw; intro p w hw) | ((first | refine go_stBoxAgg ?_ | refine go_stElem ?_ | refine go_stBox0 ?_ | refine go_stBox ?_ | refine go_draw ?_); clear hw; intro w hw) | ((first | refine go_makeI ?_ | refine go_makeB ?_ | refine go_makeS ?_ | refine go_sl1I ?_ | refine go_sl1V ?_ | refine go_append ?_); clear hw; intro s w hw))
    exact res_one (v := .bool false) rfl rfl ⟨rfl, hw⟩
  · rw [errV_some hc]
    refine calls_of_vc (args := [.iface 47 (.int .i64 c), .int .i64 k]) mixed Try.func19 rfl (by kernel_rfl) (Nat.le_of_ble_eq_true rfl) ?_
    repeat (first | refine vc_seq ?_ | refine thn_normal ?_ | refine vc_region ?_ | refine ops_nil ?_ | refine go_pure ?_ | refine go_read ?_ | refine vc_block ?_ | refine blk_normal ?_ | refine vc_skip ?_ | refine vc_exit ?_ | refine vc_ret ?_ | refine thn_exit ?_ | refine thn_ret ?_ | refine blk_ret ?_ | refine blk_exit ?_ | refine go_exit_ne ?_ | refine go_condT ?_ | refine go_condF ?_ | refine opsD_op ?_ | refine opsD_nil ?_ | refine go_chk ?_ | refine go_gchk ?_ | refine opsT_lin ?_ | refine opsT_step ?_ | refine go_gt ?_ | refine go_gf ?_ | refine go_gpure ?_ | refine go_gread ?_ | refine go_build1 ?_ | refine go_build2 ?_ | refine go_build3 ?_ | ((first | refine go_alloc ?_ | refine go_box ?_); clear hw; intro p w hw) | ((first | refine go_stBoxAgg ?_ | refine go_stElem ?_ | refine go_stBox0 ?_ | refine go_stBox ?_ | refine go_draw ?_); clear hw; intro w hw) | ((first | refine go_makeI ?_ | refine go_makeB ?_ | refine go_makeS ?_ | refine go_sl1I ?_ | refine go_sl1V ?_ | refine go_append ?_); clear hw; intro s w hw))
    refine st_call rfl (errV_some hc ▸ Num_spec c) ?_
    rintro _ w' ⟨rfl, hk⟩
    replace hw := hw.call0 hk
    clear hk
    refine ⟨_, rfl, ?_⟩
    repeat (first | refine vc_seq ?_ | refine thn_normal ?_ | refine vc_region ?_ | refine ops_nil ?_ | refine go_pure ?_ | refine go_read ?_ | refine vc_block ?_ | refine blk_normal ?_ | refine vc_skip ?_ | refine vc_exit ?_ | refine vc_ret ?_ | refine thn_exit ?_ | refine thn_ret ?_ | refine blk_ret ?_ | refine blk_exit ?_ | refine go_exit_ne ?_ | refine go_condT ?_ | refine go_condF ?_ | refine opsD_op ?_ | refine opsD_nil ?_ | refine go_chk ?_ | refine go_gchk ?_ | refine opsT_lin ?_ | refine opsT_step ?_ | refine go_gt ?_ | refine go_gf ?_ | refine go_gpure ?_ | refine go_gread ?_ | refine go_build1 ?_ | refine go_build2 ?_ | refine go_build3 ?_ | ((first | refine go_alloc ?_ | refine go_box ?_); clear hw; intro p w hw) | ((first | refine go_stBoxAgg ?_ | refine go_stElem ?_ | refine go_stBox0 ?_ | refine go_stBox ?_ | refine go_draw ?_); clear hw; intro w hw) | ((first | refine go_makeI ?_ | refine go_makeB ?_ | refine go_makeS ?_ | refine go_sl1I ?_ | refine go_sl1V ?_ | refine go_append ?_); clear hw; intro s w hw))
    refine res_one (v := .bool (decide (c = k))) rfl rfl ⟨?_, hw⟩
    simp [hc]

set_option maxRecDepth 4000 in
set_option maxHeartbeats 4000000 in
theorem GraphTight_walk {w0 : World} {n src : Int} {a : Value} {arcs : List Arc} (ha : RS tArc w0 a arcs) :
    Calls Try.prog 5 #[.agg #[.int .i64 n, a], .int .i64 src] w0 fun e w' => e = .returned (.bool true) ∧ Sat w0 w' [] := by
  have hla := ha.big
  have hw := Sat.start w0
  refine calls_of_vc (args := [.agg #[.int .i64 n, a], .int .i64 src]) mixed Try.func5 rfl (by kernel_rfl) (Nat.le_of_ble_eq_true rfl) ?_
  repeat (first | refine vc_seq ?_ | refine thn_normal ?_ | refine vc_region ?_ | refine ops_nil ?_ | refine go_pure ?_ | refine go_read ?_ | refine vc_block ?_ | refine blk_normal ?_ | refine vc_skip ?_ | refine vc_exit ?_ | refine vc_ret ?_ | refine thn_exit ?_ | refine thn_ret ?_ | refine blk_ret ?_ | refine blk_exit ?_ | refine go_exit_ne ?_ | refine go_condT ?_ | refine go_condF ?_ | refine opsD_op ?_ | refine opsD_nil ?_ | refine go_chk ?_ | refine go_gchk ?_ | refine opsT_lin ?_ | refine opsT_step ?_ | refine go_gt ?_ | refine go_gf ?_ | refine go_gpure ?_ | refine go_gread ?_ | refine go_build1 ?_ | refine go_build2 ?_ | refine go_build3 ?_ | ((first | refine go_alloc ?_ | refine go_box ?_); clear hw; intro p w hw) | ((first | refine go_stBoxAgg ?_ | refine go_stElem ?_ | refine go_stBox0 ?_ | refine go_stBox ?_ | refine go_draw ?_); clear hw; intro w hw) | ((first | refine go_makeI ?_ | refine go_makeB ?_ | refine go_makeS ?_ | refine go_sl1I ?_ | refine go_sl1V ?_ | refine go_append ?_); clear hw; intro s w hw))
  refine st_call rfl awake_spec ?_
  rintro _ w' ⟨rfl, hk⟩
  replace hw := hw.call0 hk
  clear hk
  refine ⟨_, rfl, ?_⟩
  repeat (first | refine vc_seq ?_ | refine thn_normal ?_ | refine vc_region ?_ | refine ops_nil ?_ | refine go_pure ?_ | refine go_read ?_ | refine vc_block ?_ | refine blk_normal ?_ | refine vc_skip ?_ | refine vc_exit ?_ | refine vc_ret ?_ | refine thn_exit ?_ | refine thn_ret ?_ | refine blk_ret ?_ | refine blk_exit ?_ | refine go_exit_ne ?_ | refine go_condT ?_ | refine go_condF ?_ | refine opsD_op ?_ | refine opsD_nil ?_ | refine go_chk ?_ | refine go_gchk ?_ | refine opsT_lin ?_ | refine opsT_step ?_ | refine go_gt ?_ | refine go_gf ?_ | refine go_gpure ?_ | refine go_gread ?_ | refine go_build1 ?_ | refine go_build2 ?_ | refine go_build3 ?_ | ((first | refine go_alloc ?_ | refine go_box ?_); clear hw; intro p w hw) | ((first | refine go_stBoxAgg ?_ | refine go_stElem ?_ | refine go_stBox0 ?_ | refine go_stBox ?_ | refine go_draw ?_); clear hw; intro w hw) | ((first | refine go_makeI ?_ | refine go_makeB ?_ | refine go_makeS ?_ | refine go_sl1I ?_ | refine go_sl1V ?_ | refine go_append ?_); clear hw; intro s w hw))
  refine st_call rfl (small_spec (a := a) (n := n) (ha.at hw)) ?_
  rintro _ w' ⟨rfl, hk⟩
  replace hw := hw.call0 hk
  clear hk
  refine ⟨_, rfl, ?_⟩
  repeat (first | refine vc_seq ?_ | refine thn_normal ?_ | refine vc_region ?_ | refine ops_nil ?_ | refine go_pure ?_ | refine go_read ?_ | refine vc_block ?_ | refine blk_normal ?_ | refine vc_skip ?_ | refine vc_exit ?_ | refine vc_ret ?_ | refine thn_exit ?_ | refine thn_ret ?_ | refine blk_ret ?_ | refine blk_exit ?_ | refine go_exit_ne ?_ | refine go_condT ?_ | refine go_condF ?_ | refine opsD_op ?_ | refine opsD_nil ?_ | refine go_chk ?_ | refine go_gchk ?_ | refine opsT_lin ?_ | refine opsT_step ?_ | refine go_gt ?_ | refine go_gf ?_ | refine go_gpure ?_ | refine go_gread ?_ | refine go_build1 ?_ | refine go_build2 ?_ | refine go_build3 ?_ | ((first | refine go_alloc ?_ | refine go_box ?_); clear hw; intro p w hw) | ((first | refine go_stBoxAgg ?_ | refine go_stElem ?_ | refine go_stBox0 ?_ | refine go_stBox ?_ | refine go_draw ?_); clear hw; intro w hw) | ((first | refine go_makeI ?_ | refine go_makeB ?_ | refine go_makeS ?_ | refine go_sl1I ?_ | refine go_sl1V ?_ | refine go_append ?_); clear hw; intro s w hw))
  refine go_if (fun h1 => ?_) (fun h1 => ?_)
  · repeat (first | refine vc_seq ?_ | refine thn_normal ?_ | refine vc_region ?_ | refine ops_nil ?_ | refine go_pure ?_ | refine go_read ?_ | refine vc_block ?_ | refine blk_normal ?_ | refine vc_skip ?_ | refine vc_exit ?_ | refine vc_ret ?_ | refine thn_exit ?_ | refine thn_ret ?_ | refine blk_ret ?_ | refine blk_exit ?_ | refine go_exit_ne ?_ | refine go_condT ?_ | refine go_condF ?_ | refine opsD_op ?_ | refine opsD_nil ?_ | refine go_chk ?_ | refine go_gchk ?_ | refine opsT_lin ?_ | refine opsT_step ?_ | refine go_gt ?_ | refine go_gf ?_ | refine go_gpure ?_ | refine go_gread ?_ | refine go_build1 ?_ | refine go_build2 ?_ | refine go_build3 ?_ | ((first | refine go_alloc ?_ | refine go_box ?_); clear hw; intro p w hw) | ((first | refine go_stBoxAgg ?_ | refine go_stElem ?_ | refine go_stBox0 ?_ | refine go_stBox ?_ | refine go_draw ?_); clear hw; intro w hw) | ((first | refine go_makeI ?_ | refine go_makeB ?_ | refine go_makeS ?_ | refine go_sl1I ?_ | refine go_sl1V ?_ | refine go_append ?_); clear hw; intro s w hw))
    refine st_call rfl awake_spec ?_
    rintro _ w' ⟨rfl, hk⟩
    replace hw := hw.call0 hk
    clear hk
    refine ⟨_, rfl, ?_⟩
    repeat (first | refine vc_seq ?_ | refine thn_normal ?_ | refine vc_region ?_ | refine ops_nil ?_ | refine go_pure ?_ | refine go_read ?_ | refine vc_block ?_ | refine blk_normal ?_ | refine vc_skip ?_ | refine vc_exit ?_ | refine vc_ret ?_ | refine thn_exit ?_ | refine thn_ret ?_ | refine blk_ret ?_ | refine blk_exit ?_ | refine go_exit_ne ?_ | refine go_condT ?_ | refine go_condF ?_ | refine opsD_op ?_ | refine opsD_nil ?_ | refine go_chk ?_ | refine go_gchk ?_ | refine opsT_lin ?_ | refine opsT_step ?_ | refine go_gt ?_ | refine go_gf ?_ | refine go_gpure ?_ | refine go_gread ?_ | refine go_build1 ?_ | refine go_build2 ?_ | refine go_build3 ?_ | ((first | refine go_alloc ?_ | refine go_box ?_); clear hw; intro p w hw) | ((first | refine go_stBoxAgg ?_ | refine go_stElem ?_ | refine go_stBox0 ?_ | refine go_stBox ?_ | refine go_draw ?_); clear hw; intro w hw) | ((first | refine go_makeI ?_ | refine go_makeB ?_ | refine go_makeS ?_ | refine go_sl1I ?_ | refine go_sl1V ?_ | refine go_append ?_); clear hw; intro s w hw))
    exact res_one (v := .bool true) rfl rfl ⟨rfl, hw.tail⟩
  · have hB : (n.toNat + 2) * arcs.length ≤ 8000 := by
      have h2 := Nat.mul_le_mul (show n.toNat + 2 ≤ 26 by omega) (show arcs.length ≤ 100 by omega)
      omega
    repeat (first | refine vc_seq ?_ | refine thn_normal ?_ | refine vc_region ?_ | refine ops_nil ?_ | refine go_pure ?_ | refine go_read ?_ | refine vc_block ?_ | refine blk_normal ?_ | refine vc_skip ?_ | refine vc_exit ?_ | refine vc_ret ?_ | refine thn_exit ?_ | refine thn_ret ?_ | refine blk_ret ?_ | refine blk_exit ?_ | refine go_exit_ne ?_ | refine go_condT ?_ | refine go_condF ?_ | refine opsD_op ?_ | refine opsD_nil ?_ | refine go_chk ?_ | refine go_gchk ?_ | refine opsT_lin ?_ | refine opsT_step ?_ | refine go_gt ?_ | refine go_gf ?_ | refine go_gpure ?_ | refine go_gread ?_ | refine go_build1 ?_ | refine go_build2 ?_ | refine go_build3 ?_ | ((first | refine go_alloc ?_ | refine go_box ?_); clear hw; intro p w hw) | ((first | refine go_stBoxAgg ?_ | refine go_stElem ?_ | refine go_stBox0 ?_ | refine go_stBox ?_ | refine go_draw ?_); clear hw; intro w hw) | ((first | refine go_makeI ?_ | refine go_makeB ?_ | refine go_makeS ?_ | refine go_sl1I ?_ | refine go_sl1V ?_ | refine go_append ?_); clear hw; intro s w hw))
    refine st_call rfl (Shortest_spec (a := a) (n := n) (src := src) (ha.at hw) hB) ?_
    rintro _ w' ⟨got, rfl, hk⟩
    replace hw := hw.call1 hk
    clear hk
    by_cases hz : (shortR n arcs src n.toNat).1 = 0
    · obtain ⟨hcode, ⟨hs0, hs1⟩, d, hbf, hfin, hR⟩ := shortR_zero hz
      obtain ⟨hn0, hn1, harcs⟩ := of_checkCode hcode
      have T := tight_of (n := n.toNat) (fun ar har => by have := harcs ar har; unfold arcOk at this; exact ⟨by omega, by omega, by omega, by omega⟩) hs0 (by omega) hbf
      have hdl := T.len
      have hml : (d.map (encF 1125899906842624)).length = n.toNat := by simpa using hdl
      have hrl := reachL_len n arcs [src]
      have hfr : frOk n [src] := fun v hv => by rw [List.mem_singleton.1 hv]; omega
      have hRR := reachR_ok hcode hfr
      refine ⟨.tuple #[got, .nilIface], by rw [errV_zero hz], ?_⟩
      rw [hR] at hw
      simp only at hw
      repeat (first | refine vc_seq ?_ | refine thn_normal ?_ | refine vc_region ?_ | refine ops_nil ?_ | refine go_pure ?_ | refine go_read ?_ | refine vc_block ?_ | refine blk_normal ?_ | refine vc_skip ?_ | refine vc_exit ?_ | refine vc_ret ?_ | refine thn_exit ?_ | refine thn_ret ?_ | refine blk_ret ?_ | refine blk_exit ?_ | refine go_exit_ne ?_ | refine go_condT ?_ | refine go_condF ?_ | refine opsD_op ?_ | refine opsD_nil ?_ | refine go_chk ?_ | refine go_gchk ?_ | refine opsT_lin ?_ | refine opsT_step ?_ | refine go_gt ?_ | refine go_gf ?_ | refine go_gpure ?_ | refine go_gread ?_ | refine go_build1 ?_ | refine go_build2 ?_ | refine go_build3 ?_ | ((first | refine go_alloc ?_ | refine go_box ?_); clear hw; intro p w hw) | ((first | refine go_stBoxAgg ?_ | refine go_stElem ?_ | refine go_stBox0 ?_ | refine go_stBox ?_ | refine go_draw ?_); clear hw; intro w hw) | ((first | refine go_makeI ?_ | refine go_makeB ?_ | refine go_makeS ?_ | refine go_sl1I ?_ | refine go_sl1V ?_ | refine go_append ?_); clear hw; intro s w hw))
      refine st_call rfl (Reach_spec (a := a) (n := n) (f := s) (ha.at hw) (rsO hw)) ?_
      rintro _ w' ⟨see, rfl, hk⟩
      replace hw := hw.call1 hk
      clear hk
      refine ⟨.tuple #[see, .nilIface], by rw [hRR]; rfl, ?_⟩
      rw [hRR] at hw
      simp only at hw
      repeat (first | refine vc_seq ?_ | refine thn_normal ?_ | refine vc_region ?_ | refine ops_nil ?_ | refine go_pure ?_ | refine go_read ?_ | refine vc_block ?_ | refine blk_normal ?_ | refine vc_skip ?_ | refine vc_exit ?_ | refine vc_ret ?_ | refine thn_exit ?_ | refine thn_ret ?_ | refine blk_ret ?_ | refine blk_exit ?_ | refine go_exit_ne ?_ | refine go_condT ?_ | refine go_condF ?_ | refine opsD_op ?_ | refine opsD_nil ?_ | refine go_chk ?_ | refine go_gchk ?_ | refine opsT_lin ?_ | refine opsT_step ?_ | refine go_gt ?_ | refine go_gf ?_ | refine go_gpure ?_ | refine go_gread ?_ | refine go_build1 ?_ | refine go_build2 ?_ | refine go_build3 ?_ | ((first | refine go_alloc ?_ | refine go_box ?_); clear hw; intro p w hw) | ((first | refine go_stBoxAgg ?_ | refine go_stElem ?_ | refine go_stBox0 ?_ | refine go_stBox ?_ | refine go_draw ?_); clear hw; intro w hw) | ((first | refine go_makeI ?_ | refine go_makeB ?_ | refine go_makeS ?_ | refine go_sl1I ?_ | refine go_sl1V ?_ | refine go_append ?_); clear hw; intro s w hw))
      have hdz : (d.map (encF 1125899906842624)).getD src.toNat tInt.dflt = 0 := by
        rcases node_cases T hfin hs0 hs1 with ⟨_, x, hx, he, _⟩ | ⟨_, hx, _⟩
        · rw [T.zero] at hx; cases hx; exact he
        · rw [T.zero] at hx; cases hx
      refine go_if (fun h3 => ?_) (fun h3 => ?_)
      · exfalso; omega
      · clear h3
        repeat (first | refine vc_seq ?_ | refine thn_normal ?_ | refine vc_region ?_ | refine ops_nil ?_ | refine go_pure ?_ | refine go_read ?_ | refine vc_block ?_ | refine blk_normal ?_ | refine vc_skip ?_ | refine vc_exit ?_ | refine vc_ret ?_ | refine thn_exit ?_ | refine thn_ret ?_ | refine blk_ret ?_ | refine blk_exit ?_ | refine go_exit_ne ?_ | refine go_condT ?_ | refine go_condF ?_ | refine opsD_op ?_ | refine opsD_nil ?_ | refine go_chk ?_ | refine go_gchk ?_ | refine opsT_lin ?_ | refine opsT_step ?_ | refine go_gt ?_ | refine go_gf ?_ | refine go_gpure ?_ | refine go_gread ?_ | refine go_build1 ?_ | refine go_build2 ?_ | refine go_build3 ?_ | ((first | refine go_alloc ?_ | refine go_box ?_); clear hw; intro p w hw) | ((first | refine go_stBoxAgg ?_ | refine go_stElem ?_ | refine go_stBox0 ?_ | refine go_stBox ?_ | refine go_draw ?_); clear hw; intro w hw) | ((first | refine go_makeI ?_ | refine go_makeB ?_ | refine go_makeS ?_ | refine go_sl1I ?_ | refine go_sl1V ?_ | refine go_append ?_); clear hw; intro s w hw))
        have hl0 : (List.replicate n.toNat false).length = n.toNat := by simp
        repeat (first | refine vc_seq ?_ | refine thn_normal ?_ | refine vc_region ?_ | refine ops_nil ?_ | refine go_pure ?_ | refine go_read ?_ | refine vc_block ?_ | refine blk_normal ?_ | refine vc_skip ?_ | refine vc_exit ?_ | refine vc_ret ?_ | refine thn_exit ?_ | refine thn_ret ?_ | refine blk_ret ?_ | refine blk_exit ?_ | refine go_exit_ne ?_ | refine go_condT ?_ | refine go_condF ?_ | refine opsD_op ?_ | refine opsD_nil ?_ | refine go_chk ?_ | refine go_gchk ?_ | refine opsT_lin ?_ | refine opsT_step ?_ | refine go_gt ?_ | refine go_gf ?_ | refine go_gpure ?_ | refine go_gread ?_ | refine go_build1 ?_ | refine go_build2 ?_ | refine go_build3 ?_ | ((first | refine go_alloc ?_ | refine go_box ?_); clear hw; intro p w hw) | ((first | refine go_stBoxAgg ?_ | refine go_stElem ?_ | refine go_stBox0 ?_ | refine go_stBox ?_ | refine go_draw ?_); clear hw; intro w hw) | ((first | refine go_makeI ?_ | refine go_makeB ?_ | refine go_makeS ?_ | refine go_sl1I ?_ | refine go_sl1V ?_ | refine go_append ?_); clear hw; intro s w hw))
        have hsl : src.toNat < (List.replicate n.toNat false).length := by omega
        refine vc_loop2 [4, 13, 101, 102, 103, 104, 105, 106, 107, 108, 109, 110, 111, 112, 113, 114, 115, 116, 117, 118, 119, 120, 121, 122, 123, 124, 125, 126, 127, 128, 129, 130, 131, 132, 133, 134, 135, 136, 137, 138, 139, 140, 141, 142, 143, 144, 145, 146, 147, 148, 149, 150, 151] (G := Nat) (H := List Bool) (fun k tl => [(101, .int .i64 k)]) (fun k tl w => k ≤ arcs.length ∧ tl.length = n.toNat ∧ sb tl src = true ∧ (∀ i, i < k → ∀ x, gd d (arcs.getD i tArc.dflt).src = some x → gd d (arcs.getD i tArc.dflt).dst = some (x + (arcs.getD i tArc.dflt).wt) → sb tl (arcs.getD i tArc.dflt).dst = true) ∧ Sat w0 w [OS tBool 4 s tl, OS tBool 4 see (reachL n arcs [src]), OS tInt 3 got (d.map (encF 1125899906842624)), Box p 24 [.int .i64 n, a]]) (fun k tl => arcs.length - k) 0 _ (fun _ _ => rfl) ⟨rfl, trivial⟩ ⟨Nat.zero_le _, by simp, (sb_set hsl).2 (.inl rfl), (fun i hi => absurd hi (Nat.not_lt_zero _)), ?_⟩ ?_
        · exact (hw.focus 2 rfl).tail
        clear hw
        rintro σ k tl w ⟨hk, htl, hts, htd, hw⟩
        repeat (first | refine vc_seq ?_ | refine thn_normal ?_ | refine vc_region ?_ | refine ops_nil ?_ | refine go_pure ?_ | refine go_read ?_ | refine vc_block ?_ | refine blk_normal ?_ | refine vc_skip ?_ | refine vc_exit ?_ | refine vc_ret ?_ | refine thn_exit ?_ | refine thn_ret ?_ | refine blk_ret ?_ | refine blk_exit ?_ | refine go_exit_ne ?_ | refine go_condT ?_ | refine go_condF ?_ | refine opsD_op ?_ | refine opsD_nil ?_ | refine go_chk ?_ | refine go_gchk ?_ | refine opsT_lin ?_ | refine opsT_step ?_ | refine go_gt ?_ | refine go_gf ?_ | refine go_gpure ?_ | refine go_gread ?_ | refine go_build1 ?_ | refine go_build2 ?_ | refine go_build3 ?_ | ((first | refine go_alloc ?_ | refine go_box ?_); clear hw; intro p w hw) | ((first | refine go_stBoxAgg ?_ | refine go_stElem ?_ | refine go_stBox0 ?_ | refine go_stBox ?_ | refine go_draw ?_); clear hw; intro w hw) | ((first | refine go_makeI ?_ | refine go_makeB ?_ | refine go_makeS ?_ | refine go_sl1I ?_ | refine go_sl1V ?_ | refine go_append ?_); clear hw; intro s w hw))
        refine go_if (fun h4 => ?_) (fun h4 => ?_)
        · have hmem := mem_getD tArc.dflt (show k < arcs.length by omega)
          have hak := harcs _ hmem
          unfold arcOk at hak
          have hx1 : -1125899906842624 ≤ (d.map (encF 1125899906842624)).getD (arcs.getD k tArc.dflt).src.toNat tInt.dflt ∧ (d.map (encF 1125899906842624)).getD (arcs.getD k tArc.dflt).src.toNat tInt.dflt ≤ 1125899906842624 := by
            rcases node_cases T hfin hak.1 hak.2.1 with ⟨_, x, _, he, _⟩ | ⟨_, _, he⟩ <;> omega
          repeat (first | refine vc_seq ?_ | refine thn_normal ?_ | refine vc_region ?_ | refine ops_nil ?_ | refine go_pure ?_ | refine go_read ?_ | refine vc_block ?_ | refine blk_normal ?_ | refine vc_skip ?_ | refine vc_exit ?_ | refine vc_ret ?_ | refine thn_exit ?_ | refine thn_ret ?_ | refine blk_ret ?_ | refine blk_exit ?_ | refine go_exit_ne ?_ | refine go_condT ?_ | refine go_condF ?_ | refine opsD_op ?_ | refine opsD_nil ?_ | refine go_chk ?_ | refine go_gchk ?_ | refine opsT_lin ?_ | refine opsT_step ?_ | refine go_gt ?_ | refine go_gf ?_ | refine go_gpure ?_ | refine go_gread ?_ | refine go_build1 ?_ | refine go_build2 ?_ | refine go_build3 ?_ | ((first | refine go_alloc ?_ | refine go_box ?_); clear hw; intro p w hw) | ((first | refine go_stBoxAgg ?_ | refine go_stElem ?_ | refine go_stBox0 ?_ | refine go_stBox ?_ | refine go_draw ?_); clear hw; intro w hw) | ((first | refine go_makeI ?_ | refine go_makeB ?_ | refine go_makeS ?_ | refine go_sl1I ?_ | refine go_sl1V ?_ | refine go_append ?_); clear hw; intro s w hw))
          refine go_if (fun h5 => ?_) (fun h5 => ?_)
          · exfalso
            obtain ⟨h5a, h5b⟩ := h5
            rcases node_cases T hfin hak.1 hak.2.1 with ⟨_, x, hx, he, _⟩ | ⟨hf, _⟩
            · obtain ⟨y, hy, hyx⟩ := T.rest _ hmem x hx
              rcases node_cases T hfin hak.2.2.1 hak.2.2.2.1 with ⟨_, y', hy', he', _⟩ | ⟨_, hy', _⟩
              · rw [hy] at hy'; cases hy'; omega
              · rw [hy] at hy'; cases hy'
            · rw [hf] at h5a; cases h5a
          · clear h5
            repeat (first | refine vc_seq ?_ | refine thn_normal ?_ | refine vc_region ?_ | refine ops_nil ?_ | refine go_pure ?_ | refine go_read ?_ | refine vc_block ?_ | refine blk_normal ?_ | refine vc_skip ?_ | refine vc_exit ?_ | refine vc_ret ?_ | refine thn_exit ?_ | refine thn_ret ?_ | refine blk_ret ?_ | refine blk_exit ?_ | refine go_exit_ne ?_ | refine go_condT ?_ | refine go_condF ?_ | refine opsD_op ?_ | refine opsD_nil ?_ | refine go_chk ?_ | refine go_gchk ?_ | refine opsT_lin ?_ | refine opsT_step ?_ | refine go_gt ?_ | refine go_gf ?_ | refine go_gpure ?_ | refine go_gread ?_ | refine go_build1 ?_ | refine go_build2 ?_ | refine go_build3 ?_ | ((first | refine go_alloc ?_ | refine go_box ?_); clear hw; intro p w hw) | ((first | refine go_stBoxAgg ?_ | refine go_stElem ?_ | refine go_stBox0 ?_ | refine go_stBox ?_ | refine go_draw ?_); clear hw; intro w hw) | ((first | refine go_makeI ?_ | refine go_makeB ?_ | refine go_makeS ?_ | refine go_sl1I ?_ | refine go_sl1V ?_ | refine go_append ?_); clear hw; intro s w hw))
            refine go_if (fun h6 => ?_) (fun h6 => ?_)
            · repeat (first | refine vc_seq ?_ | refine thn_normal ?_ | refine vc_region ?_ | refine ops_nil ?_ | refine go_pure ?_ | refine go_read ?_ | refine vc_block ?_ | refine blk_normal ?_ | refine vc_skip ?_ | refine vc_exit ?_ | refine vc_ret ?_ | refine thn_exit ?_ | refine thn_ret ?_ | refine blk_ret ?_ | refine blk_exit ?_ | refine go_exit_ne ?_ | refine go_condT ?_ | refine go_condF ?_ | refine opsD_op ?_ | refine opsD_nil ?_ | refine go_chk ?_ | refine go_gchk ?_ | refine opsT_lin ?_ | refine opsT_step ?_ | refine go_gt ?_ | refine go_gf ?_ | refine go_gpure ?_ | refine go_gread ?_ | refine go_build1 ?_ | refine go_build2 ?_ | refine go_build3 ?_ | ((first | refine go_alloc ?_ | refine go_box ?_); clear hw; intro p w hw) | ((first | refine go_stBoxAgg ?_ | refine go_stElem ?_ | refine go_stBox0 ?_ | refine go_stBox ?_ | refine go_draw ?_); clear hw; intro w hw) | ((first | refine go_makeI ?_ | refine go_makeB ?_ | refine go_makeS ?_ | refine go_sl1I ?_ | refine go_sl1V ?_ | refine go_append ?_); clear hw; intro s w hw))
              have hvl : (arcs.getD k tArc.dflt).dst.toNat < tl.length := by omega
              refine ⟨k + 1, _, ⟨rfl, trivial⟩, by repeat (first | exact agree_refl | (apply agree_upd rfl) | (apply agree_mix rfl) | (apply agree_sets rfl)), ⟨by omega, by simpa using htl, (sb_set hvl).2 (.inr hts), fun i hi x hx hy => ?_, hw.tail⟩, by omega⟩
              by_cases h : i = k
              · subst h; exact (sb_set hvl).2 (.inl rfl)
              · exact (sb_set hvl).2 (.inr (htd i (by omega) x hx hy))
            · repeat (first | refine vc_seq ?_ | refine thn_normal ?_ | refine vc_region ?_ | refine ops_nil ?_ | refine go_pure ?_ | refine go_read ?_ | refine vc_block ?_ | refine blk_normal ?_ | refine vc_skip ?_ | refine vc_exit ?_ | refine vc_ret ?_ | refine thn_exit ?_ | refine thn_ret ?_ | refine blk_ret ?_ | refine blk_exit ?_ | refine go_exit_ne ?_ | refine go_condT ?_ | refine go_condF ?_ | refine opsD_op ?_ | refine opsD_nil ?_ | refine go_chk ?_ | refine go_gchk ?_ | refine opsT_lin ?_ | refine opsT_step ?_ | refine go_gt ?_ | refine go_gf ?_ | refine go_gpure ?_ | refine go_gread ?_ | refine go_build1 ?_ | refine go_build2 ?_ | refine go_build3 ?_ | ((first | refine go_alloc ?_ | refine go_box ?_); clear hw; intro p w hw) | ((first | refine go_stBoxAgg ?_ | refine go_stElem ?_ | refine go_stBox0 ?_ | refine go_stBox ?_ | refine go_draw ?_); clear hw; intro w hw) | ((first | refine go_makeI ?_ | refine go_makeB ?_ | refine go_makeS ?_ | refine go_sl1I ?_ | refine go_sl1V ?_ | refine go_append ?_); clear hw; intro s w hw))
              refine ⟨k + 1, tl, ⟨rfl, trivial⟩, by repeat (first | exact agree_refl | (apply agree_upd rfl) | (apply agree_mix rfl) | (apply agree_sets rfl)), ⟨by omega, htl, hts, fun i hi x hx hy => ?_, hw.tail⟩, by omega⟩
              by_cases h : i = k
              · subst h
                exfalso
                rcases node_cases T hfin hak.1 hak.2.1 with ⟨ht, x', hx', he, _⟩ | ⟨_, hx', _⟩
                · rw [hx] at hx'; cases hx'
                  rcases node_cases T hfin hak.2.2.1 hak.2.2.2.1 with ⟨_, y', hy', he', _⟩ | ⟨_, hy', _⟩
                  · rw [hy] at hy'; cases hy'
                    rcases h6 with h6 | h6
                    · rw [ht] at h6; cases h6
                    · omega
                  · rw [hy] at hy'; cases hy'
                · rw [hx] at hx'; cases hx'
              · exact htd i (by omega) x hx hy
        · repeat (first | refine vc_seq ?_ | refine thn_normal ?_ | refine vc_region ?_ | refine ops_nil ?_ | refine go_pure ?_ | refine go_read ?_ | refine vc_block ?_ | refine blk_normal ?_ | refine vc_skip ?_ | refine vc_exit ?_ | refine vc_ret ?_ | refine thn_exit ?_ | refine thn_ret ?_ | refine blk_ret ?_ | refine blk_exit ?_ | refine go_exit_ne ?_ | refine go_condT ?_ | refine go_condF ?_ | refine opsD_op ?_ | refine opsD_nil ?_ | refine go_chk ?_ | refine go_gchk ?_ | refine opsT_lin ?_ | refine opsT_step ?_ | refine go_gt ?_ | refine go_gf ?_ | refine go_gpure ?_ | refine go_gread ?_ | refine go_build1 ?_ | refine go_build2 ?_ | refine go_build3 ?_ | ((first | refine go_alloc ?_ | refine go_box ?_); clear hw; intro p w hw) | ((first | refine go_stBoxAgg ?_ | refine go_stElem ?_ | refine go_stBox0 ?_ | refine go_stBox ?_ | refine go_draw ?_); clear hw; intro w hw) | ((first | refine go_makeI ?_ | refine go_makeB ?_ | refine go_makeS ?_ | refine go_sl1I ?_ | refine go_sl1V ?_ | refine go_append ?_); clear hw; intro s w hw))
          refine vc_loop [4, 14, 154, 155, 156, 157, 158, 159, 160, 161, 162, 163, 164, 165, 166, 167, 168, 169, 170, 171, 172, 173, 174, 175, 176, 177, 178, 179, 180] (G := Nat) (fun v => [(154, .int .i64 v)]) (fun v w => v ≤ n.toNat ∧ Sat w0 w [OS tBool 4 s tl, OS tBool 4 see (reachL n arcs [src]), OS tInt 3 got (d.map (encF 1125899906842624)), Box p 24 [.int .i64 n, a]]) (fun v => n.toNat - v) 0 (fun _ => rfl) ⟨rfl, trivial⟩ ⟨Nat.zero_le _, hw⟩ ?_
          clear hw
          rintro σ1 v w ⟨hv, hw⟩
          repeat (first | refine vc_seq ?_ | refine thn_normal ?_ | refine vc_region ?_ | refine ops_nil ?_ | refine go_pure ?_ | refine go_read ?_ | refine vc_block ?_ | refine blk_normal ?_ | refine vc_skip ?_ | refine vc_exit ?_ | refine vc_ret ?_ | refine thn_exit ?_ | refine thn_ret ?_ | refine blk_ret ?_ | refine blk_exit ?_ | refine go_exit_ne ?_ | refine go_condT ?_ | refine go_condF ?_ | refine opsD_op ?_ | refine opsD_nil ?_ | refine go_chk ?_ | refine go_gchk ?_ | refine opsT_lin ?_ | refine opsT_step ?_ | refine go_gt ?_ | refine go_gf ?_ | refine go_gpure ?_ | refine go_gread ?_ | refine go_build1 ?_ | refine go_build2 ?_ | refine go_build3 ?_ | ((first | refine go_alloc ?_ | refine go_box ?_); clear hw; intro p w hw) | ((first | refine go_stBoxAgg ?_ | refine go_stElem ?_ | refine go_stBox0 ?_ | refine go_stBox ?_ | refine go_draw ?_); clear hw; intro w hw) | ((first | refine go_makeI ?_ | refine go_makeB ?_ | refine go_makeS ?_ | refine go_sl1I ?_ | refine go_sl1V ?_ | refine go_append ?_); clear hw; intro s w hw))
          refine go_if (fun h7 => ?_) (fun h7 => ?_)
          · repeat (first | refine vc_seq ?_ | refine thn_normal ?_ | refine vc_region ?_ | refine ops_nil ?_ | refine go_pure ?_ | refine go_read ?_ | refine vc_block ?_ | refine blk_normal ?_ | refine vc_skip ?_ | refine vc_exit ?_ | refine vc_ret ?_ | refine thn_exit ?_ | refine thn_ret ?_ | refine blk_ret ?_ | refine blk_exit ?_ | refine go_exit_ne ?_ | refine go_condT ?_ | refine go_condF ?_ | refine opsD_op ?_ | refine opsD_nil ?_ | refine go_chk ?_ | refine go_gchk ?_ | refine opsT_lin ?_ | refine opsT_step ?_ | refine go_gt ?_ | refine go_gf ?_ | refine go_gpure ?_ | refine go_gread ?_ | refine go_build1 ?_ | refine go_build2 ?_ | refine go_build3 ?_ | ((first | refine go_alloc ?_ | refine go_box ?_); clear hw; intro p w hw) | ((first | refine go_stBoxAgg ?_ | refine go_stElem ?_ | refine go_stBox0 ?_ | refine go_stBox ?_ | refine go_draw ?_); clear hw; intro w hw) | ((first | refine go_makeI ?_ | refine go_makeB ?_ | refine go_makeS ?_ | refine go_sl1I ?_ | refine go_sl1V ?_ | refine go_append ?_); clear hw; intro s w hw))
            refine go_if (fun h8 => ?_) (fun h8 => ?_)
            · exfalso
              have hvn : ((v : Int).toNat) = v := by simp
              rcases node_cases T hfin (v := (v : Int)) (by omega) (by omega) with ⟨ht, x, hx, he, hb⟩ | ⟨hf, hx, he⟩
              · rw [hvn] at ht he
                have : sb tl v = true := by
                  by_cases hvs : (v : Int) = src
                  · rw [hvs]; exact hts
                  · obtain ⟨ar, har, hdst, y, hy, hxy⟩ := T.tight v x (by omega) (by omega) hvs hx
                    obtain ⟨i, hi, rfl⟩ := List.getElem_of_mem har
                    have hq := htd i (by omega) y (by rw [getD_at hi]; exact hy) (by rw [getD_at hi, hdst, hx, hxy])
                    rwa [getD_at hi, hdst] at hq
                have hne : x ≠ 1125899906842624 := by omega
                have hsb : tl.getD v tBool.dflt = true := by
                  have h := this
                  simp only [sb, hvn] at h
                  exact h
                rw [ht, he, hsb] at h8
                simp [hne] at h8
              · rw [hvn] at hf he
                rw [hf, he] at h8
                simp at h8
            · clear h8
              repeat (first | refine vc_seq ?_ | refine thn_normal ?_ | refine vc_region ?_ | refine ops_nil ?_ | refine go_pure ?_ | refine go_read ?_ | refine vc_block ?_ | refine blk_normal ?_ | refine vc_skip ?_ | refine vc_exit ?_ | refine vc_ret ?_ | refine thn_exit ?_ | refine thn_ret ?_ | refine blk_ret ?_ | refine blk_exit ?_ | refine go_exit_ne ?_ | refine go_condT ?_ | refine go_condF ?_ | refine opsD_op ?_ | refine opsD_nil ?_ | refine go_chk ?_ | refine go_gchk ?_ | refine opsT_lin ?_ | refine opsT_step ?_ | refine go_gt ?_ | refine go_gf ?_ | refine go_gpure ?_ | refine go_gread ?_ | refine go_build1 ?_ | refine go_build2 ?_ | refine go_build3 ?_ | ((first | refine go_alloc ?_ | refine go_box ?_); clear hw; intro p w hw) | ((first | refine go_stBoxAgg ?_ | refine go_stElem ?_ | refine go_stBox0 ?_ | refine go_stBox ?_ | refine go_draw ?_); clear hw; intro w hw) | ((first | refine go_makeI ?_ | refine go_makeB ?_ | refine go_makeS ?_ | refine go_sl1I ?_ | refine go_sl1V ?_ | refine go_append ?_); clear hw; intro s w hw))
              exact ⟨v + 1, ⟨rfl, trivial⟩, by repeat (first | exact agree_refl | (apply agree_upd rfl) | (apply agree_mix rfl) | (apply agree_sets rfl)), ⟨by omega, hw⟩, by omega⟩
          · repeat (first | refine vc_seq ?_ | refine thn_normal ?_ | refine vc_region ?_ | refine ops_nil ?_ | refine go_pure ?_ | refine go_read ?_ | refine vc_block ?_ | refine blk_normal ?_ | refine vc_skip ?_ | refine vc_exit ?_ | refine vc_ret ?_ | refine thn_exit ?_ | refine thn_ret ?_ | refine blk_ret ?_ | refine blk_exit ?_ | refine go_exit_ne ?_ | refine go_condT ?_ | refine go_condF ?_ | refine opsD_op ?_ | refine opsD_nil ?_ | refine go_chk ?_ | refine go_gchk ?_ | refine opsT_lin ?_ | refine opsT_step ?_ | refine go_gt ?_ | refine go_gf ?_ | refine go_gpure ?_ | refine go_gread ?_ | refine go_build1 ?_ | refine go_build2 ?_ | refine go_build3 ?_ | ((first | refine go_alloc ?_ | refine go_box ?_); clear hw; intro p w hw) | ((first | refine go_stBoxAgg ?_ | refine go_stElem ?_ | refine go_stBox0 ?_ | refine go_stBox ?_ | refine go_draw ?_); clear hw; intro w hw) | ((first | refine go_makeI ?_ | refine go_makeB ?_ | refine go_makeS ?_ | refine go_sl1I ?_ | refine go_sl1V ?_ | refine go_append ?_); clear hw; intro s w hw))
            exact res_one (v := .bool true) rfl rfl ⟨rfl, hw.tail.tail.tail.tail⟩
    · have herr := shortR_err hz
      refine ⟨.tuple #[got, .iface 47 (.int .i64 (shortR n arcs src n.toNat).1)], by rw [errV_some hz], ?_⟩
      rw [herr] at hw
      repeat (first | refine vc_seq ?_ | refine thn_normal ?_ | refine vc_region ?_ | refine ops_nil ?_ | refine go_pure ?_ | refine go_read ?_ | refine vc_block ?_ | refine blk_normal ?_ | refine vc_skip ?_ | refine vc_exit ?_ | refine vc_ret ?_ | refine thn_exit ?_ | refine thn_ret ?_ | refine blk_ret ?_ | refine blk_exit ?_ | refine go_exit_ne ?_ | refine go_condT ?_ | refine go_condF ?_ | refine opsD_op ?_ | refine opsD_nil ?_ | refine go_chk ?_ | refine go_gchk ?_ | refine opsT_lin ?_ | refine opsT_step ?_ | refine go_gt ?_ | refine go_gf ?_ | refine go_gpure ?_ | refine go_gread ?_ | refine go_build1 ?_ | refine go_build2 ?_ | refine go_build3 ?_ | ((first | refine go_alloc ?_ | refine go_box ?_); clear hw; intro p w hw) | ((first | refine go_stBoxAgg ?_ | refine go_stElem ?_ | refine go_stBox0 ?_ | refine go_stBox ?_ | refine go_draw ?_); clear hw; intro w hw) | ((first | refine go_makeI ?_ | refine go_makeB ?_ | refine go_makeS ?_ | refine go_sl1I ?_ | refine go_sl1V ?_ | refine go_append ?_); clear hw; intro s w hw))
      refine vc_loop2 [7, 9, 37, 38, 39, 40, 41, 42, 43, 44, 45, 46, 47] (G := Nat) (H := Bool) (fun k b => [(37, .int .i64 k), (7, .bool b)]) (fun k b w => k ≤ arcs.length ∧ (b = false → ∀ i, i < k → 0 ≤ (arcs.getD i tArc.dflt).wt) ∧ Sat w0 w [OS tInt 3 got [], Box p 24 [.int .i64 n, a]]) (fun k b => arcs.length - k) 0 false (fun _ _ => rfl) ⟨rfl, rfl, trivial⟩ ⟨Nat.zero_le _, (fun _ i hi => absurd hi (Nat.not_lt_zero _)), hw⟩ ?_
      clear hw
      rintro σ k b w ⟨hk, hneg, hw⟩
      repeat (first | refine vc_seq ?_ | refine thn_normal ?_ | refine vc_region ?_ | refine ops_nil ?_ | refine go_pure ?_ | refine go_read ?_ | refine vc_block ?_ | refine blk_normal ?_ | refine vc_skip ?_ | refine vc_exit ?_ | refine vc_ret ?_ | refine thn_exit ?_ | refine thn_ret ?_ | refine blk_ret ?_ | refine blk_exit ?_ | refine go_exit_ne ?_ | refine go_condT ?_ | refine go_condF ?_ | refine opsD_op ?_ | refine opsD_nil ?_ | refine go_chk ?_ | refine go_gchk ?_ | refine opsT_lin ?_ | refine opsT_step ?_ | refine go_gt ?_ | refine go_gf ?_ | refine go_gpure ?_ | refine go_gread ?_ | refine go_build1 ?_ | refine go_build2 ?_ | refine go_build3 ?_ | ((first | refine go_alloc ?_ | refine go_box ?_); clear hw; intro p w hw) | ((first | refine go_stBoxAgg ?_ | refine go_stElem ?_ | refine go_stBox0 ?_ | refine go_stBox ?_ | refine go_draw ?_); clear hw; intro w hw) | ((first | refine go_makeI ?_ | refine go_makeB ?_ | refine go_makeS ?_ | refine go_sl1I ?_ | refine go_sl1V ?_ | refine go_append ?_); clear hw; intro s w hw))
      refine go_if (fun h2 => ?_) (fun h2 => ?_)
      · repeat (first | refine vc_seq ?_ | refine thn_normal ?_ | refine vc_region ?_ | refine ops_nil ?_ | refine go_pure ?_ | refine go_read ?_ | refine vc_block ?_ | refine blk_normal ?_ | refine vc_skip ?_ | refine vc_exit ?_ | refine vc_ret ?_ | refine thn_exit ?_ | refine thn_ret ?_ | refine blk_ret ?_ | refine blk_exit ?_ | refine go_exit_ne ?_ | refine go_condT ?_ | refine go_condF ?_ | refine opsD_op ?_ | refine opsD_nil ?_ | refine go_chk ?_ | refine go_gchk ?_ | refine opsT_lin ?_ | refine opsT_step ?_ | refine go_gt ?_ | refine go_gf ?_ | refine go_gpure ?_ | refine go_gread ?_ | refine go_build1 ?_ | refine go_build2 ?_ | refine go_build3 ?_ | ((first | refine go_alloc ?_ | refine go_box ?_); clear hw; intro p w hw) | ((first | refine go_stBoxAgg ?_ | refine go_stElem ?_ | refine go_stBox0 ?_ | refine go_stBox ?_ | refine go_draw ?_); clear hw; intro w hw) | ((first | refine go_makeI ?_ | refine go_makeB ?_ | refine go_makeS ?_ | refine go_sl1I ?_ | refine go_sl1V ?_ | refine go_append ?_); clear hw; intro s w hw))
        refine ⟨k + 1, _, ⟨rfl, rfl, trivial⟩, by repeat (first | exact agree_refl | (apply agree_upd rfl) | (apply agree_mix rfl) | (apply agree_sets rfl)), ⟨by omega, fun hb i hi => ?_, hw.tail⟩, by omega⟩
        simp only [Bool.or_eq_false_iff, decide_eq_false_iff_not] at hb
        by_cases h : i = k
        · subst h; omega
        · exact hneg hb.1 i (by omega)
      · cases b with
        | true =>
          repeat (first | refine vc_seq ?_ | refine thn_normal ?_ | refine vc_region ?_ | refine ops_nil ?_ | refine go_pure ?_ | refine go_read ?_ | refine vc_block ?_ | refine blk_normal ?_ | refine vc_skip ?_ | refine vc_exit ?_ | refine vc_ret ?_ | refine thn_exit ?_ | refine thn_ret ?_ | refine blk_ret ?_ | refine blk_exit ?_ | refine go_exit_ne ?_ | refine go_condT ?_ | refine go_condF ?_ | refine opsD_op ?_ | refine opsD_nil ?_ | refine go_chk ?_ | refine go_gchk ?_ | refine opsT_lin ?_ | refine opsT_step ?_ | refine go_gt ?_ | refine go_gf ?_ | refine go_gpure ?_ | refine go_gread ?_ | refine go_build1 ?_ | refine go_build2 ?_ | refine go_build3 ?_ | ((first | refine go_alloc ?_ | refine go_box ?_); clear hw; intro p w hw) | ((first | refine go_stBoxAgg ?_ | refine go_stElem ?_ | refine go_stBox0 ?_ | refine go_stBox ?_ | refine go_draw ?_); clear hw; intro w hw) | ((first | refine go_makeI ?_ | refine go_makeB ?_ | refine go_makeS ?_ | refine go_sl1I ?_ | refine go_sl1V ?_ | refine go_append ?_); clear hw; intro s w hw))
          exact res_one (v := .bool true) rfl rfl ⟨rfl, hw.tail.tail⟩
        | false =>
          have h21 := shortR_21 (n := n) (arcs := arcs) (src := src) (fun ar har => by
            obtain ⟨i, hi, rfl⟩ := List.getElem_of_mem har
            have := hneg rfl i (by omega)
            rwa [getD_at hi] at this)
          repeat (first | refine vc_seq ?_ | refine thn_normal ?_ | refine vc_region ?_ | refine ops_nil ?_ | refine go_pure ?_ | refine go_read ?_ | refine vc_block ?_ | refine blk_normal ?_ | refine vc_skip ?_ | refine vc_exit ?_ | refine vc_ret ?_ | refine thn_exit ?_ | refine thn_ret ?_ | refine blk_ret ?_ | refine blk_exit ?_ | refine go_exit_ne ?_ | refine go_condT ?_ | refine go_condF ?_ | refine opsD_op ?_ | refine opsD_nil ?_ | refine go_chk ?_ | refine go_gchk ?_ | refine opsT_lin ?_ | refine opsT_step ?_ | refine go_gt ?_ | refine go_gf ?_ | refine go_gpure ?_ | refine go_gread ?_ | refine go_build1 ?_ | refine go_build2 ?_ | refine go_build3 ?_ | ((first | refine go_alloc ?_ | refine go_box ?_); clear hw; intro p w hw) | ((first | refine go_stBoxAgg ?_ | refine go_stElem ?_ | refine go_stBox0 ?_ | refine go_stBox ?_ | refine go_draw ?_); clear hw; intro w hw) | ((first | refine go_makeI ?_ | refine go_makeB ?_ | refine go_makeS ?_ | refine go_sl1I ?_ | refine go_sl1V ?_ | refine go_append ?_); clear hw; intro s w hw))
          refine st_call rfl (errV_some hz ▸ Is_spec (shortR n arcs src n.toNat).1 21) ?_
          rintro _ w' ⟨rfl, hk⟩
          replace hw := hw.call0 hk
          clear hk
          refine ⟨.bool false, by simp [h21], ?_⟩
          repeat (first | refine vc_seq ?_ | refine thn_normal ?_ | refine vc_region ?_ | refine ops_nil ?_ | refine go_pure ?_ | refine go_read ?_ | refine vc_block ?_ | refine blk_normal ?_ | refine vc_skip ?_ | refine vc_exit ?_ | refine vc_ret ?_ | refine thn_exit ?_ | refine thn_ret ?_ | refine blk_ret ?_ | refine blk_exit ?_ | refine go_exit_ne ?_ | refine go_condT ?_ | refine go_condF ?_ | refine opsD_op ?_ | refine opsD_nil ?_ | refine go_chk ?_ | refine go_gchk ?_ | refine opsT_lin ?_ | refine opsT_step ?_ | refine go_gt ?_ | refine go_gf ?_ | refine go_gpure ?_ | refine go_gread ?_ | refine go_build1 ?_ | refine go_build2 ?_ | refine go_build3 ?_ | ((first | refine go_alloc ?_ | refine go_box ?_); clear hw; intro p w hw) | ((first | refine go_stBoxAgg ?_ | refine go_stElem ?_ | refine go_stBox0 ?_ | refine go_stBox ?_ | refine go_draw ?_); clear hw; intro w hw) | ((first | refine go_makeI ?_ | refine go_makeB ?_ | refine go_makeS ?_ | refine go_sl1I ?_ | refine go_sl1V ?_ | refine go_append ?_); clear hw; intro s w hw))
          exact res_one (v := .bool true) rfl rfl ⟨rfl, hw.tail.tail⟩
end Go.Proofs.Ytlfhflgafeblnaa
