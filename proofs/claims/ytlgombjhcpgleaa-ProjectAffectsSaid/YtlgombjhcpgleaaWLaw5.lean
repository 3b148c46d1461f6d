/-
  The statement 'ProjectAffects' returns true.
-/
import Derived.Test.YtlgombjhcpgleaaTLaw5
namespace Go.Proofs.Ytlgombjhcpgleaa
open Go.Sl Go
attribute [local irreducible] vc opsW opsD opV opW PureV ReadV Thn Blk

set_option maxRecDepth 8000 in
set_option maxHeartbeats 400000 in
theorem ProjectAffects_walk {w0 : World} {a b c d : Value} {vs : List OpV} {t : TTask} {bits : Int} (ht : RTask w0 a b c d vs t) :
    Calls Try.prog 7 #[.agg #[a, b, c, d], .int .u16 bits] w0 fun e w' => e = .returned (.bool true) ∧ Sat w0 w' [] := by
  have ht' := ht
  obtain ⟨ha, hb, hc, hd⟩ := ht
  have hrs := hd.rs
  have hdl := hd.len
  have hll := hrs.big
  have hw := Sat.start w0
  refine calls_of_vc (args := [.agg #[a, b, c, d], .int .u16 bits]) mixed Try.func7 rfl (by kernel_rfl) (Nat.le_of_ble_eq_true rfl) ?_
  repeat (first | refine vc_seq ?_ | refine thn_normal ?_ | refine vc_region ?_ | refine ops_nil ?_ | refine go_pure ?_ | refine go_read ?_ | refine vc_block ?_ | refine blk_normal ?_ | refine vc_skip ?_ | refine vc_exit ?_ | refine vc_ret ?_ | refine thn_exit ?_ | refine thn_ret ?_ | refine blk_ret ?_ | refine blk_exit ?_ | refine go_exit_ne ?_ | refine go_condT ?_ | refine go_condF ?_ | refine opsD_op ?_ | refine opsD_nil ?_ | refine go_chk ?_ | refine go_gchk ?_ | refine opsT_lin ?_ | refine opsT_step ?_ | refine go_gt ?_ | refine go_gf ?_ | refine go_gpure ?_ | refine go_gread ?_ | refine go_build1 ?_ | refine go_build2 ?_ | refine go_build3 ?_ | ((first | refine go_alloc ?_ | refine go_box ?_); clear hw; intro p w hw) | ((first | refine go_stBoxAgg ?_ | refine go_stElem ?_ | refine go_stBox0 ?_ | refine go_stBox ?_); clear hw; intro w hw) | ((first | refine go_makeI ?_ | refine go_makeB ?_ | refine go_makeS ?_ | refine go_sl1I ?_ | refine go_sl1V ?_ | refine go_append ?_); clear hw; intro s w hw))
  obtain ⟨pt, hpt⟩ : ∃ pt, pt = p := ⟨p, rfl⟩
  subst hpt
  refine vc_plan [.op 0, .op 1, .op 2, .op 3, .op 4, .op 5, .op 6, .op 7, .chk 4, .op 8, .op 9, .op 10, .op 11, .op 12, .op 13, .op 14] hw (by kernel_rfl) ?_; clear hw; intro w hw
  repeat (first | refine vc_seq ?_ | refine thn_normal ?_ | refine vc_region ?_ | refine ops_nil ?_ | refine go_pure ?_ | refine go_read ?_ | refine vc_block ?_ | refine blk_normal ?_ | refine vc_skip ?_ | refine vc_exit ?_ | refine vc_ret ?_ | refine thn_exit ?_ | refine thn_ret ?_ | refine blk_ret ?_ | refine blk_exit ?_ | refine go_exit_ne ?_ | refine go_condT ?_ | refine go_condF ?_ | refine opsD_op ?_ | refine opsD_nil ?_ | refine go_chk ?_ | refine go_gchk ?_ | refine opsT_lin ?_ | refine opsT_step ?_ | refine go_gt ?_ | refine go_gf ?_ | refine go_gpure ?_ | refine go_gread ?_ | refine go_build1 ?_ | refine go_build2 ?_ | refine go_build3 ?_ | ((first | refine go_alloc ?_ | refine go_box ?_); clear hw; intro p w hw) | ((first | refine go_stBoxAgg ?_ | refine go_stElem ?_ | refine go_stBox0 ?_ | refine go_stBox ?_); clear hw; intro w hw) | ((first | refine go_makeI ?_ | refine go_makeB ?_ | refine go_makeS ?_ | refine go_sl1I ?_ | refine go_sl1V ?_ | refine go_append ?_); clear hw; intro s w hw))
  refine st_call rfl (Small_spec (ht'.at hw)) ?_
  rintro _ w' ⟨⟨r, rfl, hr⟩, hk'⟩
  replace hw := hw.call0 hk'
  clear hk'
  refine ⟨_, rfl, ?_⟩
  cases r with
  | false =>
    repeat (first | refine opsD_op ?_ | refine ops_nil ?_ | refine go_pure ?_ | refine go_gf ?_)
    refine chk_off rfl rfl rfl ?_
    repeat (first | refine vc_seq ?_ | refine thn_normal ?_ | refine vc_region ?_ | refine ops_nil ?_ | refine go_pure ?_ | refine go_read ?_ | refine vc_block ?_ | refine blk_normal ?_ | refine vc_skip ?_ | refine vc_exit ?_ | refine vc_ret ?_ | refine thn_exit ?_ | refine thn_ret ?_ | refine blk_ret ?_ | refine blk_exit ?_ | refine go_exit_ne ?_ | refine go_condT ?_ | refine go_condF ?_ | refine opsD_op ?_ | refine opsD_nil ?_ | refine go_chk ?_ | refine go_gchk ?_ | refine opsT_lin ?_ | refine opsT_step ?_ | refine go_gt ?_ | refine go_gf ?_ | refine go_gpure ?_ | refine go_gread ?_ | refine go_build1 ?_ | refine go_build2 ?_ | refine go_build3 ?_ | ((first | refine go_alloc ?_ | refine go_box ?_); clear hw; intro p w hw) | ((first | refine go_stBoxAgg ?_ | refine go_stElem ?_ | refine go_stBox0 ?_ | refine go_stBox ?_); clear hw; intro w hw) | ((first | refine go_makeI ?_ | refine go_makeB ?_ | refine go_makeS ?_ | refine go_sl1I ?_ | refine go_sl1V ?_ | refine go_append ?_); clear hw; intro s w hw))
    refine st_call rfl awake_spec ?_
    rintro _ w' ⟨rfl, hk'⟩
    replace hw := hw.call0 hk'
    clear hk'
    refine ⟨_, rfl, ?_⟩
    repeat (first | refine vc_seq ?_ | refine thn_normal ?_ | refine vc_region ?_ | refine ops_nil ?_ | refine go_pure ?_ | refine go_read ?_ | refine vc_block ?_ | refine blk_normal ?_ | refine vc_skip ?_ | refine vc_exit ?_ | refine vc_ret ?_ | refine thn_exit ?_ | refine thn_ret ?_ | refine blk_ret ?_ | refine blk_exit ?_ | refine go_exit_ne ?_ | refine go_condT ?_ | refine go_condF ?_ | refine opsD_op ?_ | refine opsD_nil ?_ | refine go_chk ?_ | refine go_gchk ?_ | refine opsT_lin ?_ | refine opsT_step ?_ | refine go_gt ?_ | refine go_gf ?_ | refine go_gpure ?_ | refine go_gread ?_ | refine go_build1 ?_ | refine go_build2 ?_ | refine go_build3 ?_ | ((first | refine go_alloc ?_ | refine go_box ?_); clear hw; intro p w hw) | ((first | refine go_stBoxAgg ?_ | refine go_stElem ?_ | refine go_stBox0 ?_ | refine go_stBox ?_ | refine go_draw ?_); clear hw; intro w hw) | ((first | refine go_makeI ?_ | refine go_makeB ?_ | refine go_makeS ?_ | refine go_sl1I ?_ | refine go_sl1V ?_ | refine go_append ?_); clear hw; intro s w hw))
    exact res_one (v := .bool true) rfl rfl ⟨rfl, sat_none hw⟩
  | true =>
    have hs := hr.1 rfl
    have hV := hs.vars
    have hO := hs.ops
    have hL := chosen_inV t.vars bits
    have hB : cntL t.vars (chosenK bits t.vars.length) ≤ 1099511627776 := by have h1 := cntL_le hs.good.pos hL; have h2 := hs.many; omega
    repeat (first | refine vc_seq ?_ | refine thn_normal ?_ | refine vc_region ?_ | refine ops_nil ?_ | refine go_pure ?_ | refine go_read ?_ | refine vc_block ?_ | refine blk_normal ?_ | refine vc_skip ?_ | refine vc_exit ?_ | refine vc_ret ?_ | refine thn_exit ?_ | refine thn_ret ?_ | refine blk_ret ?_ | refine blk_exit ?_ | refine go_exit_ne ?_ | refine go_condT ?_ | refine go_condF ?_ | refine opsD_op ?_ | refine opsD_nil ?_ | refine go_chk ?_ | refine go_gchk ?_ | refine opsT_lin ?_ | refine opsT_step ?_ | refine go_gt ?_ | refine go_gf ?_ | refine go_gpure ?_ | refine go_gread ?_ | refine go_build1 ?_ | refine go_build2 ?_ | refine go_build3 ?_ | ((first | refine go_alloc ?_ | refine go_box ?_); clear hw; intro p w hw) | ((first | refine go_stBoxAgg ?_ | refine go_stElem ?_ | refine go_stBox0 ?_ | refine go_stBox ?_); clear hw; intro w hw) | ((first | refine go_makeI ?_ | refine go_makeB ?_ | refine go_makeS ?_ | refine go_sl1I ?_ | refine go_sl1V ?_ | refine go_append ?_); clear hw; intro s w hw))
    refine st_call rfl (chosen_spec (ht'.at hw) (by omega)) ?_
    rintro _ w' ⟨s0, rfl, hk'⟩
    replace hw := hw.call1 hk'
    clear hk'
    refine ⟨_, rfl, ?_⟩
    refine ops_nil ?_
    refine opsD_gchk (v := .agg (Value.agg #[a, b, c, d]).cells.toList.toArray) rfl (fun _ => ⟨by (apply rv_boxAgg; exact rfl; exact hw; infer_instance; exact rfl), rfl⟩) ?_
    repeat (first | refine opsD_op ?_ | refine ops_nil ?_ | refine go_pure ?_ | refine go_gt ?_)
    refine st_call rfl (few_spec (va := s0) (ht'.at hw) (rsO hw) hs.good.pos hL.mem hB) ?_
    rintro _ w' ⟨rfl, hk'⟩
    replace hw := hw.call0 hk'
    clear hk'
    by_cases hf : cntL t.vars (chosenK bits t.vars.length) ≤ 64
    · rw [decide_eq_true hf]
      refine ⟨_, rfl, ?_⟩
      repeat (first | refine vc_seq ?_ | refine thn_normal ?_ | refine vc_region ?_ | refine ops_nil ?_ | refine go_pure ?_ | refine go_read ?_ | refine vc_block ?_ | refine blk_normal ?_ | refine vc_skip ?_ | refine vc_exit ?_ | refine vc_ret ?_ | refine thn_exit ?_ | refine thn_ret ?_ | refine blk_ret ?_ | refine blk_exit ?_ | refine go_exit_ne ?_ | refine go_condT ?_ | refine go_condF ?_ | refine opsD_op ?_ | refine opsD_nil ?_ | refine go_chk ?_ | refine go_gchk ?_ | refine opsT_lin ?_ | refine opsT_step ?_ | refine go_gt ?_ | refine go_gf ?_ | refine go_gpure ?_ | refine go_gread ?_ | refine go_build1 ?_ | refine go_build2 ?_ | refine go_build3 ?_ | ((first | refine go_alloc ?_ | refine go_box ?_); clear hw; intro p w hw) | ((first | refine go_stBoxAgg ?_ | refine go_stElem ?_ | refine go_stBox0 ?_ | refine go_stBox ?_); clear hw; intro w hw) | ((first | refine go_makeI ?_ | refine go_makeB ?_ | refine go_makeS ?_ | refine go_sl1I ?_ | refine go_sl1V ?_ | refine go_append ?_); clear hw; intro s w hw))
      refine st_call rfl awake_spec ?_
      rintro _ w' ⟨rfl, hk'⟩
      replace hw := hw.call0 hk'
      clear hk'
      refine ⟨_, rfl, ?_⟩
      repeat (first | refine vc_seq ?_ | refine thn_normal ?_ | refine vc_region ?_ | refine ops_nil ?_ | refine go_pure ?_ | refine go_read ?_ | refine vc_block ?_ | refine blk_normal ?_ | refine vc_skip ?_ | refine vc_exit ?_ | refine vc_ret ?_ | refine thn_exit ?_ | refine thn_ret ?_ | refine blk_ret ?_ | refine blk_exit ?_ | refine go_exit_ne ?_ | refine go_condT ?_ | refine go_condF ?_ | refine opsD_op ?_ | refine opsD_nil ?_ | refine go_chk ?_ | refine go_gchk ?_ | refine opsT_lin ?_ | refine opsT_step ?_ | refine go_gt ?_ | refine go_gf ?_ | refine go_gpure ?_ | refine go_gread ?_ | refine go_build1 ?_ | refine go_build2 ?_ | refine go_build3 ?_ | ((first | refine go_alloc ?_ | refine go_box ?_); clear hw; intro p w hw) | ((first | refine go_stBoxAgg ?_ | refine go_stElem ?_ | refine go_stBox0 ?_ | refine go_stBox ?_ | refine go_draw ?_); clear hw; intro w hw) | ((first | refine go_makeI ?_ | refine go_makeB ?_ | refine go_makeS ?_ | refine go_sl1I ?_ | refine go_sl1V ?_ | refine go_append ?_); clear hw; intro s w hw))
      refine st_call rfl (chosen_spec (ht'.at hw) (by omega)) ?_
      rintro _ w' ⟨s1, rfl, hk'⟩
      replace hw := hw.call1 hk'
      clear hk'
      refine ⟨_, rfl, ?_⟩
      have hw := hw
      obtain ⟨L, hLe⟩ : ∃ L, L = chosenK bits t.vars.length := ⟨_, rfl⟩
      rw [← hLe] at hw hL hf
      obtain ⟨he1, he2⟩ := small_err hs hL
      have hoL := (rsO (s := s1) hw).big
      repeat (first | refine vc_seq ?_ | refine thn_normal ?_ | refine vc_region ?_ | refine ops_nil ?_ | refine go_pure ?_ | refine go_read ?_ | refine vc_block ?_ | refine blk_normal ?_ | refine vc_skip ?_ | refine vc_exit ?_ | refine vc_ret ?_ | refine thn_exit ?_ | refine thn_ret ?_ | refine blk_ret ?_ | refine blk_exit ?_ | refine go_exit_ne ?_ | refine go_condT ?_ | refine go_condF ?_ | refine opsD_op ?_ | refine opsD_nil ?_ | refine go_chk ?_ | refine go_gchk ?_ | refine opsT_lin ?_ | refine opsT_step ?_ | refine go_gt ?_ | refine go_gf ?_ | refine go_gpure ?_ | refine go_gread ?_ | refine go_build1 ?_ | refine go_build2 ?_ | refine go_build3 ?_ | ((first | refine go_alloc ?_ | refine go_box ?_); clear hw; intro p w hw) | ((first | refine go_stBoxAgg ?_ | refine go_stElem ?_ | refine go_stBox0 ?_ | refine go_stBox ?_ | refine go_draw ?_); clear hw; intro w hw) | ((first | refine go_makeI ?_ | refine go_makeB ?_ | refine go_makeS ?_ | refine go_sl1I ?_ | refine go_sl1V ?_ | refine go_append ?_); clear hw; intro s w hw))
      refine st_call rfl (Affects_spec (vp := s1) (L := L) (ht'.at hw) (rsO hw)) ?_
      rintro _ w' ⟨l, rfl, hk'⟩
      rw [he2, if_pos rfl] at hk'
      rw [he2, errV_zero rfl]
      replace hw := hw.call1 hk'
      clear hk'
      refine ⟨_, rfl, ?_⟩
      repeat (first | refine vc_seq ?_ | refine thn_normal ?_ | refine vc_region ?_ | refine ops_nil ?_ | refine go_pure ?_ | refine go_read ?_ | refine vc_block ?_ | refine blk_normal ?_ | refine vc_skip ?_ | refine vc_exit ?_ | refine vc_ret ?_ | refine thn_exit ?_ | refine thn_ret ?_ | refine blk_ret ?_ | refine blk_exit ?_ | refine go_exit_ne ?_ | refine go_condT ?_ | refine go_condF ?_ | refine opsD_op ?_ | refine opsD_nil ?_ | refine go_chk ?_ | refine go_gchk ?_ | refine opsT_lin ?_ | refine opsT_step ?_ | refine go_gt ?_ | refine go_gf ?_ | refine go_gpure ?_ | refine go_gread ?_ | refine go_build1 ?_ | refine go_build2 ?_ | refine go_build3 ?_ | ((first | refine go_alloc ?_ | refine go_box ?_); clear hw; intro p w hw) | ((first | refine go_stBoxAgg ?_ | refine go_stElem ?_ | refine go_stBox0 ?_ | refine go_stBox ?_ | refine go_draw ?_); clear hw; intro w hw) | ((first | refine go_makeI ?_ | refine go_makeB ?_ | refine go_makeS ?_ | refine go_sl1I ?_ | refine go_sl1V ?_ | refine go_append ?_); clear hw; intro s w hw))
      refine st_call rfl (Project_spec (vp := s1) (L := L) (ht'.at hw) (rsO hw)) ?_
      rintro _ w' ⟨cv, ev, gv, rfl, hk'⟩
      rw [he1, sysE_ok] at hk'
      rw [he1, errV_zero rfl, sysE_ok, sysV_ok]
      have hw2 : Sat w0 w' [OS tInt 3 cv (costsT t), OS tEdg 50 ev (pEdges t L), OS tBool 4 gv (goalsK t L (cntL t.vars L).toNat), OS tInt 3 l (affK t L t.ops.length), OS tInt 3 s1 L, OS tInt 3 s0 L, Box pt 26 [a, b, c, d]] := hw.call hk'
      clear hk' hw
      have hw := hw2
      clear hw2
      refine ⟨_, rfl, ?_⟩
      have o1 := (hw.rs 0 rfl).one
      have o2 := (hw.rs 1 rfl).one
      have o3 := (hw.rs 2 rfl).one
      repeat (first | refine vc_seq ?_ | refine thn_normal ?_ | refine vc_region ?_ | refine ops_nil ?_ | refine go_pure ?_ | refine go_read ?_ | refine vc_block ?_ | refine blk_normal ?_ | refine vc_skip ?_ | refine vc_exit ?_ | refine vc_ret ?_ | refine thn_exit ?_ | refine thn_ret ?_ | refine blk_ret ?_ | refine blk_exit ?_ | refine go_exit_ne ?_ | refine go_condT ?_ | refine go_condF ?_ | refine opsD_op ?_ | refine opsD_nil ?_ | refine go_chk ?_ | refine go_gchk ?_ | refine opsT_lin ?_ | refine opsT_step ?_ | refine go_gt ?_ | refine go_gf ?_ | refine go_gpure ?_ | refine go_gread ?_ | refine go_build1 ?_ | refine go_build2 ?_ | refine go_build3 ?_ | ((first | refine go_alloc ?_ | refine go_box ?_); clear hw; intro p w hw) | ((first | refine go_draw ?_); clear hw; intro w hw) | ((first | refine go_makeI ?_ | refine go_makeB ?_ | refine go_makeS ?_ | refine go_sl1I ?_ | refine go_sl1V ?_ | refine go_append ?_); clear hw; intro s w hw))
      refine st_boxAgg (n := 5) (p := p) (vs := [.int .i64 (cntL t.vars L), .int .i64 (idxL t.vars L t.init), cv, ev, gv]) rfl rfl hw inferInstance rfl rfl (by simp only [List.all_cons, List.all_nil, o1, o2, o3]; rfl) ?_
      clear hw
      intro w hw
      obtain ⟨px, hpx⟩ : ∃ px, px = p := ⟨p, rfl⟩
      subst hpx
      repeat (first | refine vc_seq ?_ | refine thn_normal ?_ | refine vc_region ?_ | refine ops_nil ?_ | refine go_pure ?_ | refine go_read ?_ | refine vc_block ?_ | refine blk_normal ?_ | refine vc_skip ?_ | refine vc_exit ?_ | refine vc_ret ?_ | refine thn_exit ?_ | refine thn_ret ?_ | refine blk_ret ?_ | refine blk_exit ?_ | refine go_exit_ne ?_ | refine go_condT ?_ | refine go_condF ?_ | refine opsD_op ?_ | refine opsD_nil ?_ | refine go_chk ?_ | refine go_gchk ?_ | refine opsT_lin ?_ | refine opsT_step ?_ | refine go_gt ?_ | refine go_gf ?_ | refine go_gpure ?_ | refine go_gread ?_ | refine go_build1 ?_ | refine go_build2 ?_ | refine go_build3 ?_ | ((first | refine go_alloc ?_ | refine go_box ?_); clear hw; intro p w hw) | ((first | refine go_stBoxAgg ?_ | refine go_stElem ?_ | refine go_stBox0 ?_ | refine go_stBox ?_ | refine go_draw ?_); clear hw; intro w hw) | ((first | refine go_makeI ?_ | refine go_makeB ?_ | refine go_makeS ?_ | refine go_sl1I ?_ | refine go_sl1V ?_ | refine go_append ?_); clear hw; intro s w hw))
      obtain ⟨sA, hsA⟩ : ∃ sA, sA = s := ⟨s, rfl⟩
      subst hsA
      rw [hdl, Int.toNat_natCast, ← affB_zero t L] at hw
      refine vc_loop2 [4, 11, 12, 13, 15, 17, 64, 65, 66, 67, 68, 69, 70, 71, 72, 73, 74, 75, 76, 77, 78, 79, 80, 81, 82, 83, 84, 85, 86, 87, 88, 89, 90, 91, 92, 93, 94, 95, 96, 97, 98, 99, 100, 101, 102, 103, 104, 105, 106, 107, 108, 109, 110, 111, 112, 113, 114, 115] (G := Nat) (H := Int) (fun k n => [(64, .int .i64 k), (11, .int .i64 n)]) (fun k n w => k ≤ t.ops.length ∧ n = (affK t L k).length ∧ Sat w0 w [OS tBool 4 sA (affB t L k), Box px 35 [.int .i64 (cntL t.vars L), .int .i64 (idxL t.vars L t.init), cv, ev, gv], OS tInt 3 cv (costsT t), OS tEdg 50 ev (pEdges t L), OS tBool 4 gv (goalsK t L (cntL t.vars L).toNat), OS tInt 3 l (affK t L t.ops.length), OS tInt 3 s1 L, OS tInt 3 s0 L, Box pt 26 [a, b, c, d]]) (fun k _ => t.ops.length - k) 0 0 (fun _ _ => rfl) ⟨rfl, rfl, trivial⟩ ⟨Nat.zero_le _, rfl, hw⟩ ?_
      clear hw
      rintro σ k n w ⟨hk, hn, hw⟩
      repeat (first | refine vc_seq ?_ | refine thn_normal ?_ | refine vc_region ?_ | refine ops_nil ?_ | refine go_pure ?_ | refine go_read ?_ | refine vc_block ?_ | refine blk_normal ?_ | refine vc_skip ?_ | refine vc_exit ?_ | refine vc_ret ?_ | refine thn_exit ?_ | refine thn_ret ?_ | refine blk_ret ?_ | refine blk_exit ?_ | refine go_exit_ne ?_ | refine go_condT ?_ | refine go_condF ?_ | refine opsD_op ?_ | refine opsD_nil ?_ | refine go_chk ?_ | refine go_gchk ?_ | refine opsT_lin ?_ | refine opsT_step ?_ | refine go_gt ?_ | refine go_gf ?_ | refine go_gpure ?_ | refine go_gread ?_ | refine go_build1 ?_ | refine go_build2 ?_ | refine go_build3 ?_ | ((first | refine go_alloc ?_ | refine go_box ?_); clear hw; intro p w hw) | ((first | refine go_stBoxAgg ?_ | refine go_stElem ?_ | refine go_stBox0 ?_ | refine go_stBox ?_ | refine go_draw ?_); clear hw; intro w hw) | ((first | refine go_makeI ?_ | refine go_makeB ?_ | refine go_makeS ?_ | refine go_sl1I ?_ | refine go_sl1V ?_ | refine go_append ?_); clear hw; intro s w hw))
      refine go_if (fun h1 => ?_) (fun h1 => ?_)
      · have hkl : k < t.ops.length := by omega
        have hop := hd.at_ k hkl
        have hone := hop.one
        obtain ⟨es, hes⟩ := hop.effs
        have hesr := hes.rs
        have hesl := hes.len
        have hesb := hesr.big
        have hbl := affB_len t L k
        repeat (first | refine vc_seq ?_ | refine thn_normal ?_ | refine vc_region ?_ | refine ops_nil ?_ | refine go_pure ?_ | refine go_read ?_ | refine vc_block ?_ | refine blk_normal ?_ | refine vc_skip ?_ | refine vc_exit ?_ | refine vc_ret ?_ | refine thn_exit ?_ | refine thn_ret ?_ | refine blk_ret ?_ | refine blk_exit ?_ | refine go_exit_ne ?_ | refine go_condT ?_ | refine go_condF ?_ | refine opsD_op ?_ | refine opsD_nil ?_ | refine go_chk ?_ | refine go_gchk ?_ | refine opsT_lin ?_ | refine opsT_step ?_ | refine go_gt ?_ | refine go_gf ?_ | refine go_gpure ?_ | refine go_gread ?_ | refine go_build1 ?_ | refine go_build2 ?_ | refine go_build3 ?_ | ((first | refine go_alloc ?_ | refine go_box ?_); clear hw; intro p w hw) | ((first | refine go_stBoxAgg ?_ | refine go_stElem ?_ | refine go_stBox0 ?_ | refine go_stBox ?_ | refine go_draw ?_); clear hw; intro w hw) | ((first | refine go_makeI ?_ | refine go_makeB ?_ | refine go_makeS ?_ | refine go_sl1I ?_ | refine go_sl1V ?_ | refine go_append ?_); clear hw; intro s w hw))
        obtain ⟨pe, hpe⟩ : ∃ pe, pe = p := ⟨p, rfl⟩
        subst hpe
        rw [← affB_set0 (t := t) (L := L) (k := k)] at hw
        refine vc_loop2 [15, 17, 72, 73, 74, 75, 76, 77, 78, 79, 80, 81, 82, 83, 84, 85, 86, 87, 88, 89, 90, 91, 92, 93, 94, 95, 96] (G := Nat) (H := Bool) (fun j _ => [(72, .int .i64 j)]) (fun j bx w => j ≤ es.length ∧ (bx = true ↔ ∃ i, i < j ∧ ((t.ops.getD k dOp).effs.getD i dEff).var ∈ L) ∧ Sat w0 w [Box pe 62 (tOp.enc (eget tOp vs k)), OS tBool 4 sA ((affB t L k).set k bx), Box px 35 [.int .i64 (cntL t.vars L), .int .i64 (idxL t.vars L t.init), cv, ev, gv], OS tInt 3 cv (costsT t), OS tEdg 50 ev (pEdges t L), OS tBool 4 gv (goalsK t L (cntL t.vars L).toNat), OS tInt 3 l (affK t L t.ops.length), OS tInt 3 s1 L, OS tInt 3 s0 L, Box pt 26 [a, b, c, d]]) (fun j _ => es.length - j) 0 false (fun _ _ => rfl) ⟨rfl, trivial⟩ ⟨Nat.zero_le _, iffF (fun ⟨i, hi, _⟩ => by omega), hw⟩ ?_
        clear hw
        rintro σ1 j bb w ⟨hj, hbb, hw⟩
        repeat (first | refine vc_seq ?_ | refine thn_normal ?_ | refine vc_region ?_ | refine ops_nil ?_ | refine go_pure ?_ | refine go_read ?_ | refine vc_block ?_ | refine blk_normal ?_ | refine vc_skip ?_ | refine vc_exit ?_ | refine vc_ret ?_ | refine thn_exit ?_ | refine thn_ret ?_ | refine blk_ret ?_ | refine blk_exit ?_ | refine go_exit_ne ?_ | refine go_condT ?_ | refine go_condF ?_ | refine opsD_op ?_ | refine opsD_nil ?_ | refine go_chk ?_ | refine go_gchk ?_ | refine opsT_lin ?_ | refine opsT_step ?_ | refine go_gt ?_ | refine go_gf ?_ | refine go_gpure ?_ | refine go_gread ?_ | refine go_build1 ?_ | refine go_build2 ?_ | refine go_build3 ?_ | ((first | refine go_alloc ?_ | refine go_box ?_); clear hw; intro p w hw) | ((first | refine go_stBoxAgg ?_ | refine go_stElem ?_ | refine go_stBox0 ?_ | refine go_stBox ?_ | refine go_draw ?_); clear hw; intro w hw) | ((first | refine go_makeI ?_ | refine go_makeB ?_ | refine go_makeS ?_ | refine go_sl1I ?_ | refine go_sl1V ?_ | refine go_append ?_); clear hw; intro s w hw))
        refine go_if (fun h2 => ?_) (fun h2 => ?_)
        · have hjl : j < (t.ops.getD k dOp).effs.length := by omega
          have hee := hes.at_ j hjl
          have heo := hee.one
          have hev := hee.var
          repeat (first | refine vc_seq ?_ | refine thn_normal ?_ | refine vc_region ?_ | refine ops_nil ?_ | refine go_pure ?_ | refine go_read ?_ | refine vc_block ?_ | refine blk_normal ?_ | refine vc_skip ?_ | refine vc_exit ?_ | refine vc_ret ?_ | refine thn_exit ?_ | refine thn_ret ?_ | refine blk_ret ?_ | refine blk_exit ?_ | refine go_exit_ne ?_ | refine go_condT ?_ | refine go_condF ?_ | refine opsD_op ?_ | refine opsD_nil ?_ | refine go_chk ?_ | refine go_gchk ?_ | refine opsT_lin ?_ | refine opsT_step ?_ | refine go_gt ?_ | refine go_gf ?_ | refine go_gpure ?_ | refine go_gread ?_ | refine go_build1 ?_ | refine go_build2 ?_ | refine go_build3 ?_ | ((first | refine go_alloc ?_ | refine go_box ?_); clear hw; intro p w hw) | ((first | refine go_stBoxAgg ?_ | refine go_stElem ?_ | refine go_stBox0 ?_ | refine go_stBox ?_ | refine go_draw ?_); clear hw; intro w hw) | ((first | refine go_makeI ?_ | refine go_makeB ?_ | refine go_makeS ?_ | refine go_sl1I ?_ | refine go_sl1V ?_ | refine go_append ?_); clear hw; intro s w hw))
          obtain ⟨pf, hpf⟩ : ∃ pf, pf = p := ⟨p, rfl⟩
          subst hpf
          refine vc_loop2 [17, 78, 79, 80, 81, 82, 83, 84, 85, 86, 87, 88, 89, 90, 91, 92, 93, 94, 95] (G := Nat) (H := Bool) (fun m _ => [(78, .int .i64 m)]) (fun m bx w => m ≤ L.length ∧ (bx = true ↔ bb = true ∨ ∃ i, i < m ∧ L.getD i tInt.dflt = (eget tEff es j).var) ∧ Sat w0 w [Box pf 64 (tEff.enc (eget tEff es j)), Box pe 62 (tOp.enc (eget tOp vs k)), OS tBool 4 sA ((affB t L k).set k bx), Box px 35 [.int .i64 (cntL t.vars L), .int .i64 (idxL t.vars L t.init), cv, ev, gv], OS tInt 3 cv (costsT t), OS tEdg 50 ev (pEdges t L), OS tBool 4 gv (goalsK t L (cntL t.vars L).toNat), OS tInt 3 l (affK t L t.ops.length), OS tInt 3 s1 L, OS tInt 3 s0 L, Box pt 26 [a, b, c, d]]) (fun m _ => L.length - m) 0 bb (fun _ _ => rfl) ⟨rfl, trivial⟩ ⟨Nat.zero_le _, ⟨fun h => .inl h, fun h => h.elim id fun ⟨i, hi, _⟩ => by omega⟩, hw⟩ ?_
          clear hw
          rintro σ2 m b2 w ⟨hm, hb2, hw⟩
          obtain ⟨F, hF⟩ : ∃ F, F = (affB t L k).set k b2 := ⟨_, rfl⟩
          have hFl : F.length = t.ops.length := by rw [hF, List.length_set, hbl]
          have hFk : F.getD k tBool.dflt = b2 := by rw [hF]; simp [List.getD, hbl, hkl]
          rw [← hF] at hw
          repeat (first | refine vc_seq ?_ | refine thn_normal ?_ | refine vc_region ?_ | refine ops_nil ?_ | refine go_pure ?_ | refine go_read ?_ | refine vc_block ?_ | refine blk_normal ?_ | refine vc_skip ?_ | refine vc_exit ?_ | refine vc_ret ?_ | refine thn_exit ?_ | refine thn_ret ?_ | refine blk_ret ?_ | refine blk_exit ?_ | refine go_exit_ne ?_ | refine go_condT ?_ | refine go_condF ?_ | refine opsD_op ?_ | refine opsD_nil ?_ | refine go_chk ?_ | refine go_gchk ?_ | refine opsT_lin ?_ | refine opsT_step ?_ | refine go_gt ?_ | refine go_gf ?_ | refine go_gpure ?_ | refine go_gread ?_ | refine go_build1 ?_ | refine go_build2 ?_ | refine go_build3 ?_ | ((first | refine go_alloc ?_ | refine go_box ?_); clear hw; intro p w hw) | ((first | refine go_stBoxAgg ?_ | refine go_stElem ?_ | refine go_stBox0 ?_ | refine go_stBox ?_ | refine go_draw ?_); clear hw; intro w hw) | ((first | refine go_makeI ?_ | refine go_makeB ?_ | refine go_makeS ?_ | refine go_sl1I ?_ | refine go_sl1V ?_ | refine go_append ?_); clear hw; intro s w hw))
          refine go_if (fun h3 => ?_) (fun h3 => ?_)
          · repeat (first | refine vc_seq ?_ | refine thn_normal ?_ | refine vc_region ?_ | refine ops_nil ?_ | refine go_pure ?_ | refine go_read ?_ | refine vc_block ?_ | refine blk_normal ?_ | refine vc_skip ?_ | refine vc_exit ?_ | refine vc_ret ?_ | refine thn_exit ?_ | refine thn_ret ?_ | refine blk_ret ?_ | refine blk_exit ?_ | refine go_exit_ne ?_ | refine go_condT ?_ | refine go_condF ?_ | refine opsD_op ?_ | refine opsD_nil ?_ | refine go_chk ?_ | refine go_gchk ?_ | refine opsT_lin ?_ | refine opsT_step ?_ | refine go_gt ?_ | refine go_gf ?_ | refine go_gpure ?_ | refine go_gread ?_ | refine go_build1 ?_ | refine go_build2 ?_ | refine go_build3 ?_ | ((first | refine go_alloc ?_ | refine go_box ?_); clear hw; intro p w hw) | ((first | refine go_stBoxAgg ?_ | refine go_stElem ?_ | refine go_stBox0 ?_ | refine go_stBox ?_ | refine go_draw ?_); clear hw; intro w hw) | ((first | refine go_makeI ?_ | refine go_makeB ?_ | refine go_makeS ?_ | refine go_sl1I ?_ | refine go_sl1V ?_ | refine go_append ?_); clear hw; intro s w hw))
            refine ⟨m + 1, b2 || decide ((eget tEff es j).var = L.getD m tInt.dflt), ⟨rfl, trivial⟩, by repeat (first | exact agree_refl | (apply agree_upd rfl) | (apply agree_mix rfl) | (apply agree_sets rfl)), ⟨by omega, ?_, ?_⟩, by omega⟩
            · rw [Bool.or_eq_true, hb2, decide_eq_true_eq]
              constructor
              · rintro ((h | ⟨i, hi, h⟩) | h)
                · exact .inl h
                · exact .inr ⟨i, by omega, h⟩
                · exact .inr ⟨m, by omega, h.symm⟩
              · rintro (h | ⟨i, hi, h⟩)
                · exact .inl (.inl h)
                · by_cases e : i = m
                  · subst e; exact .inr h.symm
                  · exact .inl (.inr ⟨i, by omega, h⟩)
            · rw [hFk, hF, List.set_set] at hw
              exact hw
          · repeat (first | refine vc_seq ?_ | refine thn_normal ?_ | refine vc_region ?_ | refine ops_nil ?_ | refine go_pure ?_ | refine go_read ?_ | refine vc_block ?_ | refine blk_normal ?_ | refine vc_skip ?_ | refine vc_exit ?_ | refine vc_ret ?_ | refine thn_exit ?_ | refine thn_ret ?_ | refine blk_ret ?_ | refine blk_exit ?_ | refine go_exit_ne ?_ | refine go_condT ?_ | refine go_condF ?_ | refine opsD_op ?_ | refine opsD_nil ?_ | refine go_chk ?_ | refine go_gchk ?_ | refine opsT_lin ?_ | refine opsT_step ?_ | refine go_gt ?_ | refine go_gf ?_ | refine go_gpure ?_ | refine go_gread ?_ | refine go_build1 ?_ | refine go_build2 ?_ | refine go_build3 ?_ | ((first | refine go_alloc ?_ | refine go_box ?_); clear hw; intro p w hw) | ((first | refine go_stBoxAgg ?_ | refine go_stElem ?_ | refine go_stBox0 ?_ | refine go_stBox ?_ | refine go_draw ?_); clear hw; intro w hw) | ((first | refine go_makeI ?_ | refine go_makeB ?_ | refine go_makeS ?_ | refine go_sl1I ?_ | refine go_sl1V ?_ | refine go_append ?_); clear hw; intro s w hw))
            refine ⟨j + 1, b2, ⟨rfl, trivial⟩, by repeat (first | exact agree_refl | (apply agree_upd rfl) | (apply agree_mix rfl) | (apply agree_sets rfl)), ⟨by omega, ?_, ?_⟩, by omega⟩
            · rw [hb2, hbb]
              have hin : (∃ i, i < m ∧ L.getD i tInt.dflt = (eget tEff es j).var) ↔ ((t.ops.getD k dOp).effs.getD j dEff).var ∈ L := by
                rw [hev]
                constructor
                · rintro ⟨i, hi, h⟩; rw [← h]; exact mem_getD tInt.dflt (by omega)
                · intro h
                  obtain ⟨i, hi, h⟩ := List.getElem_of_mem h
                  exact ⟨i, by omega, by rw [getD_at hi]; exact h⟩
              rw [hin]
              constructor
              · rintro (⟨i, hi, h⟩ | h)
                · exact ⟨i, by omega, h⟩
                · exact ⟨j, by omega, h⟩
              · rintro ⟨i, hi, h⟩
                by_cases e : i = j
                · subst e; exact .inr h
                · exact .inl ⟨i, by omega, h⟩
            · rw [hF] at hw
              exact hw.tail
        · have hA : bb = true ↔ AffOf t L k := by
            rw [hbb]
            constructor
            · rintro ⟨i, hi, h⟩; exact ⟨_, mem_getD dEff (by omega), h⟩
            · rintro ⟨e, he, h⟩
              obtain ⟨i, hi, rfl⟩ := List.getElem_of_mem he
              exact ⟨i, by omega, by rw [getD_at hi]; exact h⟩
          rw [affB_set hA] at hw
          have hFk := affB_at (t := t) (L := L) (k := k + 1) hkl
          have hFl := affB_len t L (k + 1)
          have hsn := affK_succ t L k
          obtain ⟨F, hF⟩ : ∃ F, F = affB t L (k + 1) := ⟨_, rfl⟩
          rw [← hF] at hw hFk hFl
          repeat (first | refine vc_seq ?_ | refine thn_normal ?_ | refine vc_region ?_ | refine ops_nil ?_ | refine go_pure ?_ | refine go_read ?_ | refine vc_block ?_ | refine blk_normal ?_ | refine vc_skip ?_ | refine vc_exit ?_ | refine vc_ret ?_ | refine thn_exit ?_ | refine thn_ret ?_ | refine blk_ret ?_ | refine blk_exit ?_ | refine go_exit_ne ?_ | refine go_condT ?_ | refine go_condF ?_ | refine opsD_op ?_ | refine opsD_nil ?_ | refine go_chk ?_ | refine go_gchk ?_ | refine opsT_lin ?_ | refine opsT_step ?_ | refine go_gt ?_ | refine go_gf ?_ | refine go_gpure ?_ | refine go_gread ?_ | refine go_build1 ?_ | refine go_build2 ?_ | refine go_build3 ?_ | ((first | refine go_alloc ?_ | refine go_box ?_); clear hw; intro p w hw) | ((first | refine go_stBoxAgg ?_ | refine go_stElem ?_ | refine go_stBox0 ?_ | refine go_stBox ?_ | refine go_draw ?_); clear hw; intro w hw) | ((first | refine go_makeI ?_ | refine go_makeB ?_ | refine go_makeS ?_ | refine go_sl1I ?_ | refine go_sl1V ?_ | refine go_append ?_); clear hw; intro s w hw))
          refine go_if (fun h3 => ?_) (fun h3 => ?_)
          · have hAf : AffOf t L k := by rw [hFk, decide_eq_true_eq] at h3; exact h3.2
            obtain ⟨hn1, hn2⟩ := affK_at hkl hAf
            have hn3 : (affK t L t.ops.length).getD n.toNat tInt.dflt = (k : Int) := by rw [hn, Int.toNat_natCast]; exact hn2
            have hn0 := affK_len t L k
            repeat (first | refine vc_seq ?_ | refine thn_normal ?_ | refine vc_region ?_ | refine ops_nil ?_ | refine go_pure ?_ | refine go_read ?_ | refine vc_block ?_ | refine blk_normal ?_ | refine vc_skip ?_ | refine vc_exit ?_ | refine vc_ret ?_ | refine thn_exit ?_ | refine thn_ret ?_ | refine blk_ret ?_ | refine blk_exit ?_ | refine go_exit_ne ?_ | refine go_condT ?_ | refine go_condF ?_ | refine opsD_op ?_ | refine opsD_nil ?_ | refine go_chk ?_ | refine go_gchk ?_ | refine opsT_lin ?_ | refine opsT_step ?_ | refine go_gt ?_ | refine go_gf ?_ | refine go_gpure ?_ | refine go_gread ?_ | refine go_build1 ?_ | refine go_build2 ?_ | refine go_build3 ?_ | ((first | refine go_alloc ?_ | refine go_box ?_); clear hw; intro p w hw) | ((first | refine go_stBoxAgg ?_ | refine go_stElem ?_ | refine go_stBox0 ?_ | refine go_stBox ?_ | refine go_draw ?_); clear hw; intro w hw) | ((first | refine go_makeI ?_ | refine go_makeB ?_ | refine go_makeS ?_ | refine go_sl1I ?_ | refine go_sl1V ?_ | refine go_append ?_); clear hw; intro s w hw))
            refine go_if (fun h4 => ?_) (fun h4 => ?_)
            · exfalso
              rcases h4 with h | h
              · omega
              · exact h hn3
            · repeat (first | refine vc_seq ?_ | refine thn_normal ?_ | refine vc_region ?_ | refine ops_nil ?_ | refine go_pure ?_ | refine go_read ?_ | refine vc_block ?_ | refine blk_normal ?_ | refine vc_skip ?_ | refine vc_exit ?_ | refine vc_ret ?_ | refine thn_exit ?_ | refine thn_ret ?_ | refine blk_ret ?_ | refine blk_exit ?_ | refine go_exit_ne ?_ | refine go_condT ?_ | refine go_condF ?_ | refine opsD_op ?_ | refine opsD_nil ?_ | refine go_chk ?_ | refine go_gchk ?_ | refine opsT_lin ?_ | refine opsT_step ?_ | refine go_gt ?_ | refine go_gf ?_ | refine go_gpure ?_ | refine go_gread ?_ | refine go_build1 ?_ | refine go_build2 ?_ | refine go_build3 ?_ | ((first | refine go_alloc ?_ | refine go_box ?_); clear hw; intro p w hw) | ((first | refine go_stBoxAgg ?_ | refine go_stElem ?_ | refine go_stBox0 ?_ | refine go_stBox ?_ | refine go_draw ?_); clear hw; intro w hw) | ((first | refine go_makeI ?_ | refine go_makeB ?_ | refine go_makeS ?_ | refine go_sl1I ?_ | refine go_sl1V ?_ | refine go_append ?_); clear hw; intro s w hw))
              rw [hF] at hw
              exact ⟨k + 1, n + 1, ⟨rfl, rfl, trivial⟩, by repeat (first | exact agree_refl | (apply agree_upd rfl) | (apply agree_mix rfl) | (apply agree_sets rfl)), ⟨by omega, by rw [hsn, if_pos hAf, List.length_append, hn]; simp, hw.tail⟩, by omega⟩
          · have hAf : ¬ AffOf t L k := fun h => by rw [hFk, decide_eq_true (And.intro (Nat.lt_succ_self k) h)] at h3; cases h3
            repeat (first | refine vc_seq ?_ | refine thn_normal ?_ | refine vc_region ?_ | refine ops_nil ?_ | refine go_pure ?_ | refine go_read ?_ | refine vc_block ?_ | refine blk_normal ?_ | refine vc_skip ?_ | refine vc_exit ?_ | refine vc_ret ?_ | refine thn_exit ?_ | refine thn_ret ?_ | refine blk_ret ?_ | refine blk_exit ?_ | refine go_exit_ne ?_ | refine go_condT ?_ | refine go_condF ?_ | refine opsD_op ?_ | refine opsD_nil ?_ | refine go_chk ?_ | refine go_gchk ?_ | refine opsT_lin ?_ | refine opsT_step ?_ | refine go_gt ?_ | refine go_gf ?_ | refine go_gpure ?_ | refine go_gread ?_ | refine go_build1 ?_ | refine go_build2 ?_ | refine go_build3 ?_ | ((first | refine go_alloc ?_ | refine go_box ?_); clear hw; intro p w hw) | ((first | refine go_stBoxAgg ?_ | refine go_stElem ?_ | refine go_stBox0 ?_ | refine go_stBox ?_ | refine go_draw ?_); clear hw; intro w hw) | ((first | refine go_makeI ?_ | refine go_makeB ?_ | refine go_makeS ?_ | refine go_sl1I ?_ | refine go_sl1V ?_ | refine go_append ?_); clear hw; intro s w hw))
            rw [hF] at hw
            exact ⟨k + 1, n, ⟨rfl, rfl, trivial⟩, by repeat (first | exact agree_refl | (apply agree_upd rfl) | (apply agree_mix rfl) | (apply agree_sets rfl)), ⟨by omega, by rw [hsn, if_neg hAf]; exact hn, hw.tail⟩, by omega⟩
      · have hke : k = t.ops.length := by omega
        subst hke
        repeat (first | refine vc_seq ?_ | refine thn_normal ?_ | refine vc_region ?_ | refine ops_nil ?_ | refine go_pure ?_ | refine go_read ?_ | refine vc_block ?_ | refine blk_normal ?_ | refine vc_skip ?_ | refine vc_exit ?_ | refine vc_ret ?_ | refine thn_exit ?_ | refine thn_ret ?_ | refine blk_ret ?_ | refine blk_exit ?_ | refine go_exit_ne ?_ | refine go_condT ?_ | refine go_condF ?_ | refine opsD_op ?_ | refine opsD_nil ?_ | refine go_chk ?_ | refine go_gchk ?_ | refine opsT_lin ?_ | refine opsT_step ?_ | refine go_gt ?_ | refine go_gf ?_ | refine go_gpure ?_ | refine go_gread ?_ | refine go_build1 ?_ | refine go_build2 ?_ | refine go_build3 ?_ | ((first | refine go_alloc ?_ | refine go_box ?_); clear hw; intro p w hw) | ((first | refine go_stBoxAgg ?_ | refine go_stElem ?_ | refine go_stBox0 ?_ | refine go_stBox ?_ | refine go_draw ?_); clear hw; intro w hw) | ((first | refine go_makeI ?_ | refine go_makeB ?_ | refine go_makeS ?_ | refine go_sl1I ?_ | refine go_sl1V ?_ | refine go_append ?_); clear hw; intro s w hw))
        refine vc_loop [4, 19, 119, 120, 121, 122, 123, 124, 125, 126, 127, 128, 129, 130, 131, 132, 133, 134, 135, 136] (G := Nat) (fun i => [(119, .int .i64 i)]) (fun i w => i ≤ (pEdges t L).length ∧ Sat w0 w [OS tBool 4 sA (affB t L t.ops.length), Box px 35 [.int .i64 (cntL t.vars L), .int .i64 (idxL t.vars L t.init), cv, ev, gv], OS tInt 3 cv (costsT t), OS tEdg 50 ev (pEdges t L), OS tBool 4 gv (goalsK t L (cntL t.vars L).toNat), OS tInt 3 l (affK t L t.ops.length), OS tInt 3 s1 L, OS tInt 3 s0 L, Box pt 26 [a, b, c, d]]) (fun i => (pEdges t L).length - i) 0 (fun _ => rfl) ⟨rfl, trivial⟩ ⟨Nat.zero_le _, hw⟩ ?_
        clear hw
        rintro σ3 i w ⟨hi, hw⟩
        repeat (first | refine vc_seq ?_ | refine thn_normal ?_ | refine vc_region ?_ | refine ops_nil ?_ | refine go_pure ?_ | refine go_read ?_ | refine vc_block ?_ | refine blk_normal ?_ | refine vc_skip ?_ | refine vc_exit ?_ | refine vc_ret ?_ | refine thn_exit ?_ | refine thn_ret ?_ | refine blk_ret ?_ | refine blk_exit ?_ | refine go_exit_ne ?_ | refine go_condT ?_ | refine go_condF ?_ | refine opsD_op ?_ | refine opsD_nil ?_ | refine go_chk ?_ | refine go_gchk ?_ | refine opsT_lin ?_ | refine opsT_step ?_ | refine go_gt ?_ | refine go_gf ?_ | refine go_gpure ?_ | refine go_gread ?_ | refine go_build1 ?_ | refine go_build2 ?_ | refine go_build3 ?_ | ((first | refine go_alloc ?_ | refine go_box ?_); clear hw; intro p w hw) | ((first | refine go_stBoxAgg ?_ | refine go_stElem ?_ | refine go_stBox0 ?_ | refine go_stBox ?_ | refine go_draw ?_); clear hw; intro w hw) | ((first | refine go_makeI ?_ | refine go_makeB ?_ | refine go_makeS ?_ | refine go_sl1I ?_ | refine go_sl1V ?_ | refine go_append ?_); clear hw; intro s w hw))
        refine go_if (fun h5 => ?_) (fun h5 => ?_)
        · have hil : i < (pEdges t L).length := by omega
          have heb := (hw.rs 3 rfl).big
          obtain ⟨x, op, y, hx, hop, hy, hT, hxy⟩ := mem_pEdges.1 (mem_getD tEdg.dflt hil)
          have hFl := affB_len t L t.ops.length
          have hFo := affB_at (t := t) (L := L) (k := t.ops.length) hop
          obtain ⟨F, hF⟩ : ∃ F, F = affB t L t.ops.length := ⟨_, rfl⟩
          rw [← hF] at hw hFo hFl
          have hl1 : ((pEdges t L).getD i tEdg.dflt).lab = (op : Int) := by rw [hxy]
          have hl2 : ((pEdges t L).getD i tEdg.dflt).src = x := by rw [hxy]
          have hl3 : ((pEdges t L).getD i tEdg.dflt).dst = y := by rw [hxy]
          have hFo2 : F.getD ((pEdges t L).getD i tEdg.dflt).lab.toNat tBool.dflt = decide (AffOf t L op) := by
            rw [hl1, Int.toNat_natCast, hFo, decide_eq_decide]
            exact ⟨fun h => h.2, fun h => ⟨hop, h⟩⟩
          repeat (first | refine vc_seq ?_ | refine thn_normal ?_ | refine vc_region ?_ | refine ops_nil ?_ | refine go_pure ?_ | refine go_read ?_ | refine vc_block ?_ | refine blk_normal ?_ | refine vc_skip ?_ | refine vc_exit ?_ | refine vc_ret ?_ | refine thn_exit ?_ | refine thn_ret ?_ | refine blk_ret ?_ | refine blk_exit ?_ | refine go_exit_ne ?_ | refine go_condT ?_ | refine go_condF ?_ | refine opsD_op ?_ | refine opsD_nil ?_ | refine go_chk ?_ | refine go_gchk ?_ | refine opsT_lin ?_ | refine opsT_step ?_ | refine go_gt ?_ | refine go_gf ?_ | refine go_gpure ?_ | refine go_gread ?_ | refine go_build1 ?_ | refine go_build2 ?_ | refine go_build3 ?_ | ((first | refine go_alloc ?_ | refine go_box ?_); clear hw; intro p w hw) | ((first | refine go_stBoxAgg ?_ | refine go_stElem ?_ | refine go_stBox0 ?_ | refine go_stBox ?_ | refine go_draw ?_); clear hw; intro w hw) | ((first | refine go_makeI ?_ | refine go_makeB ?_ | refine go_makeS ?_ | refine go_sl1I ?_ | refine go_sl1V ?_ | refine go_append ?_); clear hw; intro s w hw))
          refine go_if (fun h6 => ?_) (fun h6 => ?_)
          · exfalso
            have hna : ¬ AffOf t L op := fun h => by
              have h7 := h6.1
              rw [hFo2, decide_eq_true h] at h7
              cases h7
            exact h6.2 (by rw [hl2, hl3]; exact noaff hs.good hL hop hna hT)
          · repeat (first | refine vc_seq ?_ | refine thn_normal ?_ | refine vc_region ?_ | refine ops_nil ?_ | refine go_pure ?_ | refine go_read ?_ | refine vc_block ?_ | refine blk_normal ?_ | refine vc_skip ?_ | refine vc_exit ?_ | refine vc_ret ?_ | refine thn_exit ?_ | refine thn_ret ?_ | refine blk_ret ?_ | refine blk_exit ?_ | refine go_exit_ne ?_ | refine go_condT ?_ | refine go_condF ?_ | refine opsD_op ?_ | refine opsD_nil ?_ | refine go_chk ?_ | refine go_gchk ?_ | refine opsT_lin ?_ | refine opsT_step ?_ | refine go_gt ?_ | refine go_gf ?_ | refine go_gpure ?_ | refine go_gread ?_ | refine go_build1 ?_ | refine go_build2 ?_ | refine go_build3 ?_ | ((first | refine go_alloc ?_ | refine go_box ?_); clear hw; intro p w hw) | ((first | refine go_stBoxAgg ?_ | refine go_stElem ?_ | refine go_stBox0 ?_ | refine go_stBox ?_ | refine go_draw ?_); clear hw; intro w hw) | ((first | refine go_makeI ?_ | refine go_makeB ?_ | refine go_makeS ?_ | refine go_sl1I ?_ | refine go_sl1V ?_ | refine go_append ?_); clear hw; intro s w hw))
            rw [hF] at hw
            exact ⟨i + 1, ⟨rfl, trivial⟩, by repeat (first | exact agree_refl | (apply agree_upd rfl) | (apply agree_mix rfl) | (apply agree_sets rfl)), ⟨by omega, hw.tail⟩, by omega⟩
        · repeat (first | refine vc_seq ?_ | refine thn_normal ?_ | refine vc_region ?_ | refine ops_nil ?_ | refine go_pure ?_ | refine go_read ?_ | refine vc_block ?_ | refine blk_normal ?_ | refine vc_skip ?_ | refine vc_exit ?_ | refine vc_ret ?_ | refine thn_exit ?_ | refine thn_ret ?_ | refine blk_ret ?_ | refine blk_exit ?_ | refine go_exit_ne ?_ | refine go_condT ?_ | refine go_condF ?_ | refine opsD_op ?_ | refine opsD_nil ?_ | refine go_chk ?_ | refine go_gchk ?_ | refine opsT_lin ?_ | refine opsT_step ?_ | refine go_gt ?_ | refine go_gf ?_ | refine go_gpure ?_ | refine go_gread ?_ | refine go_build1 ?_ | refine go_build2 ?_ | refine go_build3 ?_ | ((first | refine go_alloc ?_ | refine go_box ?_); clear hw; intro p w hw) | ((first | refine go_stBoxAgg ?_ | refine go_stElem ?_ | refine go_stBox0 ?_ | refine go_stBox ?_ | refine go_draw ?_); clear hw; intro w hw) | ((first | refine go_makeI ?_ | refine go_makeB ?_ | refine go_makeS ?_ | refine go_sl1I ?_ | refine go_sl1V ?_ | refine go_append ?_); clear hw; intro s w hw))
          exact res_one (v := .bool (decide (n = ((affK t L t.ops.length).length : Int)))) rfl rfl ⟨by rw [decide_eq_true hn], sat_none hw⟩
    · rw [decide_eq_false hf]
      refine ⟨_, rfl, ?_⟩
      repeat (first | refine vc_seq ?_ | refine thn_normal ?_ | refine vc_region ?_ | refine ops_nil ?_ | refine go_pure ?_ | refine go_read ?_ | refine vc_block ?_ | refine blk_normal ?_ | refine vc_skip ?_ | refine vc_exit ?_ | refine vc_ret ?_ | refine thn_exit ?_ | refine thn_ret ?_ | refine blk_ret ?_ | refine blk_exit ?_ | refine go_exit_ne ?_ | refine go_condT ?_ | refine go_condF ?_ | refine opsD_op ?_ | refine opsD_nil ?_ | refine go_chk ?_ | refine go_gchk ?_ | refine opsT_lin ?_ | refine opsT_step ?_ | refine go_gt ?_ | refine go_gf ?_ | refine go_gpure ?_ | refine go_gread ?_ | refine go_build1 ?_ | refine go_build2 ?_ | refine go_build3 ?_ | ((first | refine go_alloc ?_ | refine go_box ?_); clear hw; intro p w hw) | ((first | refine go_stBoxAgg ?_ | refine go_stElem ?_ | refine go_stBox0 ?_ | refine go_stBox ?_); clear hw; intro w hw) | ((first | refine go_makeI ?_ | refine go_makeB ?_ | refine go_makeS ?_ | refine go_sl1I ?_ | refine go_sl1V ?_ | refine go_append ?_); clear hw; intro s w hw))
      refine st_call rfl awake_spec ?_
      rintro _ w' ⟨rfl, hk'⟩
      replace hw := hw.call0 hk'
      clear hk'
      refine ⟨_, rfl, ?_⟩
      repeat (first | refine vc_seq ?_ | refine thn_normal ?_ | refine vc_region ?_ | refine ops_nil ?_ | refine go_pure ?_ | refine go_read ?_ | refine vc_block ?_ | refine blk_normal ?_ | refine vc_skip ?_ | refine vc_exit ?_ | refine vc_ret ?_ | refine thn_exit ?_ | refine thn_ret ?_ | refine blk_ret ?_ | refine blk_exit ?_ | refine go_exit_ne ?_ | refine go_condT ?_ | refine go_condF ?_ | refine opsD_op ?_ | refine opsD_nil ?_ | refine go_chk ?_ | refine go_gchk ?_ | refine opsT_lin ?_ | refine opsT_step ?_ | refine go_gt ?_ | refine go_gf ?_ | refine go_gpure ?_ | refine go_gread ?_ | refine go_build1 ?_ | refine go_build2 ?_ | refine go_build3 ?_ | ((first | refine go_alloc ?_ | refine go_box ?_); clear hw; intro p w hw) | ((first | refine go_stBoxAgg ?_ | refine go_stElem ?_ | refine go_stBox0 ?_ | refine go_stBox ?_ | refine go_draw ?_); clear hw; intro w hw) | ((first | refine go_makeI ?_ | refine go_makeB ?_ | refine go_makeS ?_ | refine go_sl1I ?_ | refine go_sl1V ?_ | refine go_append ?_); clear hw; intro s w hw))
      exact res_one (v := .bool true) rfl rfl ⟨rfl, sat_none hw⟩
end Go.Proofs.Ytlgombjhcpgleaa
