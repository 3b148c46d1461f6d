/-
  Contracts of 'Reach' and of the reference's 'Reach'.
-/
import Derived.Test.YtlfhflgafeblnaaWReach
import Derived.Test.YtlfhflgafeblnaaWShort
import Derived.Test.YtlfhflgafeblnaaWRefShort
namespace Go.Proofs.Ytlfhflgafeblnaa
open Go.Sl
attribute [local irreducible] vc opsW opsD opV opW PureV ReadV Thn Blk

set_option maxRecDepth 4000 in
set_option maxHeartbeats 2000000 in
theorem Reach_spec {w0 : World} {n : Int} {a f : Value} {arcs : List Arc} {fr : List Int} (ha : RS tArc w0 a arcs) (hf : RS tInt w0 f fr) :
    Calls Try.prog 16 #[.int .i64 n, a, f] w0 fun e w' => ∃ s, e = .returned (.tuple #[s, errV (reachR n arcs fr).1]) ∧ Sat w0 w' [OS tBool 4 s (reachR n arcs fr).2] := by
  have hla := ha.big
  have hlf := hf.big
  have hw := Sat.start w0
  refine calls_of_vc (args := [.int .i64 n, a, f]) mixed Try.func16 rfl (by kernel_rfl) (Nat.le_of_ble_eq_true rfl) ?_
  repeat (first | refine vc_seq ?_ | refine thn_normal ?_ | refine vc_region ?_ | refine ops_nil ?_ | refine go_pure ?_ | refine go_read ?_ | refine vc_block ?_ | refine blk_normal ?_ | refine vc_skip ?_ | refine vc_exit ?_ | refine vc_ret ?_ | refine thn_exit ?_ | refine thn_ret ?_ | refine blk_ret ?_ | refine blk_exit ?_ | refine go_exit_ne ?_ | refine go_condT ?_ | refine go_condF ?_ | refine opsD_op ?_ | refine opsD_nil ?_ | refine go_chk ?_ | refine go_gchk ?_ | refine opsT_lin ?_ | refine opsT_step ?_ | refine go_gt ?_ | refine go_gf ?_ | refine go_gpure ?_ | refine go_gread ?_ | refine go_build1 ?_ | refine go_build2 ?_ | refine go_build3 ?_ | ((first | refine go_alloc ?_ | refine go_box ?_); clear hw; intro p w hw) | ((first | refine go_stBoxAgg ?_ | refine go_stElem ?_ | refine go_stBox0 ?_ | refine go_stBox ?_ | refine go_draw ?_); clear hw; intro w hw) | ((first | refine go_makeI ?_ | refine go_makeB ?_ | refine go_makeS ?_ | refine go_sl1I ?_ | refine go_sl1V ?_ | refine go_append ?_); clear hw; intro s w hw))
  refine st_call rfl (check_spec (n := n) (ha.at hw)) ?_
  rintro _ w ⟨rfl, hk⟩
  replace hw := hw.call0 hk
  clear hk
  by_cases hcode : checkCode n arcs = 0
  · refine ⟨.nilIface, by rw [errV_zero hcode], ?_⟩
    obtain ⟨hn0, hn1, harcs⟩ := of_checkCode hcode
    have hal := checkCode_arcs hcode
    repeat (first | refine vc_seq ?_ | refine thn_normal ?_ | refine vc_region ?_ | refine ops_nil ?_ | refine go_pure ?_ | refine go_read ?_ | refine vc_block ?_ | refine blk_normal ?_ | refine vc_skip ?_ | refine vc_exit ?_ | refine vc_ret ?_ | refine thn_exit ?_ | refine thn_ret ?_ | refine blk_ret ?_ | refine blk_exit ?_ | refine go_exit_ne ?_ | refine go_condT ?_ | refine go_condF ?_ | refine opsD_op ?_ | refine opsD_nil ?_ | refine go_chk ?_ | refine go_gchk ?_ | refine opsT_lin ?_ | refine opsT_step ?_ | refine go_gt ?_ | refine go_gf ?_ | refine go_gpure ?_ | refine go_gread ?_ | refine go_build1 ?_ | refine go_build2 ?_ | refine go_build3 ?_ | ((first | refine go_alloc ?_ | refine go_box ?_); clear hw; intro p w hw) | ((first | refine go_stBoxAgg ?_ | refine go_stElem ?_ | refine go_stBox0 ?_ | refine go_stBox ?_ | refine go_draw ?_); clear hw; intro w hw) | ((first | refine go_makeI ?_ | refine go_makeB ?_ | refine go_makeS ?_ | refine go_sl1I ?_ | refine go_sl1V ?_ | refine go_append ?_); clear hw; intro s w hw))
    refine vc_loop [6, 7, 10, 28, 29, 30, 31, 32, 33, 34, 35, 36, 37, 38, 39, 40] (G := Nat) (fun k => [(28, .int .i64 k)]) (fun k w => k ≤ fr.length ∧ (∀ i, i < k → 0 ≤ fr.getD i tInt.dflt ∧ fr.getD i tInt.dflt < n) ∧ Sat w0 w []) (fun k => fr.length - k) 0 (fun _ => rfl) ⟨rfl, trivial⟩ ⟨Nat.zero_le _, fun i hi => absurd hi (Nat.not_lt_zero _), hw⟩ ?_
    clear hw
    rintro σ k w ⟨hk, hpre, hw⟩
    repeat (first | refine vc_seq ?_ | refine thn_normal ?_ | refine vc_region ?_ | refine ops_nil ?_ | refine go_pure ?_ | refine go_read ?_ | refine vc_block ?_ | refine blk_normal ?_ | refine vc_skip ?_ | refine vc_exit ?_ | refine vc_ret ?_ | refine thn_exit ?_ | refine thn_ret ?_ | refine blk_ret ?_ | refine blk_exit ?_ | refine go_exit_ne ?_ | refine go_condT ?_ | refine go_condF ?_ | refine opsD_op ?_ | refine opsD_nil ?_ | refine go_chk ?_ | refine go_gchk ?_ | refine opsT_lin ?_ | refine opsT_step ?_ | refine go_gt ?_ | refine go_gf ?_ | refine go_gpure ?_ | refine go_gread ?_ | refine go_build1 ?_ | refine go_build2 ?_ | refine go_build3 ?_ | ((first | refine go_alloc ?_ | refine go_box ?_); clear hw; intro p w hw) | ((first | refine go_stBoxAgg ?_ | refine go_stElem ?_ | refine go_stBox0 ?_ | refine go_stBox ?_ | refine go_draw ?_); clear hw; intro w hw) | ((first | refine go_makeI ?_ | refine go_makeB ?_ | refine go_makeS ?_ | refine go_sl1I ?_ | refine go_sl1V ?_ | refine go_append ?_); clear hw; intro s w hw))
    refine go_if (fun h2 => ?_) (fun h2 => ?_)
    · repeat (first | refine vc_seq ?_ | refine thn_normal ?_ | refine vc_region ?_ | refine ops_nil ?_ | refine go_pure ?_ | refine go_read ?_ | refine vc_block ?_ | refine blk_normal ?_ | refine vc_skip ?_ | refine vc_exit ?_ | refine vc_ret ?_ | refine thn_exit ?_ | refine thn_ret ?_ | refine blk_ret ?_ | refine blk_exit ?_ | refine go_exit_ne ?_ | refine go_condT ?_ | refine go_condF ?_ | refine opsD_op ?_ | refine opsD_nil ?_ | refine go_chk ?_ | refine go_gchk ?_ | refine opsT_lin ?_ | refine opsT_step ?_ | refine go_gt ?_ | refine go_gf ?_ | refine go_gpure ?_ | refine go_gread ?_ | refine go_build1 ?_ | refine go_build2 ?_ | refine go_build3 ?_ | ((first | refine go_alloc ?_ | refine go_box ?_); clear hw; intro p w hw) | ((first | refine go_stBoxAgg ?_ | refine go_stElem ?_ | refine go_stBox0 ?_ | refine go_stBox ?_ | refine go_draw ?_); clear hw; intro w hw) | ((first | refine go_makeI ?_ | refine go_makeB ?_ | refine go_makeS ?_ | refine go_sl1I ?_ | refine go_sl1V ?_ | refine go_append ?_); clear hw; intro s w hw))
      refine go_if (fun h3 => ?_) (fun h3 => ?_)
      · repeat (first | refine vc_seq ?_ | refine thn_normal ?_ | refine vc_region ?_ | refine ops_nil ?_ | refine go_pure ?_ | refine go_read ?_ | refine vc_block ?_ | refine blk_normal ?_ | refine vc_skip ?_ | refine vc_exit ?_ | refine vc_ret ?_ | refine thn_exit ?_ | refine thn_ret ?_ | refine blk_ret ?_ | refine blk_exit ?_ | refine go_exit_ne ?_ | refine go_condT ?_ | refine go_condF ?_ | refine opsD_op ?_ | refine opsD_nil ?_ | refine go_chk ?_ | refine go_gchk ?_ | refine opsT_lin ?_ | refine opsT_step ?_ | refine go_gt ?_ | refine go_gf ?_ | refine go_gpure ?_ | refine go_gread ?_ | refine go_build1 ?_ | refine go_build2 ?_ | refine go_build3 ?_ | ((first | refine go_alloc ?_ | refine go_box ?_); clear hw; intro p w hw) | ((first | refine go_stBoxAgg ?_ | refine go_stElem ?_ | refine go_stBox0 ?_ | refine go_stBox ?_ | refine go_draw ?_); clear hw; intro w hw) | ((first | refine go_makeI ?_ | refine go_makeB ?_ | refine go_makeS ?_ | refine go_sl1I ?_ | refine go_sl1V ?_ | refine go_append ?_); clear hw; intro s w hw))
        have hR := reachR_fr hcode (k := k) (fr := fr) (by omega) (by omega)
        exact res_two (v := .slice none 0 0) (v' := .iface 47 (.int .i64 1)) rfl rfl rfl ⟨_, by rw [hR]; rfl, by rw [hR]; exact hw.nil⟩
      · repeat (first | refine vc_seq ?_ | refine thn_normal ?_ | refine vc_region ?_ | refine ops_nil ?_ | refine go_pure ?_ | refine go_read ?_ | refine vc_block ?_ | refine blk_normal ?_ | refine vc_skip ?_ | refine vc_exit ?_ | refine vc_ret ?_ | refine thn_exit ?_ | refine thn_ret ?_ | refine blk_ret ?_ | refine blk_exit ?_ | refine go_exit_ne ?_ | refine go_condT ?_ | refine go_condF ?_ | refine opsD_op ?_ | refine opsD_nil ?_ | refine go_chk ?_ | refine go_gchk ?_ | refine opsT_lin ?_ | refine opsT_step ?_ | refine go_gt ?_ | refine go_gf ?_ | refine go_gpure ?_ | refine go_gread ?_ | refine go_build1 ?_ | refine go_build2 ?_ | refine go_build3 ?_ | ((first | refine go_alloc ?_ | refine go_box ?_); clear hw; intro p w hw) | ((first | refine go_stBoxAgg ?_ | refine go_stElem ?_ | refine go_stBox0 ?_ | refine go_stBox ?_ | refine go_draw ?_); clear hw; intro w hw) | ((first | refine go_makeI ?_ | refine go_makeB ?_ | refine go_makeS ?_ | refine go_sl1I ?_ | refine go_sl1V ?_ | refine go_append ?_); clear hw; intro s w hw))
        refine ⟨k + 1, ⟨rfl, trivial⟩, by repeat (first | exact agree_refl | (apply agree_upd rfl) | (apply agree_mix rfl) | (apply agree_sets rfl)), ⟨by omega, fun i hi => ?_, hw⟩, by omega⟩
        by_cases h : i = k
        · subst h; omega
        · exact hpre i (by omega)
    · have hfr : frOk n fr := frOk_of fun i hi => hpre i (by omega)
      have hR := reachR_ok hcode hfr
      repeat (first | refine vc_seq ?_ | refine thn_normal ?_ | refine vc_region ?_ | refine ops_nil ?_ | refine go_pure ?_ | refine go_read ?_ | refine vc_block ?_ | refine blk_normal ?_ | refine vc_skip ?_ | refine vc_exit ?_ | refine vc_ret ?_ | refine thn_exit ?_ | refine thn_ret ?_ | refine blk_ret ?_ | refine blk_exit ?_ | refine go_exit_ne ?_ | refine go_condT ?_ | refine go_condF ?_ | refine opsD_op ?_ | refine opsD_nil ?_ | refine go_chk ?_ | refine go_gchk ?_ | refine opsT_lin ?_ | refine opsT_step ?_ | refine go_gt ?_ | refine go_gf ?_ | refine go_gpure ?_ | refine go_gread ?_ | refine go_build1 ?_ | refine go_build2 ?_ | refine go_build3 ?_ | ((first | refine go_alloc ?_ | refine go_box ?_); clear hw; intro p w hw) | ((first | refine go_stBoxAgg ?_ | refine go_stElem ?_ | refine go_stBox0 ?_ | refine go_stBox ?_ | refine go_draw ?_); clear hw; intro w hw) | ((first | refine go_makeI ?_ | refine go_makeB ?_ | refine go_makeS ?_ | refine go_sl1I ?_ | refine go_sl1V ?_ | refine go_append ?_); clear hw; intro s w hw))
      rename_i p1 _ _
      replace hw := hw.nil (T := tInt) (e := 3)
      refine vc_loop3 [15, 46, 47, 48, 49, 50, 51, 52, 53] (G := Nat) (H := List Bool × List Int) (I := Value) (fun k x t => [(46, .int .i64 k)]) (fun k x t w => k ≤ fr.length ∧ SInv n arcs fr k x ∧ (∀ u, 0 ≤ u → u < n → sb x.1 u = true → u ∉ x.2 → clo arcs x.1 u) ∧ Sat w0 w [OS tInt 3 t x.2, Box p 27 [t], Box p1 37 [s], OS tBool 4 s x.1]) (fun k x t => fr.length - k) 0 (List.replicate n.toNat false, []) _ (fun _ _ _ => rfl) ⟨rfl, trivial⟩ ⟨Nat.zero_le _, SInv.start, ?_, hw⟩ ?_
      · intro u hu0 hu1 hs
        exfalso
        simp only [sb, List.getD_eq_getElem?_getD, List.getElem?_replicate] at hs
        split at hs <;> simp at hs
      clear hw
      rintro σ1 k ⟨seen, todo⟩ t w ⟨hk, hI, hcl, hw⟩
      simp only at hcl hw
      have hlen := hI.len
      have hroom := hI.room
      simp only at hlen hroom
      repeat (first | refine vc_seq ?_ | refine thn_normal ?_ | refine vc_region ?_ | refine ops_nil ?_ | refine go_pure ?_ | refine go_read ?_ | refine vc_block ?_ | refine blk_normal ?_ | refine vc_skip ?_ | refine vc_exit ?_ | refine vc_ret ?_ | refine thn_exit ?_ | refine thn_ret ?_ | refine blk_ret ?_ | refine blk_exit ?_ | refine go_exit_ne ?_ | refine go_condT ?_ | refine go_condF ?_ | refine opsD_op ?_ | refine opsD_nil ?_ | refine go_chk ?_ | refine go_gchk ?_ | refine opsT_lin ?_ | refine opsT_step ?_ | refine go_gt ?_ | refine go_gf ?_ | refine go_gpure ?_ | refine go_gread ?_ | refine go_build1 ?_ | refine go_build2 ?_ | refine go_build3 ?_ | ((first | refine go_alloc ?_ | refine go_box ?_); clear hw; intro p w hw) | ((first | refine go_stBoxAgg ?_ | refine go_stElem ?_ | refine go_stBox0 ?_ | refine go_stBox ?_ | refine go_draw ?_); clear hw; intro w hw) | ((first | refine go_makeI ?_ | refine go_makeB ?_ | refine go_makeS ?_ | refine go_sl1I ?_ | refine go_sl1V ?_ | refine go_append ?_); clear hw; intro s w hw))
      refine go_if (fun h4 => ?_) (fun h4 => ?_)
      · have hv := hfr _ (mem_getD tInt.dflt (show k < fr.length by omega))
        obtain ⟨hI2, hs2, hm2, hn2, _⟩ := hI.push hv.1 hv.2 (.start (mem_getD tInt.dflt (show k < fr.length by omega)))
        repeat (first | refine vc_seq ?_ | refine thn_normal ?_ | refine vc_region ?_ | refine ops_nil ?_ | refine go_pure ?_ | refine go_read ?_ | refine vc_block ?_ | refine blk_normal ?_ | refine vc_skip ?_ | refine vc_exit ?_ | refine vc_ret ?_ | refine thn_exit ?_ | refine thn_ret ?_ | refine blk_ret ?_ | refine blk_exit ?_ | refine go_exit_ne ?_ | refine go_condT ?_ | refine go_condF ?_ | refine opsD_op ?_ | refine opsD_nil ?_ | refine go_chk ?_ | refine go_gchk ?_ | refine opsT_lin ?_ | refine opsT_step ?_ | refine go_gt ?_ | refine go_gf ?_ | refine go_gpure ?_ | refine go_gread ?_ | refine go_build1 ?_ | refine go_build2 ?_ | refine go_build3 ?_ | ((first | refine go_alloc ?_ | refine go_box ?_); clear hw; intro p w hw) | ((first | refine go_stBoxAgg ?_ | refine go_stElem ?_ | refine go_stBox0 ?_ | refine go_stBox ?_ | refine go_draw ?_); clear hw; intro w hw) | ((first | refine go_makeI ?_ | refine go_makeB ?_ | refine go_makeS ?_ | refine go_sl1I ?_ | refine go_sl1V ?_ | refine go_append ?_); clear hw; intro s w hw))
        refine st_callF (cs := [.pointer (some p1), .pointer (some p)]) rfl rfl (push_spec hv.1 hv.2 hn1 hlen (by omega) hw) ?_
        clear hw
        rintro _ w ⟨rfl, t', hw⟩
        refine ⟨_, rfl, ?_⟩
        repeat (first | refine vc_seq ?_ | refine thn_normal ?_ | refine vc_region ?_ | refine ops_nil ?_ | refine go_pure ?_ | refine go_read ?_ | refine vc_block ?_ | refine blk_normal ?_ | refine vc_skip ?_ | refine vc_exit ?_ | refine vc_ret ?_ | refine thn_exit ?_ | refine thn_ret ?_ | refine blk_ret ?_ | refine blk_exit ?_ | refine go_exit_ne ?_ | refine go_condT ?_ | refine go_condF ?_ | refine opsD_op ?_ | refine opsD_nil ?_ | refine go_chk ?_ | refine go_gchk ?_ | refine opsT_lin ?_ | refine opsT_step ?_ | refine go_gt ?_ | refine go_gf ?_ | refine go_gpure ?_ | refine go_gread ?_ | refine go_build1 ?_ | refine go_build2 ?_ | refine go_build3 ?_ | ((first | refine go_alloc ?_ | refine go_box ?_); clear hw; intro p w hw) | ((first | refine go_stBoxAgg ?_ | refine go_stElem ?_ | refine go_stBox0 ?_ | refine go_stBox ?_ | refine go_draw ?_); clear hw; intro w hw) | ((first | refine go_makeI ?_ | refine go_makeB ?_ | refine go_makeS ?_ | refine go_sl1I ?_ | refine go_sl1V ?_ | refine go_append ?_); clear hw; intro s w hw))
        refine ⟨k + 1, _, t', ⟨rfl, trivial⟩, by repeat (first | exact agree_refl | (apply agree_upd rfl) | (apply agree_mix rfl) | (apply agree_sets rfl)), ⟨by omega, ⟨hI2.len, hI2.sound, hI2.todo, fun i hi => ?_, hI2.room⟩, fun u hu0 hu1 hu2 hu3 => ?_, hw⟩, by omega⟩
        · by_cases h : i = k
          · subst h; exact hs2
          · exact hI2.starts i (by omega)
        · obtain ⟨h5, h6⟩ := hn2 u hu0 hu1 hu2 hu3
          exact clo_mono hm2 (hcl u hu0 hu1 h5 h6)
      · have hke : k = fr.length := by omega
        subst hke
        repeat (first | refine vc_seq ?_ | refine thn_normal ?_ | refine vc_region ?_ | refine ops_nil ?_ | refine go_pure ?_ | refine go_read ?_ | refine vc_block ?_ | refine blk_normal ?_ | refine vc_skip ?_ | refine vc_exit ?_ | refine vc_ret ?_ | refine thn_exit ?_ | refine thn_ret ?_ | refine blk_ret ?_ | refine blk_exit ?_ | refine go_exit_ne ?_ | refine go_condT ?_ | refine go_condF ?_ | refine opsD_op ?_ | refine opsD_nil ?_ | refine go_chk ?_ | refine go_gchk ?_ | refine opsT_lin ?_ | refine opsT_step ?_ | refine go_gt ?_ | refine go_gf ?_ | refine go_gpure ?_ | refine go_gread ?_ | refine go_build1 ?_ | refine go_build2 ?_ | refine go_build3 ?_ | ((first | refine go_alloc ?_ | refine go_box ?_); clear hw; intro p w hw) | ((first | refine go_stBoxAgg ?_ | refine go_stElem ?_ | refine go_stBox0 ?_ | refine go_stBox ?_ | refine go_draw ?_); clear hw; intro w hw) | ((first | refine go_makeI ?_ | refine go_makeB ?_ | refine go_makeS ?_ | refine go_sl1I ?_ | refine go_sl1V ?_ | refine go_append ?_); clear hw; intro s w hw))
        refine st_call rfl (next_spec (ha.at hw) hn0 hn1 hal harcs) ?_
        rintro _ w ⟨nx, ss, rfl, hk'⟩
        replace hw := (hw.call2 hk').comm (Δ := [_, _]) (Γ := [_, _, _, _])
        clear hk'
        have hss := ((hw.focus 4 rfl).rowsLen).trans (nextL_len _ _)
        have hnl := nextL_len n.toNat arcs
        refine ⟨_, rfl, ?_⟩
        repeat (first | refine vc_seq ?_ | refine thn_normal ?_ | refine vc_region ?_ | refine ops_nil ?_ | refine go_pure ?_ | refine go_read ?_ | refine vc_block ?_ | refine blk_normal ?_ | refine vc_skip ?_ | refine vc_exit ?_ | refine vc_ret ?_ | refine thn_exit ?_ | refine thn_ret ?_ | refine blk_ret ?_ | refine blk_exit ?_ | refine go_exit_ne ?_ | refine go_condT ?_ | refine go_condF ?_ | refine opsD_op ?_ | refine opsD_nil ?_ | refine go_chk ?_ | refine go_gchk ?_ | refine opsT_lin ?_ | refine opsT_step ?_ | refine go_gt ?_ | refine go_gf ?_ | refine go_gpure ?_ | refine go_gread ?_ | refine go_build1 ?_ | refine go_build2 ?_ | refine go_build3 ?_ | ((first | refine go_alloc ?_ | refine go_box ?_); clear hw; intro p w hw) | ((first | refine go_stBoxAgg ?_ | refine go_stElem ?_ | refine go_stBox0 ?_ | refine go_stBox ?_ | refine go_draw ?_); clear hw; intro w hw) | ((first | refine go_makeI ?_ | refine go_makeB ?_ | refine go_makeS ?_ | refine go_sl1I ?_ | refine go_sl1V ?_ | refine go_append ?_); clear hw; intro s w hw))
        refine vc_loop2 [17, 19, 57, 58, 59, 60, 61, 62, 63, 64, 65, 66, 67, 68, 69, 70, 71, 72, 73, 74, 75, 76, 77, 78, 79, 80, 81, 82, 83] (G := List Bool × List Int) (H := Value) (fun x t => []) (fun x t w => SInv n arcs fr fr.length x ∧ (∀ u, 0 ≤ u → u < n → sb x.1 u = true → u ∉ x.2 → clo arcs x.1 u) ∧ Sat w0 w [OS tInt 3 t x.2, Box p 27 [t], Box p1 37 [s], OS tBool 4 s x.1, RowsAt tInt 3 ss (nextL n.toNat arcs), OS tVal 27 nx ss]) (fun x t => 2 * unseen x.1 + x.2.length) (seen, todo) t (fun _ _ => rfl) trivial ⟨hI, hcl, hw⟩ ?_
        clear hw hI hcl hlen hroom hk h4 todo seen t
        rintro σ2 ⟨seen, todo⟩ t w ⟨hI, hcl, hw⟩
        simp only at hcl hw
        have hlen := hI.len
        have hroom := hI.room
        simp only at hlen hroom
        repeat (first | refine vc_seq ?_ | refine thn_normal ?_ | refine vc_region ?_ | refine ops_nil ?_ | refine go_pure ?_ | refine go_read ?_ | refine vc_block ?_ | refine blk_normal ?_ | refine vc_skip ?_ | refine vc_exit ?_ | refine vc_ret ?_ | refine thn_exit ?_ | refine thn_ret ?_ | refine blk_ret ?_ | refine blk_exit ?_ | refine go_exit_ne ?_ | refine go_condT ?_ | refine go_condF ?_ | refine opsD_op ?_ | refine opsD_nil ?_ | refine go_chk ?_ | refine go_gchk ?_ | refine opsT_lin ?_ | refine opsT_step ?_ | refine go_gt ?_ | refine go_gf ?_ | refine go_gpure ?_ | refine go_gread ?_ | refine go_build1 ?_ | refine go_build2 ?_ | refine go_build3 ?_ | ((first | refine go_alloc ?_ | refine go_box ?_); clear hw; intro p w hw) | ((first | refine go_stBoxAgg ?_ | refine go_stElem ?_ | refine go_stBox0 ?_ | refine go_stBox ?_ | refine go_draw ?_); clear hw; intro w hw) | ((first | refine go_makeI ?_ | refine go_makeB ?_ | refine go_makeS ?_ | refine go_sl1I ?_ | refine go_sl1V ?_ | refine go_append ?_); clear hw; intro s w hw))
        refine go_if (fun h5 => ?_) (fun h5 => ?_)
        · repeat (first | refine vc_seq ?_ | refine thn_normal ?_ | refine vc_region ?_ | refine ops_nil ?_ | refine go_pure ?_ | refine go_read ?_ | refine vc_block ?_ | refine blk_normal ?_ | refine vc_skip ?_ | refine vc_exit ?_ | refine vc_ret ?_ | refine thn_exit ?_ | refine thn_ret ?_ | refine blk_ret ?_ | refine blk_exit ?_ | refine go_exit_ne ?_ | refine go_condT ?_ | refine go_condF ?_ | refine opsD_op ?_ | refine opsD_nil ?_ | refine go_chk ?_ | refine go_gchk ?_ | refine opsT_lin ?_ | refine opsT_step ?_ | refine go_gt ?_ | refine go_gf ?_ | refine go_gpure ?_ | refine go_gread ?_ | refine go_build1 ?_ | refine go_build2 ?_ | refine go_build3 ?_ | ((first | refine go_alloc ?_ | refine go_box ?_); clear hw; intro p w hw) | ((first | refine go_stBoxAgg ?_ | refine go_stElem ?_ | refine go_stBox0 ?_ | refine go_stBox ?_ | refine go_draw ?_); clear hw; intro w hw) | ((first | refine go_makeI ?_ | refine go_makeB ?_ | refine go_makeS ?_ | refine go_sl1I ?_ | refine go_sl1V ?_ | refine go_append ?_); clear hw; intro s w hw))
          have htodo := hI.todo _ (mem_getD tInt.dflt (show (((todo.length : Nat) : Int) - 1).toNat < todo.length by omega))
          simp only at htodo
          replace hw := Sat.sub (s := t) (xs := todo) hw inferInstance 0 (((todo.length : Nat) : Int) - 1).toNat (by omega) (by omega)
          have hI1 := hI.pop (((todo.length : Nat) : Int) - 1).toNat
          have hcut := cut_len (xs := todo) (lo := 0) (hi := (((todo.length : Nat) : Int) - 1).toNat) (by omega)
          have hmem : ∀ u, u ∉ cut todo 0 (((todo.length : Nat) : Int) - 1).toNat → u ≠ todo.getD (((todo.length : Nat) : Int) - 1).toNat tInt.dflt → u ∉ todo := by
            intro u h1 h2 h3
            obtain ⟨i, hi, rfl⟩ := List.getElem_of_mem h3
            by_cases hlast : i = (((todo.length : Nat) : Int) - 1).toNat
            · subst hlast; exact h2 (getD_at hi).symm
            · refine h1 ?_
              simp only [cut, List.drop_zero]
              exact List.mem_take_iff_getElem.2 ⟨i, by omega, rfl⟩
          repeat (first | refine vc_seq ?_ | refine thn_normal ?_ | refine vc_region ?_ | refine ops_nil ?_ | refine go_pure ?_ | refine go_read ?_ | refine vc_block ?_ | refine blk_normal ?_ | refine vc_skip ?_ | refine vc_exit ?_ | refine vc_ret ?_ | refine thn_exit ?_ | refine thn_ret ?_ | refine blk_ret ?_ | refine blk_exit ?_ | refine go_exit_ne ?_ | refine go_condT ?_ | refine go_condF ?_ | refine opsD_op ?_ | refine opsD_nil ?_ | refine go_chk ?_ | refine go_gchk ?_ | refine opsT_lin ?_ | refine opsT_step ?_ | refine go_gt ?_ | refine go_gf ?_ | refine go_gpure ?_ | refine go_gread ?_ | refine go_build1 ?_ | refine go_build2 ?_ | refine go_build3 ?_ | ((first | refine go_alloc ?_ | refine go_box ?_); clear hw; intro p w hw) | ((first | refine go_stBoxAgg ?_ | refine go_stElem ?_ | refine go_stBox0 ?_ | refine go_stBox ?_ | refine go_draw ?_); clear hw; intro w hw) | ((first | refine go_makeI ?_ | refine go_makeB ?_ | refine go_makeS ?_ | refine go_sl1I ?_ | refine go_sl1V ?_ | refine go_append ?_); clear hw; intro s w hw))
          generalize hvd : todo.getD (((todo.length : Nat) : Int) - 1).toNat tInt.dflt = v at *
          have hrow := Sat.row (i := v.toNat) (by omega) (hw.focus 4 rfl)
          rw [nextL_get _ (by omega)] at hrow
          have hrl := succL_len arcs v.toNat
          have hrch := hI.sound v htodo.1 htodo.2.1 htodo.2.2
          repeat (first | refine vc_seq ?_ | refine thn_normal ?_ | refine vc_region ?_ | refine ops_nil ?_ | refine go_pure ?_ | refine go_read ?_ | refine vc_block ?_ | refine blk_normal ?_ | refine vc_skip ?_ | refine vc_exit ?_ | refine vc_ret ?_ | refine thn_exit ?_ | refine thn_ret ?_ | refine blk_ret ?_ | refine blk_exit ?_ | refine go_exit_ne ?_ | refine go_condT ?_ | refine go_condF ?_ | refine opsD_op ?_ | refine opsD_nil ?_ | refine go_chk ?_ | refine go_gchk ?_ | refine opsT_lin ?_ | refine opsT_step ?_ | refine go_gt ?_ | refine go_gf ?_ | refine go_gpure ?_ | refine go_gread ?_ | refine go_build1 ?_ | refine go_build2 ?_ | refine go_build3 ?_ | ((first | refine go_alloc ?_ | refine go_box ?_); clear hw; intro p w hw) | ((first | refine go_stBoxAgg ?_ | refine go_stElem ?_ | refine go_stBox0 ?_ | refine go_stBox ?_ | refine go_draw ?_); clear hw; intro w hw) | ((first | refine go_makeI ?_ | refine go_makeB ?_ | refine go_makeS ?_ | refine go_sl1I ?_ | refine go_sl1V ?_ | refine go_append ?_); clear hw; intro s w hw))
          refine vc_loop3 [19, 76, 77, 78, 79, 80, 81, 82, 83] (G := Nat) (H := List Bool × List Int) (I := Value) (fun j x t => [(76, .int .i64 j)]) (fun j x t w => j ≤ (succL arcs v.toNat).length ∧ SInv n arcs fr fr.length x ∧ (∀ u, 0 ≤ u → u < n → sb x.1 u = true → u ∉ x.2 → u ≠ v → clo arcs x.1 u) ∧ (∀ i, i < j → sb x.1 ((succL arcs v.toNat).getD i tInt.dflt) = true) ∧ 2 * unseen x.1 + x.2.length < 2 * unseen seen + todo.length ∧ Sat w0 w [OS tInt 3 t x.2, Box p 27 [t], Box p1 37 [s], OS tBool 4 s x.1, RowsAt tInt 3 ss (nextL n.toNat arcs), OS tVal 27 nx ss]) (fun j x t => (succL arcs v.toNat).length - j) 0 (seen, cut todo 0 (((todo.length : Nat) : Int) - 1).toNat) _ (fun _ _ _ => rfl) ⟨rfl, trivial⟩ ⟨Nat.zero_le _, hI1, fun u hu0 hu1 hu2 hu3 hu4 => hcl u hu0 hu1 hu2 (hmem u hu3 hu4), fun i hi => absurd hi (Nat.not_lt_zero _), by simp only; omega, hw⟩ ?_
          clear hw hrow hI1 hcut
          rintro σ3 j ⟨seen', todo'⟩ t' w ⟨hj, hI', hcl', hpre', hmu, hw⟩
          simp only at hcl' hpre' hmu hw
          have hlen' := hI'.len
          have hroom' := hI'.room
          simp only at hlen' hroom'
          have hrow := Sat.row (i := v.toNat) (by omega) (hw.focus 4 rfl)
          rw [nextL_get _ (by omega)] at hrow
          repeat (first | refine vc_seq ?_ | refine thn_normal ?_ | refine vc_region ?_ | refine ops_nil ?_ | refine go_pure ?_ | refine go_read ?_ | refine vc_block ?_ | refine blk_normal ?_ | refine vc_skip ?_ | refine vc_exit ?_ | refine vc_ret ?_ | refine thn_exit ?_ | refine thn_ret ?_ | refine blk_ret ?_ | refine blk_exit ?_ | refine go_exit_ne ?_ | refine go_condT ?_ | refine go_condF ?_ | refine opsD_op ?_ | refine opsD_nil ?_ | refine go_chk ?_ | refine go_gchk ?_ | refine opsT_lin ?_ | refine opsT_step ?_ | refine go_gt ?_ | refine go_gf ?_ | refine go_gpure ?_ | refine go_gread ?_ | refine go_build1 ?_ | refine go_build2 ?_ | refine go_build3 ?_ | ((first | refine go_alloc ?_ | refine go_box ?_); clear hw; intro p w hw) | ((first | refine go_stBoxAgg ?_ | refine go_stElem ?_ | refine go_stBox0 ?_ | refine go_stBox ?_ | refine go_draw ?_); clear hw; intro w hw) | ((first | refine go_makeI ?_ | refine go_makeB ?_ | refine go_makeS ?_ | refine go_sl1I ?_ | refine go_sl1V ?_ | refine go_append ?_); clear hw; intro s w hw))
          refine go_if (fun h6 => ?_) (fun h6 => ?_)
          · obtain ⟨ar, har, hsrc, hdst⟩ := mem_succL.1 (mem_getD tInt.dflt (show j < (succL arcs v.toNat).length by omega))
            have hak := harcs ar har
            unfold arcOk at hak
            have hre : Rch arcs fr ((succL arcs v.toNat).getD j tInt.dflt) := hdst ▸ Rch.step har ((show ar.src = v by omega) ▸ hrch)
            have hx0 : 0 ≤ (succL arcs v.toNat).getD j tInt.dflt := by omega
            have hx1 : (succL arcs v.toNat).getD j tInt.dflt < n := by omega
            obtain ⟨hI2, hs2, hm2, hn2, hle⟩ := hI'.push hx0 hx1 hre
            repeat (first | refine vc_seq ?_ | refine thn_normal ?_ | refine vc_region ?_ | refine ops_nil ?_ | refine go_pure ?_ | refine go_read ?_ | refine vc_block ?_ | refine blk_normal ?_ | refine vc_skip ?_ | refine vc_exit ?_ | refine vc_ret ?_ | refine thn_exit ?_ | refine thn_ret ?_ | refine blk_ret ?_ | refine blk_exit ?_ | refine go_exit_ne ?_ | refine go_condT ?_ | refine go_condF ?_ | refine opsD_op ?_ | refine opsD_nil ?_ | refine go_chk ?_ | refine go_gchk ?_ | refine opsT_lin ?_ | refine opsT_step ?_ | refine go_gt ?_ | refine go_gf ?_ | refine go_gpure ?_ | refine go_gread ?_ | refine go_build1 ?_ | refine go_build2 ?_ | refine go_build3 ?_ | ((first | refine go_alloc ?_ | refine go_box ?_); clear hw; intro p w hw) | ((first | refine go_stBoxAgg ?_ | refine go_stElem ?_ | refine go_stBox0 ?_ | refine go_stBox ?_ | refine go_draw ?_); clear hw; intro w hw) | ((first | refine go_makeI ?_ | refine go_makeB ?_ | refine go_makeS ?_ | refine go_sl1I ?_ | refine go_sl1V ?_ | refine go_append ?_); clear hw; intro s w hw))
            refine st_callF (cs := [.pointer (some p1), .pointer (some p)]) rfl rfl (push_spec hx0 hx1 hn1 hlen' (by omega) hw) ?_
            clear hw hrow
            rintro _ w ⟨rfl, t2, hw⟩
            refine ⟨_, rfl, ?_⟩
            repeat (first | refine vc_seq ?_ | refine thn_normal ?_ | refine vc_region ?_ | refine ops_nil ?_ | refine go_pure ?_ | refine go_read ?_ | refine vc_block ?_ | refine blk_normal ?_ | refine vc_skip ?_ | refine vc_exit ?_ | refine vc_ret ?_ | refine thn_exit ?_ | refine thn_ret ?_ | refine blk_ret ?_ | refine blk_exit ?_ | refine go_exit_ne ?_ | refine go_condT ?_ | refine go_condF ?_ | refine opsD_op ?_ | refine opsD_nil ?_ | refine go_chk ?_ | refine go_gchk ?_ | refine opsT_lin ?_ | refine opsT_step ?_ | refine go_gt ?_ | refine go_gf ?_ | refine go_gpure ?_ | refine go_gread ?_ | refine go_build1 ?_ | refine go_build2 ?_ | refine go_build3 ?_ | ((first | refine go_alloc ?_ | refine go_box ?_); clear hw; intro p w hw) | ((first | refine go_stBoxAgg ?_ | refine go_stElem ?_ | refine go_stBox0 ?_ | refine go_stBox ?_ | refine go_draw ?_); clear hw; intro w hw) | ((first | refine go_makeI ?_ | refine go_makeB ?_ | refine go_makeS ?_ | refine go_sl1I ?_ | refine go_sl1V ?_ | refine go_append ?_); clear hw; intro s w hw))
            refine ⟨j + 1, _, t2, ⟨rfl, trivial⟩, by repeat (first | exact agree_refl | (apply agree_upd rfl) | (apply agree_mix rfl) | (apply agree_sets rfl)), ⟨by omega, hI2, fun u hu0 hu1 hu2 hu3 hu4 => ?_, fun i hi => ?_, Nat.lt_of_le_of_lt hle hmu, hw⟩, by omega⟩
            · obtain ⟨h7, h8⟩ := hn2 u hu0 hu1 hu2 hu3
              exact clo_mono hm2 (hcl' u hu0 hu1 h7 h8 hu4)
            · by_cases h : i = j
              · subst h; exact hs2
              · exact hm2 _ (hpre' i (by omega))
          · have hje : j = (succL arcs v.toNat).length := by omega
            subst hje
            repeat (first | refine vc_seq ?_ | refine thn_normal ?_ | refine vc_region ?_ | refine ops_nil ?_ | refine go_pure ?_ | refine go_read ?_ | refine vc_block ?_ | refine blk_normal ?_ | refine vc_skip ?_ | refine vc_exit ?_ | refine vc_ret ?_ | refine thn_exit ?_ | refine thn_ret ?_ | refine blk_ret ?_ | refine blk_exit ?_ | refine go_exit_ne ?_ | refine go_condT ?_ | refine go_condF ?_ | refine opsD_op ?_ | refine opsD_nil ?_ | refine go_chk ?_ | refine go_gchk ?_ | refine opsT_lin ?_ | refine opsT_step ?_ | refine go_gt ?_ | refine go_gf ?_ | refine go_gpure ?_ | refine go_gread ?_ | refine go_build1 ?_ | refine go_build2 ?_ | refine go_build3 ?_ | ((first | refine go_alloc ?_ | refine go_box ?_); clear hw; intro p w hw) | ((first | refine go_stBoxAgg ?_ | refine go_stElem ?_ | refine go_stBox0 ?_ | refine go_stBox ?_ | refine go_draw ?_); clear hw; intro w hw) | ((first | refine go_makeI ?_ | refine go_makeB ?_ | refine go_makeS ?_ | refine go_sl1I ?_ | refine go_sl1V ?_ | refine go_append ?_); clear hw; intro s w hw))
            refine ⟨(seen', todo'), t', trivial, by repeat (first | exact agree_refl | (apply agree_upd rfl) | (apply agree_mix rfl) | (apply agree_sets rfl)), ⟨hI', fun u hu0 hu1 hu2 hu3 => ?_, hw⟩, hmu⟩
            by_cases hu : u = v
            · subst hu
              intro ar har hsrc
              obtain ⟨i, hi, he⟩ := List.getElem_of_mem (mem_succL.2 ⟨ar, har, by rw [hsrc], rfl⟩ : ar.dst ∈ succL arcs u.toNat)
              have := hpre' i hi
              rw [getD_at hi, he] at this
              exact this
            · exact hcl' u hu0 hu1 hu2 hu3 hu
        · have ht0 : todo = [] := List.eq_nil_of_length_eq_zero (by omega)
          subst ht0
          have hres : seen = reachL n arcs fr := by
            refine reach_of hlen hI.sound (fun v hv => ?_) (fun ar har hs => ?_)
            · obtain ⟨i, hi, he⟩ := List.getElem_of_mem hv
              have := hI.starts i hi
              rw [getD_at hi, he] at this
              exact this
            · have hak := harcs ar har
              unfold arcOk at hak
              exact hcl ar.src hak.1 hak.2.1 hs (by simp) ar har rfl
          repeat (first | refine vc_seq ?_ | refine thn_normal ?_ | refine vc_region ?_ | refine ops_nil ?_ | refine go_pure ?_ | refine go_read ?_ | refine vc_block ?_ | refine blk_normal ?_ | refine vc_skip ?_ | refine vc_exit ?_ | refine vc_ret ?_ | refine thn_exit ?_ | refine thn_ret ?_ | refine blk_ret ?_ | refine blk_exit ?_ | refine go_exit_ne ?_ | refine go_condT ?_ | refine go_condF ?_ | refine opsD_op ?_ | refine opsD_nil ?_ | refine go_chk ?_ | refine go_gchk ?_ | refine opsT_lin ?_ | refine opsT_step ?_ | refine go_gt ?_ | refine go_gf ?_ | refine go_gpure ?_ | refine go_gread ?_ | refine go_build1 ?_ | refine go_build2 ?_ | refine go_build3 ?_ | ((first | refine go_alloc ?_ | refine go_box ?_); clear hw; intro p w hw) | ((first | refine go_stBoxAgg ?_ | refine go_stElem ?_ | refine go_stBox0 ?_ | refine go_stBox ?_ | refine go_draw ?_); clear hw; intro w hw) | ((first | refine go_makeI ?_ | refine go_makeB ?_ | refine go_makeS ?_ | refine go_sl1I ?_ | refine go_sl1V ?_ | refine go_append ?_); clear hw; intro s w hw))
          exact res_two (v := s) (v' := .nilIface) rfl rfl rfl ⟨_, by rw [hR]; rfl, by rw [hR, ← hres]; exact (hw.focus 3 rfl).only⟩
  · refine ⟨_, by rw [errV_some hcode], ?_⟩
    have hR := reachR_bad (n := n) (arcs := arcs) (fr := fr) hcode
    repeat (first | refine vc_seq ?_ | refine thn_normal ?_ | refine vc_region ?_ | refine ops_nil ?_ | refine go_pure ?_ | refine go_read ?_ | refine vc_block ?_ | refine blk_normal ?_ | refine vc_skip ?_ | refine vc_exit ?_ | refine vc_ret ?_ | refine thn_exit ?_ | refine thn_ret ?_ | refine blk_ret ?_ | refine blk_exit ?_ | refine go_exit_ne ?_ | refine go_condT ?_ | refine go_condF ?_ | refine opsD_op ?_ | refine opsD_nil ?_ | refine go_chk ?_ | refine go_gchk ?_ | refine opsT_lin ?_ | refine opsT_step ?_ | refine go_gt ?_ | refine go_gf ?_ | refine go_gpure ?_ | refine go_gread ?_ | refine go_build1 ?_ | refine go_build2 ?_ | refine go_build3 ?_ | ((first | refine go_alloc ?_ | refine go_box ?_); clear hw; intro p w hw) | ((first | refine go_stBoxAgg ?_ | refine go_stElem ?_ | refine go_stBox0 ?_ | refine go_stBox ?_ | refine go_draw ?_); clear hw; intro w hw) | ((first | refine go_makeI ?_ | refine go_makeB ?_ | refine go_makeS ?_ | refine go_sl1I ?_ | refine go_sl1V ?_ | refine go_append ?_); clear hw; intro s w hw))
    exact res_two (v := .slice none 0 0) (v' := .iface 47 (.int .i64 (checkCode n arcs))) rfl rfl rfl ⟨_, by rw [hR, errV_some hcode], by rw [hR]; exact hw.nil⟩
end Go.Proofs.Ytlfhflgafeblnaa
