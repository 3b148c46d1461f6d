/-
  Contract of the reference's 'Reach', and the walk of 'GraphReaches'.
-/
import Derived.Test.YtlfhflgafeblnaaWReach2
import Derived.Test.YtlfhflgafeblnaaWLaw1
namespace Go.Proofs.Ytlfhflgafeblnaa
open Go.Sl
attribute [local irreducible] vc opsW opsD opV opW PureV ReadV Thn Blk

set_option maxRecDepth 4000 in
set_option maxHeartbeats 2000000 in
theorem refReach_spec {w0 : World} {n : Int} {a f : Value} {arcs : List Arc} {fr : List Int} (ha : RS tArc w0 a arcs) (hf : RS tInt w0 f fr) :
    Calls Try.prog 17 #[.int .i64 n, a, f] w0 fun e w' => ∃ s, e = .returned (.tuple #[s, .int .i64 (reachR n arcs fr).1]) ∧ Sat w0 w' [OS tBool 4 s (reachR n arcs fr).2] := by
  have hla := ha.big
  have hlf := hf.big
  have hw := Sat.start w0
  refine calls_of_vc (args := [.int .i64 n, a, f]) mixed Try.func17 rfl (by kernel_rfl) (Nat.le_of_ble_eq_true rfl) ?_
  repeat (first | refine vc_seq ?_ | refine thn_normal ?_ | refine vc_region ?_ | refine ops_nil ?_ | refine go_pure ?_ | refine go_read ?_ | refine vc_block ?_ | refine blk_normal ?_ | refine vc_skip ?_ | refine vc_exit ?_ | refine vc_ret ?_ | refine thn_exit ?_ | refine thn_ret ?_ | refine blk_ret ?_ | refine blk_exit ?_ | refine go_exit_ne ?_ | refine go_condT ?_ | refine go_condF ?_ | refine opsD_op ?_ | refine opsD_nil ?_ | refine go_chk ?_ | refine go_gchk ?_ | refine go_gt ?_ | refine go_gf ?_ | refine go_gpure ?_ | refine go_gread ?_ | refine go_build1 ?_ | refine go_build2 ?_ | refine go_build3 ?_ | ((first | refine go_alloc ?_ | refine go_box ?_); clear hw; intro p w hw) | ((first | refine go_stBoxAgg ?_ | refine go_stElem ?_ | refine go_stBox0 ?_ | refine go_stBox ?_ | refine go_draw ?_); clear hw; intro w hw) | ((first | refine go_makeI ?_ | refine go_makeB ?_ | refine go_makeS ?_ | refine go_sl1I ?_ | refine go_sl1V ?_ | refine go_append ?_); clear hw; intro s w hw))
  refine st_call rfl (refCheck_spec (n := n) (ha.at hw)) ?_
  rintro _ w ⟨rfl, hk⟩
  replace hw := hw.call0 hk
  clear hk
  by_cases hcode : checkCode n arcs = 0
  · refine ⟨.int .i64 0, by rw [hcode], ?_⟩
    obtain ⟨hn0, hn1, harcs⟩ := of_checkCode hcode
    repeat (first | refine vc_seq ?_ | refine thn_normal ?_ | refine vc_region ?_ | refine ops_nil ?_ | refine go_pure ?_ | refine go_read ?_ | refine vc_block ?_ | refine blk_normal ?_ | refine vc_skip ?_ | refine vc_exit ?_ | refine vc_ret ?_ | refine thn_exit ?_ | refine thn_ret ?_ | refine blk_ret ?_ | refine blk_exit ?_ | refine go_exit_ne ?_ | refine go_condT ?_ | refine go_condF ?_ | refine opsD_op ?_ | refine opsD_nil ?_ | refine go_chk ?_ | refine go_gchk ?_ | refine go_gt ?_ | refine go_gf ?_ | refine go_gpure ?_ | refine go_gread ?_ | refine go_build1 ?_ | refine go_build2 ?_ | refine go_build3 ?_ | ((first | refine go_alloc ?_ | refine go_box ?_); clear hw; intro p w hw) | ((first | refine go_stBoxAgg ?_ | refine go_stElem ?_ | refine go_stBox0 ?_ | refine go_stBox ?_ | refine go_draw ?_); clear hw; intro w hw) | ((first | refine go_makeI ?_ | refine go_makeB ?_ | refine go_makeS ?_ | refine go_sl1I ?_ | refine go_sl1V ?_ | refine go_append ?_); clear hw; intro s w hw))
    refine vc_loop2 [6, 7, 11, 25, 26, 27, 28, 29, 30, 31, 32, 33, 34, 35, 36, 37, 38, 39] (G := Nat) (H := List Bool) (fun k seen => [(25, .int .i64 k)]) (fun k seen w => k ≤ fr.length ∧ (∀ i, i < k → 0 ≤ fr.getD i tInt.dflt ∧ fr.getD i tInt.dflt < n) ∧ SInv n arcs fr k (seen, []) ∧ Sat w0 w [OS tBool 4 s seen]) (fun k seen => fr.length - k) 0 _ (fun _ _ => rfl) ⟨rfl, trivial⟩ ⟨Nat.zero_le _, fun i hi => absurd hi (Nat.not_lt_zero _), SInv.start, hw⟩ ?_
    clear hw
    rintro σ k seen w ⟨hk, hpre, hI, hw⟩
    have hlen := hI.len
    simp only at hlen
    repeat (first | refine vc_seq ?_ | refine thn_normal ?_ | refine vc_region ?_ | refine ops_nil ?_ | refine go_pure ?_ | refine go_read ?_ | refine vc_block ?_ | refine blk_normal ?_ | refine vc_skip ?_ | refine vc_exit ?_ | refine vc_ret ?_ | refine thn_exit ?_ | refine thn_ret ?_ | refine blk_ret ?_ | refine blk_exit ?_ | refine go_exit_ne ?_ | refine go_condT ?_ | refine go_condF ?_ | refine opsD_op ?_ | refine opsD_nil ?_ | refine go_chk ?_ | refine go_gchk ?_ | refine go_gt ?_ | refine go_gf ?_ | refine go_gpure ?_ | refine go_gread ?_ | refine go_build1 ?_ | refine go_build2 ?_ | refine go_build3 ?_ | ((first | refine go_alloc ?_ | refine go_box ?_); clear hw; intro p w hw) | ((first | refine go_stBoxAgg ?_ | refine go_stElem ?_ | refine go_stBox0 ?_ | refine go_stBox ?_ | refine go_draw ?_); clear hw; intro w hw) | ((first | refine go_makeI ?_ | refine go_makeB ?_ | refine go_makeS ?_ | refine go_sl1I ?_ | refine go_sl1V ?_ | refine go_append ?_); clear hw; intro s w hw))
    refine go_if (fun h2 => ?_) (fun h2 => ?_)
    · repeat (first | refine vc_seq ?_ | refine thn_normal ?_ | refine vc_region ?_ | refine ops_nil ?_ | refine go_pure ?_ | refine go_read ?_ | refine vc_block ?_ | refine blk_normal ?_ | refine vc_skip ?_ | refine vc_exit ?_ | refine vc_ret ?_ | refine thn_exit ?_ | refine thn_ret ?_ | refine blk_ret ?_ | refine blk_exit ?_ | refine go_exit_ne ?_ | refine go_condT ?_ | refine go_condF ?_ | refine opsD_op ?_ | refine opsD_nil ?_ | refine go_chk ?_ | refine go_gchk ?_ | refine go_gt ?_ | refine go_gf ?_ | refine go_gpure ?_ | refine go_gread ?_ | refine go_build1 ?_ | refine go_build2 ?_ | refine go_build3 ?_ | ((first | refine go_alloc ?_ | refine go_box ?_); clear hw; intro p w hw) | ((first | refine go_stBoxAgg ?_ | refine go_stElem ?_ | refine go_stBox0 ?_ | refine go_stBox ?_ | refine go_draw ?_); clear hw; intro w hw) | ((first | refine go_makeI ?_ | refine go_makeB ?_ | refine go_makeS ?_ | refine go_sl1I ?_ | refine go_sl1V ?_ | refine go_append ?_); clear hw; intro s w hw))
      refine go_if (fun h3 => ?_) (fun h3 => ?_)
      · repeat (first | refine vc_seq ?_ | refine thn_normal ?_ | refine vc_region ?_ | refine ops_nil ?_ | refine go_pure ?_ | refine go_read ?_ | refine vc_block ?_ | refine blk_normal ?_ | refine vc_skip ?_ | refine vc_exit ?_ | refine vc_ret ?_ | refine thn_exit ?_ | refine thn_ret ?_ | refine blk_ret ?_ | refine blk_exit ?_ | refine go_exit_ne ?_ | refine go_condT ?_ | refine go_condF ?_ | refine opsD_op ?_ | refine opsD_nil ?_ | refine go_chk ?_ | refine go_gchk ?_ | refine go_gt ?_ | refine go_gf ?_ | refine go_gpure ?_ | refine go_gread ?_ | refine go_build1 ?_ | refine go_build2 ?_ | refine go_build3 ?_ | ((first | refine go_alloc ?_ | refine go_box ?_); clear hw; intro p w hw) | ((first | refine go_stBoxAgg ?_ | refine go_stElem ?_ | refine go_stBox0 ?_ | refine go_stBox ?_ | refine go_draw ?_); clear hw; intro w hw) | ((first | refine go_makeI ?_ | refine go_makeB ?_ | refine go_makeS ?_ | refine go_sl1I ?_ | refine go_sl1V ?_ | refine go_append ?_); clear hw; intro s w hw))
        have hR := reachR_fr hcode (k := k) (fr := fr) (by omega) (by omega)
        exact res_two (v := .slice none 0 0) (v' := .int .i64 1) rfl rfl rfl ⟨_, by rw [hR], by rw [hR]; exact hw.tail.nil⟩
      · repeat (first | refine vc_seq ?_ | refine thn_normal ?_ | refine vc_region ?_ | refine ops_nil ?_ | refine go_pure ?_ | refine go_read ?_ | refine vc_block ?_ | refine blk_normal ?_ | refine vc_skip ?_ | refine vc_exit ?_ | refine vc_ret ?_ | refine thn_exit ?_ | refine thn_ret ?_ | refine blk_ret ?_ | refine blk_exit ?_ | refine go_exit_ne ?_ | refine go_condT ?_ | refine go_condF ?_ | refine opsD_op ?_ | refine opsD_nil ?_ | refine go_chk ?_ | refine go_gchk ?_ | refine go_gt ?_ | refine go_gf ?_ | refine go_gpure ?_ | refine go_gread ?_ | refine go_build1 ?_ | refine go_build2 ?_ | refine go_build3 ?_ | ((first | refine go_alloc ?_ | refine go_box ?_); clear hw; intro p w hw) | ((first | refine go_stBoxAgg ?_ | refine go_stElem ?_ | refine go_stBox0 ?_ | refine go_stBox ?_ | refine go_draw ?_); clear hw; intro w hw) | ((first | refine go_makeI ?_ | refine go_makeB ?_ | refine go_makeS ?_ | refine go_sl1I ?_ | refine go_sl1V ?_ | refine go_append ?_); clear hw; intro s w hw))
        have hvl : (fr.getD k tInt.dflt).toNat < seen.length := by omega
        refine ⟨k + 1, _, ⟨rfl, trivial⟩, by repeat (first | exact agree_refl | (apply agree_upd rfl) | (apply agree_mix rfl) | (apply agree_sets rfl)), ⟨by omega, fun i hi => ?_, ⟨by simpa using hlen, fun v h0 h1 hs => ?_, by simp, fun i hi => ?_, ?_⟩, hw⟩, by omega⟩
        · by_cases h : i = k
          · subst h; omega
          · exact hpre i (by omega)
        · rcases (sb_set hvl).1 hs with he | hs
          · have : v = fr.getD k tInt.dflt := by omega
            rw [this]; exact .start (mem_getD tInt.dflt (by omega))
          · exact hI.sound v h0 h1 hs
        · by_cases h : i = k
          · subst h; exact (sb_set hvl).2 (.inl rfl)
          · exact (sb_set hvl).2 (.inr (hI.starts i (by omega)))
        · have := unseen_le (seen.set (fr.getD k tInt.dflt).toNat true)
          simp only [List.length_set] at this
          simp only [List.length_nil]; omega
    · have hfr : frOk n fr := frOk_of fun i hi => hpre i (by omega)
      have hR := reachR_ok hcode hfr
      have hke : k = fr.length := by omega
      subst hke
      repeat (first | refine vc_seq ?_ | refine thn_normal ?_ | refine vc_region ?_ | refine ops_nil ?_ | refine go_pure ?_ | refine go_read ?_ | refine vc_block ?_ | refine blk_normal ?_ | refine vc_skip ?_ | refine vc_exit ?_ | refine vc_ret ?_ | refine thn_exit ?_ | refine thn_ret ?_ | refine blk_ret ?_ | refine blk_exit ?_ | refine go_exit_ne ?_ | refine go_condT ?_ | refine go_condF ?_ | refine opsD_op ?_ | refine opsD_nil ?_ | refine go_chk ?_ | refine go_gchk ?_ | refine go_gt ?_ | refine go_gf ?_ | refine go_gpure ?_ | refine go_gread ?_ | refine go_build1 ?_ | refine go_build2 ?_ | refine go_build3 ?_ | ((first | refine go_alloc ?_ | refine go_box ?_); clear hw; intro p w hw) | ((first | refine go_stBoxAgg ?_ | refine go_stElem ?_ | refine go_stBox0 ?_ | refine go_stBox ?_ | refine go_draw ?_); clear hw; intro w hw) | ((first | refine go_makeI ?_ | refine go_makeB ?_ | refine go_makeS ?_ | refine go_sl1I ?_ | refine go_sl1V ?_ | refine go_append ?_); clear hw; intro s w hw))
      refine vc_loop2 [12, 14, 40, 41, 42, 43, 44, 45, 46, 47, 48, 49, 50, 51, 52, 53, 54, 55, 56, 57, 58, 59, 60, 61, 62, 63, 64] (G := List Bool) (H := Bool) (fun seen c => [(12, .bool c)]) (fun seen c w => SInv n arcs fr fr.length (seen, []) ∧ (c = false → ∀ i, i < arcs.length → sb seen (arcs.getD i tArc.dflt).src = true → sb seen (arcs.getD i tArc.dflt).dst = true) ∧ Sat w0 w [OS tBool 4 s seen]) (fun seen c => unseen seen + (if c = true then 1 else 0)) seen true (fun _ _ => rfl) ⟨rfl, trivial⟩ ⟨hI, (fun h => by cases h), hw⟩ ?_
      clear hw hI hlen hpre hk h2 seen
      rintro σ1 seen0 c0 w ⟨hI, hcl, hw⟩
      repeat (first | refine vc_seq ?_ | refine thn_normal ?_ | refine vc_region ?_ | refine ops_nil ?_ | refine go_pure ?_ | refine go_read ?_ | refine vc_block ?_ | refine blk_normal ?_ | refine vc_skip ?_ | refine vc_exit ?_ | refine vc_ret ?_ | refine thn_exit ?_ | refine thn_ret ?_ | refine blk_ret ?_ | refine blk_exit ?_ | refine go_exit_ne ?_ | refine go_condT ?_ | refine go_condF ?_ | refine opsD_op ?_ | refine opsD_nil ?_ | refine go_chk ?_ | refine go_gchk ?_ | refine go_gt ?_ | refine go_gf ?_ | refine go_gpure ?_ | refine go_gread ?_ | refine go_build1 ?_ | refine go_build2 ?_ | refine go_build3 ?_ | ((first | refine go_alloc ?_ | refine go_box ?_); clear hw; intro p w hw) | ((first | refine go_stBoxAgg ?_ | refine go_stElem ?_ | refine go_stBox0 ?_ | refine go_stBox ?_ | refine go_draw ?_); clear hw; intro w hw) | ((first | refine go_makeI ?_ | refine go_makeB ?_ | refine go_makeS ?_ | refine go_sl1I ?_ | refine go_sl1V ?_ | refine go_append ?_); clear hw; intro s w hw))
      refine go_if (fun h4 => ?_) (fun h4 => ?_)
      · subst h4
        repeat (first | refine vc_seq ?_ | refine thn_normal ?_ | refine vc_region ?_ | refine ops_nil ?_ | refine go_pure ?_ | refine go_read ?_ | refine vc_block ?_ | refine blk_normal ?_ | refine vc_skip ?_ | refine vc_exit ?_ | refine vc_ret ?_ | refine thn_exit ?_ | refine thn_ret ?_ | refine blk_ret ?_ | refine blk_exit ?_ | refine go_exit_ne ?_ | refine go_condT ?_ | refine go_condF ?_ | refine opsD_op ?_ | refine opsD_nil ?_ | refine go_chk ?_ | refine go_gchk ?_ | refine go_gt ?_ | refine go_gf ?_ | refine go_gpure ?_ | refine go_gread ?_ | refine go_build1 ?_ | refine go_build2 ?_ | refine go_build3 ?_ | ((first | refine go_alloc ?_ | refine go_box ?_); clear hw; intro p w hw) | ((first | refine go_stBoxAgg ?_ | refine go_stElem ?_ | refine go_stBox0 ?_ | refine go_stBox ?_ | refine go_draw ?_); clear hw; intro w hw) | ((first | refine go_makeI ?_ | refine go_makeB ?_ | refine go_makeS ?_ | refine go_sl1I ?_ | refine go_sl1V ?_ | refine go_append ?_); clear hw; intro s w hw))
        refine vc_loop3 [12, 14, 43, 44, 45, 46, 47, 48, 49, 50, 51, 52, 53, 54, 55, 56, 57, 58, 59, 60, 61, 62, 63, 64] (G := Nat) (H := List Bool) (I := Bool) (fun k seen c => [(43, .int .i64 k), (12, .bool c)]) (fun k seen c w => k ≤ arcs.length ∧ SInv n arcs fr fr.length (seen, []) ∧ (c = false → seen = seen0 ∧ ∀ i, i < k → sb seen (arcs.getD i tArc.dflt).src = true → sb seen (arcs.getD i tArc.dflt).dst = true) ∧ unseen seen + (if c = true then 1 else 0) ≤ unseen seen0 ∧ Sat w0 w [OS tBool 4 s seen]) (fun k seen c => arcs.length - k) 0 seen0 false (fun _ _ _ => rfl) ⟨rfl, rfl, trivial⟩ ⟨Nat.zero_le _, hI, fun _ => ⟨rfl, fun i hi => absurd hi (Nat.not_lt_zero _)⟩, Nat.le_refl _, hw⟩ ?_
        clear hw
        rintro σ2 k seen c w ⟨hk, hI', hcl', hmu, hw⟩
        have hlen := hI'.len
        simp only at hlen
        repeat (first | refine vc_seq ?_ | refine thn_normal ?_ | refine vc_region ?_ | refine ops_nil ?_ | refine go_pure ?_ | refine go_read ?_ | refine vc_block ?_ | refine blk_normal ?_ | refine vc_skip ?_ | refine vc_exit ?_ | refine vc_ret ?_ | refine thn_exit ?_ | refine thn_ret ?_ | refine blk_ret ?_ | refine blk_exit ?_ | refine go_exit_ne ?_ | refine go_condT ?_ | refine go_condF ?_ | refine opsD_op ?_ | refine opsD_nil ?_ | refine go_chk ?_ | refine go_gchk ?_ | refine go_gt ?_ | refine go_gf ?_ | refine go_gpure ?_ | refine go_gread ?_ | refine go_build1 ?_ | refine go_build2 ?_ | refine go_build3 ?_ | ((first | refine go_alloc ?_ | refine go_box ?_); clear hw; intro p w hw) | ((first | refine go_stBoxAgg ?_ | refine go_stElem ?_ | refine go_stBox0 ?_ | refine go_stBox ?_ | refine go_draw ?_); clear hw; intro w hw) | ((first | refine go_makeI ?_ | refine go_makeB ?_ | refine go_makeS ?_ | refine go_sl1I ?_ | refine go_sl1V ?_ | refine go_append ?_); clear hw; intro s w hw))
        refine go_if (fun h5 => ?_) (fun h5 => ?_)
        · have hmem := mem_getD tArc.dflt (show k < arcs.length by omega)
          have hak := harcs _ hmem
          unfold arcOk at hak
          repeat (first | refine vc_seq ?_ | refine thn_normal ?_ | refine vc_region ?_ | refine ops_nil ?_ | refine go_pure ?_ | refine go_read ?_ | refine vc_block ?_ | refine blk_normal ?_ | refine vc_skip ?_ | refine vc_exit ?_ | refine vc_ret ?_ | refine thn_exit ?_ | refine thn_ret ?_ | refine blk_ret ?_ | refine blk_exit ?_ | refine go_exit_ne ?_ | refine go_condT ?_ | refine go_condF ?_ | refine opsD_op ?_ | refine opsD_nil ?_ | refine go_chk ?_ | refine go_gchk ?_ | refine go_gt ?_ | refine go_gf ?_ | refine go_gpure ?_ | refine go_gread ?_ | refine go_build1 ?_ | refine go_build2 ?_ | refine go_build3 ?_ | ((first | refine go_alloc ?_ | refine go_box ?_); clear hw; intro p w hw) | ((first | refine go_stBoxAgg ?_ | refine go_stElem ?_ | refine go_stBox0 ?_ | refine go_stBox ?_ | refine go_draw ?_); clear hw; intro w hw) | ((first | refine go_makeI ?_ | refine go_makeB ?_ | refine go_makeS ?_ | refine go_sl1I ?_ | refine go_sl1V ?_ | refine go_append ?_); clear hw; intro s w hw))
          refine go_if (fun h6 => ?_) (fun h6 => ?_)
          · repeat (first | refine vc_seq ?_ | refine thn_normal ?_ | refine vc_region ?_ | refine ops_nil ?_ | refine go_pure ?_ | refine go_read ?_ | refine vc_block ?_ | refine blk_normal ?_ | refine vc_skip ?_ | refine vc_exit ?_ | refine vc_ret ?_ | refine thn_exit ?_ | refine thn_ret ?_ | refine blk_ret ?_ | refine blk_exit ?_ | refine go_exit_ne ?_ | refine go_condT ?_ | refine go_condF ?_ | refine opsD_op ?_ | refine opsD_nil ?_ | refine go_chk ?_ | refine go_gchk ?_ | refine go_gt ?_ | refine go_gf ?_ | refine go_gpure ?_ | refine go_gread ?_ | refine go_build1 ?_ | refine go_build2 ?_ | refine go_build3 ?_ | ((first | refine go_alloc ?_ | refine go_box ?_); clear hw; intro p w hw) | ((first | refine go_stBoxAgg ?_ | refine go_stElem ?_ | refine go_stBox0 ?_ | refine go_stBox ?_ | refine go_draw ?_); clear hw; intro w hw) | ((first | refine go_makeI ?_ | refine go_makeB ?_ | refine go_makeS ?_ | refine go_sl1I ?_ | refine go_sl1V ?_ | refine go_append ?_); clear hw; intro s w hw))
            have hvl : (arcs.getD k tArc.dflt).dst.toNat < seen.length := by omega
            have hu := unseen_set hvl h6.2
            refine ⟨k + 1, _, true, ⟨rfl, rfl, trivial⟩, by repeat (first | exact agree_refl | (apply agree_upd rfl) | (apply agree_mix rfl) | (apply agree_sets rfl)), ⟨by omega, ⟨by simpa using hlen, fun v h0 h1 hs => ?_, by simp, fun i hi => (sb_set hvl).2 (.inr (hI'.starts i hi)), ?_⟩, (fun h => by cases h), ?_, hw.tail⟩, by omega⟩
            · rcases (sb_set hvl).1 hs with he | hs
              · have : v = (arcs.getD k tArc.dflt).dst := by omega
                rw [this]; exact .step hmem (hI'.sound _ hak.1 hak.2.1 h6.1)
              · exact hI'.sound v h0 h1 hs
            · have := unseen_le (seen.set (arcs.getD k tArc.dflt).dst.toNat true)
              simp only [List.length_set] at this
              simp only [List.length_nil]; omega
            · have : unseen (seen.set (arcs.getD k tArc.dflt).dst.toNat true) + 1 ≤ unseen seen0 := by omega
              simpa using this
          · repeat (first | refine vc_seq ?_ | refine thn_normal ?_ | refine vc_region ?_ | refine ops_nil ?_ | refine go_pure ?_ | refine go_read ?_ | refine vc_block ?_ | refine blk_normal ?_ | refine vc_skip ?_ | refine vc_exit ?_ | refine vc_ret ?_ | refine thn_exit ?_ | refine thn_ret ?_ | refine blk_ret ?_ | refine blk_exit ?_ | refine go_exit_ne ?_ | refine go_condT ?_ | refine go_condF ?_ | refine opsD_op ?_ | refine opsD_nil ?_ | refine go_chk ?_ | refine go_gchk ?_ | refine go_gt ?_ | refine go_gf ?_ | refine go_gpure ?_ | refine go_gread ?_ | refine go_build1 ?_ | refine go_build2 ?_ | refine go_build3 ?_ | ((first | refine go_alloc ?_ | refine go_box ?_); clear hw; intro p w hw) | ((first | refine go_stBoxAgg ?_ | refine go_stElem ?_ | refine go_stBox0 ?_ | refine go_stBox ?_ | refine go_draw ?_); clear hw; intro w hw) | ((first | refine go_makeI ?_ | refine go_makeB ?_ | refine go_makeS ?_ | refine go_sl1I ?_ | refine go_sl1V ?_ | refine go_append ?_); clear hw; intro s w hw))
            refine ⟨k + 1, seen, c, ⟨rfl, rfl, trivial⟩, by repeat (first | exact agree_refl | (apply agree_upd rfl) | (apply agree_mix rfl) | (apply agree_sets rfl)), ⟨by omega, hI', fun h => ⟨(hcl' h).1, fun i hi hs => ?_⟩, hmu, hw.tail⟩, by omega⟩
            by_cases hik : i = k
            · subst hik
              rcases h6 with h6 | h6
              · exact absurd (hs.symm.trans h6) (by decide)
              · exact h6
            · exact (hcl' h).2 i (by omega) hs
        · repeat (first | refine vc_seq ?_ | refine thn_normal ?_ | refine vc_region ?_ | refine ops_nil ?_ | refine go_pure ?_ | refine go_read ?_ | refine vc_block ?_ | refine blk_normal ?_ | refine vc_skip ?_ | refine vc_exit ?_ | refine vc_ret ?_ | refine thn_exit ?_ | refine thn_ret ?_ | refine blk_ret ?_ | refine blk_exit ?_ | refine go_exit_ne ?_ | refine go_condT ?_ | refine go_condF ?_ | refine opsD_op ?_ | refine opsD_nil ?_ | refine go_chk ?_ | refine go_gchk ?_ | refine go_gt ?_ | refine go_gf ?_ | refine go_gpure ?_ | refine go_gread ?_ | refine go_build1 ?_ | refine go_build2 ?_ | refine go_build3 ?_ | ((first | refine go_alloc ?_ | refine go_box ?_); clear hw; intro p w hw) | ((first | refine go_stBoxAgg ?_ | refine go_stElem ?_ | refine go_stBox0 ?_ | refine go_stBox ?_ | refine go_draw ?_); clear hw; intro w hw) | ((first | refine go_makeI ?_ | refine go_makeB ?_ | refine go_makeS ?_ | refine go_sl1I ?_ | refine go_sl1V ?_ | refine go_append ?_); clear hw; intro s w hw))
          refine ⟨seen, c, ⟨rfl, trivial⟩, by repeat (first | exact agree_refl | (apply agree_upd rfl) | (apply agree_mix rfl) | (apply agree_sets rfl)), ⟨hI', fun h i hi hs => (hcl' h).2 i (by omega) hs, hw⟩, ?_⟩
          simp only [if_true]
          omega
      · subst h4
        have hlen := hI.len
        simp only at hlen
        have hres : seen0 = reachL n arcs fr := by
          refine reach_of hlen hI.sound (fun v hv => ?_) (fun ar har hs => ?_)
          · obtain ⟨i, hi, he⟩ := List.getElem_of_mem hv
            have := hI.starts i hi
            rw [getD_at hi, he] at this
            exact this
          · obtain ⟨i, hi, he⟩ := List.getElem_of_mem har
            have := hcl rfl i hi
            rw [getD_at hi, he] at this
            exact this hs
        repeat (first | refine vc_seq ?_ | refine thn_normal ?_ | refine vc_region ?_ | refine ops_nil ?_ | refine go_pure ?_ | refine go_read ?_ | refine vc_block ?_ | refine blk_normal ?_ | refine vc_skip ?_ | refine vc_exit ?_ | refine vc_ret ?_ | refine thn_exit ?_ | refine thn_ret ?_ | refine blk_ret ?_ | refine blk_exit ?_ | refine go_exit_ne ?_ | refine go_condT ?_ | refine go_condF ?_ | refine opsD_op ?_ | refine opsD_nil ?_ | refine go_chk ?_ | refine go_gchk ?_ | refine go_gt ?_ | refine go_gf ?_ | refine go_gpure ?_ | refine go_gread ?_ | refine go_build1 ?_ | refine go_build2 ?_ | refine go_build3 ?_ | ((first | refine go_alloc ?_ | refine go_box ?_); clear hw; intro p w hw) | ((first | refine go_stBoxAgg ?_ | refine go_stElem ?_ | refine go_stBox0 ?_ | refine go_stBox ?_ | refine go_draw ?_); clear hw; intro w hw) | ((first | refine go_makeI ?_ | refine go_makeB ?_ | refine go_makeS ?_ | refine go_sl1I ?_ | refine go_sl1V ?_ | refine go_append ?_); clear hw; intro s w hw))
        exact res_two (v := s) (v' := .int .i64 0) rfl rfl rfl ⟨_, by rw [hR], by rw [hR, ← hres]; exact hw⟩
  · refine ⟨_, rfl, ?_⟩
    have hR := reachR_bad (n := n) (arcs := arcs) (fr := fr) hcode
    repeat (first | refine vc_seq ?_ | refine thn_normal ?_ | refine vc_region ?_ | refine ops_nil ?_ | refine go_pure ?_ | refine go_read ?_ | refine vc_block ?_ | refine blk_normal ?_ | refine vc_skip ?_ | refine vc_exit ?_ | refine vc_ret ?_ | refine thn_exit ?_ | refine thn_ret ?_ | refine blk_ret ?_ | refine blk_exit ?_ | refine go_exit_ne ?_ | refine go_condT ?_ | refine go_condF ?_ | refine opsD_op ?_ | refine opsD_nil ?_ | refine go_chk ?_ | refine go_gchk ?_ | refine go_gt ?_ | refine go_gf ?_ | refine go_gpure ?_ | refine go_gread ?_ | refine go_build1 ?_ | refine go_build2 ?_ | refine go_build3 ?_ | ((first | refine go_alloc ?_ | refine go_box ?_); clear hw; intro p w hw) | ((first | refine go_stBoxAgg ?_ | refine go_stElem ?_ | refine go_stBox0 ?_ | refine go_stBox ?_ | refine go_draw ?_); clear hw; intro w hw) | ((first | refine go_makeI ?_ | refine go_makeB ?_ | refine go_makeS ?_ | refine go_sl1I ?_ | refine go_sl1V ?_ | refine go_append ?_); clear hw; intro s w hw))
    refine go_if (fun h1 => ?_) (fun h1 => ?_)
    · repeat (first | refine vc_seq ?_ | refine thn_normal ?_ | refine vc_region ?_ | refine ops_nil ?_ | refine go_pure ?_ | refine go_read ?_ | refine vc_block ?_ | refine blk_normal ?_ | refine vc_skip ?_ | refine vc_exit ?_ | refine vc_ret ?_ | refine thn_exit ?_ | refine thn_ret ?_ | refine blk_ret ?_ | refine blk_exit ?_ | refine go_exit_ne ?_ | refine go_condT ?_ | refine go_condF ?_ | refine opsD_op ?_ | refine opsD_nil ?_ | refine go_chk ?_ | refine go_gchk ?_ | refine go_gt ?_ | refine go_gf ?_ | refine go_gpure ?_ | refine go_gread ?_ | refine go_build1 ?_ | refine go_build2 ?_ | refine go_build3 ?_ | ((first | refine go_alloc ?_ | refine go_box ?_); clear hw; intro p w hw) | ((first | refine go_stBoxAgg ?_ | refine go_stElem ?_ | refine go_stBox0 ?_ | refine go_stBox ?_ | refine go_draw ?_); clear hw; intro w hw) | ((first | refine go_makeI ?_ | refine go_makeB ?_ | refine go_makeS ?_ | refine go_sl1I ?_ | refine go_sl1V ?_ | refine go_append ?_); clear hw; intro s w hw))
      exact res_two (v := .slice none 0 0) (v' := .int .i64 (checkCode n arcs)) rfl rfl rfl ⟨_, by rw [hR], by rw [hR]; exact hw.nil⟩
    · exact absurd h1 hcode

set_option maxHeartbeats 2000000 in
theorem GraphReaches_walk {w0 : World} {n : Int} {a f : Value} {arcs : List Arc} {fr : List Int} (ha : RS tArc w0 a arcs) (hf : RS tInt w0 f fr) :
    Calls Try.prog 4 #[.agg #[.int .i64 n, a], f] w0 fun e w' => e = .returned (.bool true) ∧ Sat w0 w' [] := by
  have hla := ha.big
  have hlf := hf.big
  have hw := Sat.start w0
  refine calls_of_vc (args := [.agg #[.int .i64 n, a], f]) mixed Try.func4 rfl (by kernel_rfl) (Nat.le_of_ble_eq_true rfl) ?_
  repeat (first | refine vc_seq ?_ | refine thn_normal ?_ | refine vc_region ?_ | refine ops_nil ?_ | refine go_pure ?_ | refine go_read ?_ | refine vc_block ?_ | refine blk_normal ?_ | refine vc_skip ?_ | refine vc_exit ?_ | refine vc_ret ?_ | refine thn_exit ?_ | refine thn_ret ?_ | refine blk_ret ?_ | refine blk_exit ?_ | refine go_exit_ne ?_ | refine go_condT ?_ | refine go_condF ?_ | refine opsD_op ?_ | refine opsD_nil ?_ | refine go_chk ?_ | refine go_gchk ?_ | refine go_gt ?_ | refine go_gf ?_ | refine go_gpure ?_ | refine go_gread ?_ | refine go_build1 ?_ | refine go_build2 ?_ | refine go_build3 ?_ | ((first | refine go_alloc ?_ | refine go_box ?_); clear hw; intro p w hw) | ((first | refine go_stBoxAgg ?_ | refine go_stElem ?_ | refine go_stBox0 ?_ | refine go_stBox ?_ | refine go_draw ?_); clear hw; intro w hw) | ((first | refine go_makeI ?_ | refine go_makeB ?_ | refine go_makeS ?_ | refine go_sl1I ?_ | refine go_sl1V ?_ | refine go_append ?_); clear hw; intro s w hw))
  refine st_call rfl awake_spec ?_
  rintro _ w' ⟨rfl, hk⟩
  replace hw := hw.call0 hk
  clear hk
  refine ⟨_, rfl, ?_⟩
  repeat (first | refine vc_seq ?_ | refine thn_normal ?_ | refine vc_region ?_ | refine ops_nil ?_ | refine go_pure ?_ | refine go_read ?_ | refine vc_block ?_ | refine blk_normal ?_ | refine vc_skip ?_ | refine vc_exit ?_ | refine vc_ret ?_ | refine thn_exit ?_ | refine thn_ret ?_ | refine blk_ret ?_ | refine blk_exit ?_ | refine go_exit_ne ?_ | refine go_condT ?_ | refine go_condF ?_ | refine opsD_op ?_ | refine opsD_nil ?_ | refine go_chk ?_ | refine go_gchk ?_ | refine go_gt ?_ | refine go_gf ?_ | refine go_gpure ?_ | refine go_gread ?_ | refine go_build1 ?_ | refine go_build2 ?_ | refine go_build3 ?_ | ((first | refine go_alloc ?_ | refine go_box ?_); clear hw; intro p w hw) | ((first | refine go_stBoxAgg ?_ | refine go_stElem ?_ | refine go_stBox0 ?_ | refine go_stBox ?_ | refine go_draw ?_); clear hw; intro w hw) | ((first | refine go_makeI ?_ | refine go_makeB ?_ | refine go_makeS ?_ | refine go_sl1I ?_ | refine go_sl1V ?_ | refine go_append ?_); clear hw; intro s w hw))
  refine st_call rfl (small_spec (a := a) (n := n) (ha.at hw)) ?_
  rintro _ w' ⟨rfl, hk⟩
  replace hw := hw.call0 hk
  clear hk
  refine ⟨_, rfl, ?_⟩
  repeat (first | refine vc_seq ?_ | refine thn_normal ?_ | refine vc_region ?_ | refine ops_nil ?_ | refine go_pure ?_ | refine go_read ?_ | refine vc_block ?_ | refine blk_normal ?_ | refine vc_skip ?_ | refine vc_exit ?_ | refine vc_ret ?_ | refine thn_exit ?_ | refine thn_ret ?_ | refine blk_ret ?_ | refine blk_exit ?_ | refine go_exit_ne ?_ | refine go_condT ?_ | refine go_condF ?_ | refine opsD_op ?_ | refine opsD_nil ?_ | refine go_chk ?_ | refine go_gchk ?_ | refine go_gt ?_ | refine go_gf ?_ | refine go_gpure ?_ | refine go_gread ?_ | refine go_build1 ?_ | refine go_build2 ?_ | refine go_build3 ?_ | ((first | refine go_alloc ?_ | refine go_box ?_); clear hw; intro p w hw) | ((first | refine go_stBoxAgg ?_ | refine go_stElem ?_ | refine go_stBox0 ?_ | refine go_stBox ?_ | refine go_draw ?_); clear hw; intro w hw) | ((first | refine go_makeI ?_ | refine go_makeB ?_ | refine go_makeS ?_ | refine go_sl1I ?_ | refine go_sl1V ?_ | refine go_append ?_); clear hw; intro s w hw))
  refine go_if (fun h1 => ?_) (fun h1 => ?_)
  · repeat (first | refine vc_seq ?_ | refine thn_normal ?_ | refine vc_region ?_ | refine ops_nil ?_ | refine go_pure ?_ | refine go_read ?_ | refine vc_block ?_ | refine blk_normal ?_ | refine vc_skip ?_ | refine vc_exit ?_ | refine vc_ret ?_ | refine thn_exit ?_ | refine thn_ret ?_ | refine blk_ret ?_ | refine blk_exit ?_ | refine go_exit_ne ?_ | refine go_condT ?_ | refine go_condF ?_ | refine opsD_op ?_ | refine opsD_nil ?_ | refine go_chk ?_ | refine go_gchk ?_ | refine go_gt ?_ | refine go_gf ?_ | refine go_gpure ?_ | refine go_gread ?_ | refine go_build1 ?_ | refine go_build2 ?_ | refine go_build3 ?_ | ((first | refine go_alloc ?_ | refine go_box ?_); clear hw; intro p w hw) | ((first | refine go_stBoxAgg ?_ | refine go_stElem ?_ | refine go_stBox0 ?_ | refine go_stBox ?_ | refine go_draw ?_); clear hw; intro w hw) | ((first | refine go_makeI ?_ | refine go_makeB ?_ | refine go_makeS ?_ | refine go_sl1I ?_ | refine go_sl1V ?_ | refine go_append ?_); clear hw; intro s w hw))
    refine st_call rfl awake_spec ?_
    rintro _ w' ⟨rfl, hk⟩
    replace hw := hw.call0 hk
    clear hk
    refine ⟨_, rfl, ?_⟩
    repeat (first | refine vc_seq ?_ | refine thn_normal ?_ | refine vc_region ?_ | refine ops_nil ?_ | refine go_pure ?_ | refine go_read ?_ | refine vc_block ?_ | refine blk_normal ?_ | refine vc_skip ?_ | refine vc_exit ?_ | refine vc_ret ?_ | refine thn_exit ?_ | refine thn_ret ?_ | refine blk_ret ?_ | refine blk_exit ?_ | refine go_exit_ne ?_ | refine go_condT ?_ | refine go_condF ?_ | refine opsD_op ?_ | refine opsD_nil ?_ | refine go_chk ?_ | refine go_gchk ?_ | refine go_gt ?_ | refine go_gf ?_ | refine go_gpure ?_ | refine go_gread ?_ | refine go_build1 ?_ | refine go_build2 ?_ | refine go_build3 ?_ | ((first | refine go_alloc ?_ | refine go_box ?_); clear hw; intro p w hw) | ((first | refine go_stBoxAgg ?_ | refine go_stElem ?_ | refine go_stBox0 ?_ | refine go_stBox ?_ | refine go_draw ?_); clear hw; intro w hw) | ((first | refine go_makeI ?_ | refine go_makeB ?_ | refine go_makeS ?_ | refine go_sl1I ?_ | refine go_sl1V ?_ | refine go_append ?_); clear hw; intro s w hw))
    exact res_one (v := .bool true) rfl rfl ⟨rfl, hw.tail⟩
  · repeat (first | refine vc_seq ?_ | refine thn_normal ?_ | refine vc_region ?_ | refine ops_nil ?_ | refine go_pure ?_ | refine go_read ?_ | refine vc_block ?_ | refine blk_normal ?_ | refine vc_skip ?_ | refine vc_exit ?_ | refine vc_ret ?_ | refine thn_exit ?_ | refine thn_ret ?_ | refine blk_ret ?_ | refine blk_exit ?_ | refine go_exit_ne ?_ | refine go_condT ?_ | refine go_condF ?_ | refine opsD_op ?_ | refine opsD_nil ?_ | refine go_chk ?_ | refine go_gchk ?_ | refine go_gt ?_ | refine go_gf ?_ | refine go_gpure ?_ | refine go_gread ?_ | refine go_build1 ?_ | refine go_build2 ?_ | refine go_build3 ?_ | ((first | refine go_alloc ?_ | refine go_box ?_); clear hw; intro p w hw) | ((first | refine go_stBoxAgg ?_ | refine go_stElem ?_ | refine go_stBox0 ?_ | refine go_stBox ?_ | refine go_draw ?_); clear hw; intro w hw) | ((first | refine go_makeI ?_ | refine go_makeB ?_ | refine go_makeS ?_ | refine go_sl1I ?_ | refine go_sl1V ?_ | refine go_append ?_); clear hw; intro s w hw))
    refine st_call rfl (Reach_spec (a := a) (n := n) (f := f) (ha.at hw) (hf.at hw)) ?_
    rintro _ w' ⟨got, rfl, hk⟩
    replace hw := hw.call1 hk
    clear hk
    refine ⟨_, rfl, ?_⟩
    repeat (first | refine vc_seq ?_ | refine thn_normal ?_ | refine vc_region ?_ | refine ops_nil ?_ | refine go_pure ?_ | refine go_read ?_ | refine vc_block ?_ | refine blk_normal ?_ | refine vc_skip ?_ | refine vc_exit ?_ | refine vc_ret ?_ | refine thn_exit ?_ | refine thn_ret ?_ | refine blk_ret ?_ | refine blk_exit ?_ | refine go_exit_ne ?_ | refine go_condT ?_ | refine go_condF ?_ | refine opsD_op ?_ | refine opsD_nil ?_ | refine go_chk ?_ | refine go_gchk ?_ | refine go_gt ?_ | refine go_gf ?_ | refine go_gpure ?_ | refine go_gread ?_ | refine go_build1 ?_ | refine go_build2 ?_ | refine go_build3 ?_ | ((first | refine go_alloc ?_ | refine go_box ?_); clear hw; intro p w hw) | ((first | refine go_stBoxAgg ?_ | refine go_stElem ?_ | refine go_stBox0 ?_ | refine go_stBox ?_ | refine go_draw ?_); clear hw; intro w hw) | ((first | refine go_makeI ?_ | refine go_makeB ?_ | refine go_makeS ?_ | refine go_sl1I ?_ | refine go_sl1V ?_ | refine go_append ?_); clear hw; intro s w hw))
    refine st_call rfl (refReach_spec (a := a) (n := n) (f := f) (ha.at hw) (hf.at hw)) ?_
    rintro _ w' ⟨want, rfl, hk⟩
    replace hw := hw.call1 hk
    clear hk
    refine ⟨_, rfl, ?_⟩
    repeat (first | refine vc_seq ?_ | refine thn_normal ?_ | refine vc_region ?_ | refine ops_nil ?_ | refine go_pure ?_ | refine go_read ?_ | refine vc_block ?_ | refine blk_normal ?_ | refine vc_skip ?_ | refine vc_exit ?_ | refine vc_ret ?_ | refine thn_exit ?_ | refine thn_ret ?_ | refine blk_ret ?_ | refine blk_exit ?_ | refine go_exit_ne ?_ | refine go_condT ?_ | refine go_condF ?_ | refine opsD_op ?_ | refine opsD_nil ?_ | refine go_chk ?_ | refine go_gchk ?_ | refine go_gt ?_ | refine go_gf ?_ | refine go_gpure ?_ | refine go_gread ?_ | refine go_build1 ?_ | refine go_build2 ?_ | refine go_build3 ?_ | ((first | refine go_alloc ?_ | refine go_box ?_); clear hw; intro p w hw) | ((first | refine go_stBoxAgg ?_ | refine go_stElem ?_ | refine go_stBox0 ?_ | refine go_stBox ?_ | refine go_draw ?_); clear hw; intro w hw) | ((first | refine go_makeI ?_ | refine go_makeB ?_ | refine go_makeS ?_ | refine go_sl1I ?_ | refine go_sl1V ?_ | refine go_append ?_); clear hw; intro s w hw))
    refine st_call rfl (same_spec (a := got) (b := want) (rsO hw) (rsO hw)) ?_
    rintro _ w' ⟨rfl, hk⟩
    replace hw := hw.call0 hk
    clear hk
    refine ⟨.bool true, by rw [decide_eq_true rfl], ?_⟩
    repeat (first | refine vc_seq ?_ | refine thn_normal ?_ | refine vc_region ?_ | refine ops_nil ?_ | refine go_pure ?_ | refine go_read ?_ | refine vc_block ?_ | refine blk_normal ?_ | refine vc_skip ?_ | refine vc_exit ?_ | refine vc_ret ?_ | refine thn_exit ?_ | refine thn_ret ?_ | refine blk_ret ?_ | refine blk_exit ?_ | refine go_exit_ne ?_ | refine go_condT ?_ | refine go_condF ?_ | refine opsD_op ?_ | refine opsD_nil ?_ | refine go_chk ?_ | refine go_gchk ?_ | refine go_gt ?_ | refine go_gf ?_ | refine go_gpure ?_ | refine go_gread ?_ | refine go_build1 ?_ | refine go_build2 ?_ | refine go_build3 ?_ | ((first | refine go_alloc ?_ | refine go_box ?_); clear hw; intro p w hw) | ((first | refine go_stBoxAgg ?_ | refine go_stElem ?_ | refine go_stBox0 ?_ | refine go_stBox ?_ | refine go_draw ?_); clear hw; intro w hw) | ((first | refine go_makeI ?_ | refine go_makeB ?_ | refine go_makeS ?_ | refine go_sl1I ?_ | refine go_sl1V ?_ | refine go_append ?_); clear hw; intro s w hw))
    refine st_call rfl (Num_spec _) ?_
    rintro _ w' ⟨rfl, hk⟩
    replace hw := hw.call0 hk
    clear hk
    refine ⟨_, rfl, ?_⟩
    repeat (first | refine vc_seq ?_ | refine thn_normal ?_ | refine vc_region ?_ | refine ops_nil ?_ | refine go_pure ?_ | refine go_read ?_ | refine vc_block ?_ | refine blk_normal ?_ | refine vc_skip ?_ | refine vc_exit ?_ | refine vc_ret ?_ | refine thn_exit ?_ | refine thn_ret ?_ | refine blk_ret ?_ | refine blk_exit ?_ | refine go_exit_ne ?_ | refine go_condT ?_ | refine go_condF ?_ | refine opsD_op ?_ | refine opsD_nil ?_ | refine go_chk ?_ | refine go_gchk ?_ | refine go_gt ?_ | refine go_gf ?_ | refine go_gpure ?_ | refine go_gread ?_ | refine go_build1 ?_ | refine go_build2 ?_ | refine go_build3 ?_ | ((first | refine go_alloc ?_ | refine go_box ?_); clear hw; intro p w hw) | ((first | refine go_stBoxAgg ?_ | refine go_stElem ?_ | refine go_stBox0 ?_ | refine go_stBox ?_ | refine go_draw ?_); clear hw; intro w hw) | ((first | refine go_makeI ?_ | refine go_makeB ?_ | refine go_makeS ?_ | refine go_sl1I ?_ | refine go_sl1V ?_ | refine go_append ?_); clear hw; intro s w hw))
    refine res_one (v := .bool true) rfl ?_ ⟨rfl, hw.tail.tail.tail⟩
    (conv => lhs; whnf)
    simp
end Go.Proofs.Ytlfhflgafeblnaa
