
/-
  Contracts of the reference's 'Project' and 'Same'.
-/
import Derived.Test.YtemnlcnjpjdoaaaGreatDoorWRef40
import Derived.Test.YtemnlcnjpjdoaaaGreatDoorMW7
set_option linter.unusedSimpArgs false
set_option linter.unusedVariables false
namespace Go.Proofs.YtemnlcnjpjdoaaaGreatDoor
open Go.Sl Go
attribute [local irreducible] vc opsW opsD opV opW PureV ReadV Thn Blk


set_option maxRecDepth 8000 in
set_option maxHeartbeats 4000000 in
theorem rProject_spec {w0 : World} {a b c d va : Value} {vs : List OpV} {t : TTask} {L : List Int} (ht : RTask w0 a b c d vs t) (hp : RS tInt w0 va L) (hs : SmallT t) (hL : InV t.vars L) (hB : cntL t.vars L ≤ 64) :
    Calls Tryz.prog 46 #[.agg #[a, b, c, d], va] w0 fun e w' => ∃ cv ev gv, e = .returned (sysV (sysOk t L) cv ev gv) ∧ SysAt w0 w' cv ev gv (sysOk t L) := by
  have ht' := ht
  have hg := hs.good
  obtain ⟨ha, hb, hc, hd⟩ := ht
  have hrs := hd.rs
  have hdl := hd.len
  have hO := hs.ops
  have hM := hs.many
  have hN1 := cntL_pos hg.pos hL.mem
  have hlen : (statesL t.vars).length ≤ 512 := by rw [statesL_len hg.pos]; omega
  have hpe := pEdges_le t L
  have hpe2 : t.ops.length * (statesL t.vars).length ≤ 20 * 512 := Nat.mul_le_mul hO hlen
  obtain ⟨m1, m2⟩ := mul_bd (a := cntL t.vars L) (b := vs.length) (A := 64) (B := 20) (by omega) hB (by omega) (by omega)
  obtain ⟨m3, m4⟩ := mul_bd (a := cntL t.vars L * vs.length) (b := cntL t.vars L) (A := 64 * 20) (B := 64) m1 m2 (by omega) hB
  have hw := Sat.start w0
  refine calls_of_vc (args := [.agg #[a, b, c, d], va]) mixed Tryz.func46 rfl (by kernel_rfl) (Nat.le_of_ble_eq_true rfl) ?_
  refine vc_seq ?_
  refine vc_region ?_
  refine go_box ?_
  clear hw
  intro pt w hw
  refine go_alloc ?_
  clear hw
  intro pr w hw
  repeat (first | refine go_run ?_ | (refine go_newP ?_; clear hw; intro p w hw) | (refine go_newW ?_; clear hw; intro w hw) | (refine go_newS ?_; clear hw; intro s w hw))
  refine st_call rfl (rMany_spec (va := va) (ht'.at hw) (hp.at hw) hg.pos hL.mem (by omega)) ?_
  rintro _ w' ⟨rfl, hk'⟩
  replace hw := hw.call0 hk'
  clear hk'
  refine ⟨_, rfl, ?_⟩
  repeat (first | refine go_run ?_ | (refine go_newP ?_; clear hw; intro p w hw) | (refine go_newWr ?_; clear hw; intro w hw) | (refine go_newS ?_; clear hw; intro s w hw))
  refine vc_cut [21, 22, 23, 24, 25, 26, 27, 28, 29, 30, 6] (G := Addr × Value) (fun g => [(6, .pointer (some g.1))]) (fun g w => Sat w0 w [Box g.1 96 [.int .i64 (cntL t.vars L), .int .i64 (idxL t.vars L t.init), .slice none 0 0, .slice none 0 0, g.2], OS tBool 4 g.2 (goalsK t L (cntL t.vars L).toNat), Box pr 96 [.int .i64 0, .int .i64 0, .slice none 0 0, .slice none 0 0, .slice none 0 0], Box pt 26 [a, b, c, d]]) (fun _ => rfl) ?_ ?_
  · refine vc_tree (.step 0 [.op 0] (.step 2 [.op 2] (.step 3 [.op 3] (.step 7 [.op 7] (.step 1 [.op 1] (.step 4 [.op 4] (.step 6 [.op 6] (.alt 5 [.op 5, .chk 6] (.alt 8 [.op 8] (.alt 9 [.op 9] (.step 10 [.op 10, .chk 1, .chk 4, .chk 6] (.step 11 [.op 11] (.lin []))) (.alt 10 [.op 10, .chk 1, .chk 4, .chk 6] (.step 9 [.op 9] (.step 11 [.op 11] (.lin []))) (.stop))) (.alt 10 [.op 10, .chk 1, .chk 4, .chk 6] (.step 8 [.op 8] (.step 9 [.op 9] (.step 11 [.op 11] (.lin [])))) (.stop))) (.alt 10 [.op 10, .chk 1, .chk 4, .chk 6] (.step 5 [.op 5, .chk 6] (.step 8 [.op 8] (.step 9 [.op 9] (.step 11 [.op 11] (.lin []))))) (.stop)))))))))) hw (by kernel_rfl) (by kernel_rfl) ?_; clear hw; intro w hw
    repeat (first | refine go_run ?_ | (refine go_newP ?_; clear hw; intro p w hw) | (refine go_newWr ?_; clear hw; intro w hw) | (refine go_newS ?_; clear hw; intro s w hw))
    refine opsT_alt ?_ (opsT_alt ?_ opsT_stop)
    · repeat (first | refine go_run ?_ | (refine go_newP ?_; clear hw; intro p w hw) | (refine go_newWr ?_; clear hw; intro w hw) | (refine go_newS ?_; clear hw; intro s w hw))
      refine st_call rfl (rIndex_spec (va := va) (s := t.init) (ht'.at hw) (hp.at hw) (hb.at hw) hg hL.mem hg.init (by omega)) ?_
      rintro _ w' ⟨rfl, hk'⟩
      replace hw := hw.call0 hk'
      clear hk'
      refine ⟨_, rfl, ?_⟩
      repeat (first | refine go_run ?_ | (refine go_newP ?_; clear hw; intro p w hw) | (refine go_newWr ?_; clear hw; intro w hw) | (refine go_newS ?_; clear hw; intro s w hw))
      refine opsT_alt ?_ (opsT_alt ?_ opsT_stop)
      · repeat (first | refine go_run ?_ | (refine go_newP ?_; clear hw; intro p w hw) | (refine go_newWr ?_; clear hw; intro w hw) | (refine go_newS ?_; clear hw; intro s w hw))
        refine st_call rfl (rGoals_spec (va := va) (ht'.at hw) (hp.at hw) hg hL (by omega)) ?_
        rintro _ w' ⟨gv, rfl, hk'⟩
        replace hw := hw.call1 hk'
        clear hk'
        have og := (hw.rs 0 rfl).one
        refine ⟨_, rfl, ?_⟩
        repeat (first | refine go_run ?_ | (refine go_newP ?_; clear hw; intro p w hw) | (refine go_newWr ?_; clear hw; intro w hw) | (refine go_newS ?_; clear hw; intro s w hw))
        refine opsT_alt ?_ (opsT_alt ?_ opsT_stop)
        · repeat (first | refine go_run ?_ | (refine go_newP ?_; clear hw; intro p w hw) | (refine go_newWr ?_; clear hw; intro w hw) | (refine go_newS ?_; clear hw; intro s w hw))
          refine st_build3 (v1 := .int .i64 (cntL t.vars L)) (v2 := .int .i64 (idxL t.vars L t.init)) (v3 := gv) rfl rfl rfl rfl (by simp only [List.all_cons, List.all_nil, og]; rfl) ?_
          repeat (first | refine go_run ?_ | (refine go_newP ?_; clear hw; intro p w hw) | (refine go_newWr ?_; clear hw; intro w hw) | (refine go_newS ?_; clear hw; intro s w hw))
          obtain ⟨px, hpx⟩ : ∃ px, px = p := ⟨p, rfl⟩
          subst hpx
          repeat (first | refine go_run ?_ | (refine go_newP ?_; clear hw; intro p w hw) | (refine go_newS ?_; clear hw; intro s w hw))
          refine st_boxAgg (n := 5) (p := px) (vs := [.int .i64 (cntL t.vars L), .int .i64 (idxL t.vars L t.init), .slice none 0 0, .slice none 0 0, gv]) rfl rfl hw inferInstance rfl rfl (by simp only [List.all_cons, List.all_nil, og]; rfl) ?_
          clear hw
          intro w hw
          repeat (first | refine go_run ?_ | (refine go_newP ?_; clear hw; intro p w hw) | (refine go_newWr ?_; clear hw; intro w hw) | (refine go_newS ?_; clear hw; intro s w hw))
          exact ⟨(px, gv), ⟨rfl, trivial⟩, by repeat (first | exact agree_refl | (apply agree_upd rfl) | (apply agree_mix rfl) | (apply agree_sets rfl)), hw⟩
        · repeat (first | refine go_run ?_ | (refine go_newP ?_; clear hw; intro p w hw) | (refine go_newWr ?_; clear hw; intro w hw) | (refine go_newS ?_; clear hw; intro s w hw))
          obtain ⟨px, hpx⟩ : ∃ px, px = p := ⟨p, rfl⟩
          subst hpx
          repeat (first | refine go_run ?_ | (refine go_newP ?_; clear hw; intro p w hw) | (refine go_newWr ?_; clear hw; intro w hw) | (refine go_newS ?_; clear hw; intro s w hw))
          refine st_build3 (v1 := .int .i64 (cntL t.vars L)) (v2 := .int .i64 (idxL t.vars L t.init)) (v3 := gv) rfl rfl rfl rfl (by simp only [List.all_cons, List.all_nil, og]; rfl) ?_
          repeat (first | refine go_run ?_ | (refine go_newP ?_; clear hw; intro p w hw) | (refine go_newS ?_; clear hw; intro s w hw))
          refine st_boxAgg (n := 5) (p := px) (vs := [.int .i64 (cntL t.vars L), .int .i64 (idxL t.vars L t.init), .slice none 0 0, .slice none 0 0, gv]) rfl rfl hw inferInstance rfl rfl (by simp only [List.all_cons, List.all_nil, og]; rfl) ?_
          clear hw
          intro w hw
          repeat (first | refine go_run ?_ | (refine go_newP ?_; clear hw; intro p w hw) | (refine go_newWr ?_; clear hw; intro w hw) | (refine go_newS ?_; clear hw; intro s w hw))
          exact ⟨(px, gv), ⟨rfl, trivial⟩, by repeat (first | exact agree_refl | (apply agree_upd rfl) | (apply agree_mix rfl) | (apply agree_sets rfl)), hw⟩
      · repeat (first | refine go_run ?_ | (refine go_newP ?_; clear hw; intro p w hw) | (refine go_newWr ?_; clear hw; intro w hw) | (refine go_newS ?_; clear hw; intro s w hw))
        obtain ⟨px, hpx⟩ : ∃ px, px = p := ⟨p, rfl⟩
        subst hpx
        repeat (first | refine go_run ?_ | (refine go_newP ?_; clear hw; intro p w hw) | (refine go_newWr ?_; clear hw; intro w hw) | (refine go_newS ?_; clear hw; intro s w hw))
        refine st_call rfl (rGoals_spec (va := va) (ht'.at hw) (hp.at hw) hg hL (by omega)) ?_
        rintro _ w' ⟨gv, rfl, hk'⟩
        replace hw := hw.call1 hk'
        clear hk'
        have og := (hw.rs 0 rfl).one
        refine ⟨_, rfl, ?_⟩
        repeat (first | refine go_run ?_ | (refine go_newP ?_; clear hw; intro p w hw) | (refine go_newWr ?_; clear hw; intro w hw) | (refine go_newS ?_; clear hw; intro s w hw))
        repeat (first | refine go_run ?_ | (refine go_newP ?_; clear hw; intro p w hw) | (refine go_newWr ?_; clear hw; intro w hw) | (refine go_newS ?_; clear hw; intro s w hw))
        refine st_build3 (v1 := .int .i64 (cntL t.vars L)) (v2 := .int .i64 (idxL t.vars L t.init)) (v3 := gv) rfl rfl rfl rfl (by simp only [List.all_cons, List.all_nil, og]; rfl) ?_
        repeat (first | refine go_run ?_ | (refine go_newP ?_; clear hw; intro p w hw) | (refine go_newS ?_; clear hw; intro s w hw))
        refine st_boxAgg (n := 5) (p := px) (vs := [.int .i64 (cntL t.vars L), .int .i64 (idxL t.vars L t.init), .slice none 0 0, .slice none 0 0, gv]) rfl rfl hw inferInstance rfl rfl (by simp only [List.all_cons, List.all_nil, og]; rfl) ?_
        clear hw
        intro w hw
        repeat (first | refine go_run ?_ | (refine go_newP ?_; clear hw; intro p w hw) | (refine go_newWr ?_; clear hw; intro w hw) | (refine go_newS ?_; clear hw; intro s w hw))
        exact ⟨(px, gv), ⟨rfl, trivial⟩, by repeat (first | exact agree_refl | (apply agree_upd rfl) | (apply agree_mix rfl) | (apply agree_sets rfl)), hw.swap⟩
    · repeat (first | refine go_run ?_ | (refine go_newP ?_; clear hw; intro p w hw) | (refine go_newWr ?_; clear hw; intro w hw) | (refine go_newS ?_; clear hw; intro s w hw))
      obtain ⟨px, hpx⟩ : ∃ px, px = p := ⟨p, rfl⟩
      subst hpx
      repeat (first | refine go_run ?_ | (refine go_newP ?_; clear hw; intro p w hw) | (refine go_newWr ?_; clear hw; intro w hw) | (refine go_newS ?_; clear hw; intro s w hw))
      refine st_call rfl (rIndex_spec (va := va) (s := t.init) (ht'.at hw) (hp.at hw) (hb.at hw) hg hL.mem hg.init (by omega)) ?_
      rintro _ w' ⟨rfl, hk'⟩
      replace hw := hw.call0 hk'
      clear hk'
      refine ⟨_, rfl, ?_⟩
      repeat (first | refine go_run ?_ | (refine go_newP ?_; clear hw; intro p w hw) | (refine go_newWr ?_; clear hw; intro w hw) | (refine go_newS ?_; clear hw; intro s w hw))
      repeat (first | refine go_run ?_ | (refine go_newP ?_; clear hw; intro p w hw) | (refine go_newWr ?_; clear hw; intro w hw) | (refine go_newS ?_; clear hw; intro s w hw))
      refine st_call rfl (rGoals_spec (va := va) (ht'.at hw) (hp.at hw) hg hL (by omega)) ?_
      rintro _ w' ⟨gv, rfl, hk'⟩
      replace hw := hw.call1 hk'
      clear hk'
      have og := (hw.rs 0 rfl).one
      refine ⟨_, rfl, ?_⟩
      repeat (first | refine go_run ?_ | (refine go_newP ?_; clear hw; intro p w hw) | (refine go_newWr ?_; clear hw; intro w hw) | (refine go_newS ?_; clear hw; intro s w hw))
      repeat (first | refine go_run ?_ | (refine go_newP ?_; clear hw; intro p w hw) | (refine go_newWr ?_; clear hw; intro w hw) | (refine go_newS ?_; clear hw; intro s w hw))
      refine st_build3 (v1 := .int .i64 (cntL t.vars L)) (v2 := .int .i64 (idxL t.vars L t.init)) (v3 := gv) rfl rfl rfl rfl (by simp only [List.all_cons, List.all_nil, og]; rfl) ?_
      repeat (first | refine go_run ?_ | (refine go_newP ?_; clear hw; intro p w hw) | (refine go_newS ?_; clear hw; intro s w hw))
      refine st_boxAgg (n := 5) (p := px) (vs := [.int .i64 (cntL t.vars L), .int .i64 (idxL t.vars L t.init), .slice none 0 0, .slice none 0 0, gv]) rfl rfl hw inferInstance rfl rfl (by simp only [List.all_cons, List.all_nil, og]; rfl) ?_
      clear hw
      intro w hw
      repeat (first | refine go_run ?_ | (refine go_newP ?_; clear hw; intro p w hw) | (refine go_newWr ?_; clear hw; intro w hw) | (refine go_newS ?_; clear hw; intro s w hw))
      exact ⟨(px, gv), ⟨rfl, trivial⟩, by repeat (first | exact agree_refl | (apply agree_upd rfl) | (apply agree_mix rfl) | (apply agree_sets rfl)), hw.swap⟩
  clear hw
  rintro σ0 ⟨px, gv⟩ w hw
  simp only at hw
  repeat (first | refine go_run ?_ | (refine go_newP ?_; clear hw; intro p w hw) | (refine go_newW ?_; clear hw; intro w hw) | (refine go_newS ?_; clear hw; intro s w hw))
  refine vc_loop2 [8, 34, 35, 36, 37, 38, 39, 40, 41, 42, 43, 44, 45] (G := Nat) (H := Value) (fun i _ => [(34, .int .i64 i)]) (fun i cv w => i ≤ t.ops.length ∧ Sat w0 w [OS tInt 3 cv ((costsT t).take i), Box px 96 [.int .i64 (cntL t.vars L), .int .i64 (idxL t.vars L t.init), cv, .slice none 0 0, gv], OS tBool 4 gv (goalsK t L (cntL t.vars L).toNat), Box pr 96 [.int .i64 0, .int .i64 0, .slice none 0 0, .slice none 0 0, .slice none 0 0], Box pt 26 [a, b, c, d]]) (fun i _ => t.ops.length - i) 0 (.slice none 0 0) (fun _ _ => rfl) ⟨rfl, trivial⟩ ⟨Nat.zero_le _, hw.nil⟩ ?_
  clear hw
  rintro σ i cv w ⟨hi, hw⟩
  repeat (first | refine go_run ?_ | (refine go_newP ?_; clear hw; intro p w hw) | (refine go_newW ?_; clear hw; intro w hw) | (refine go_newS ?_; clear hw; intro s w hw))
  refine go_if (fun h1 => ?_) (fun h1 => ?_)
  · have hil : i < t.ops.length := by omega
    have hop := hd.at_ i hil
    have hone := hop.one
    have hco := hop.cost
    have hct : ((costsT t).take i).length ≤ 4096 := by simp [costsT]; omega
    repeat (first | refine go_run ?_ | (refine go_newP ?_; clear hw; intro p w hw) | (refine go_newW ?_; clear hw; intro w hw) | (refine go_newS ?_; clear hw; intro s w hw))
    have hcs : (costsT t).take i ++ [(eget tOp vs i).cost] = (costsT t).take (i + 1) := by
      rw [take_snoc tInt.dflt (show i < (costsT t).length by simp [costsT]; exact hil), costsT_at hil, hco]
    rw [hcs] at hw
    exact ⟨i + 1, s, ⟨rfl, trivial⟩, by repeat (first | exact agree_refl | (apply agree_upd rfl) | (apply agree_mix rfl) | (apply agree_sets rfl)), ⟨by omega, (hw.tail.tail)⟩, by omega⟩
  · have hie : i = t.ops.length := by omega
    subst hie
    rw [List.take_of_length_le (by simp [costsT])] at hw
    repeat (first | refine go_run ?_ | (refine go_newP ?_; clear hw; intro p w hw) | (refine go_newW ?_; clear hw; intro w hw) | (refine go_newS ?_; clear hw; intro s w hw))
    refine st_call rfl (States_spec (ha.at hw) hg.pos hg.vars (by omega)) ?_
    rintro _ w' ⟨sv, ss, rfl, hk'⟩
    replace hw := hw.call2 hk'
    clear hk'
    have hss := hw.rowsLen
    refine ⟨_, rfl, ?_⟩
    repeat (first | refine go_run ?_ | (refine go_newP ?_; clear hw; intro p w hw) | (refine go_newW ?_; clear hw; intro w hw) | (refine go_newS ?_; clear hw; intro s w hw))
    obtain ⟨fo, hfo⟩ : ∃ fo, fo = s := ⟨s, rfl⟩
    subst hfo
    refine st_call rfl (Edges_spec (ht'.at hw) hg (by omega)) ?_
    rintro _ w' ⟨es, rfl, hk'⟩
    replace hw := hw.call1 hk'
    clear hk'
    refine ⟨_, rfl, ?_⟩
    repeat (first | refine go_run ?_ | (refine go_newP ?_; clear hw; intro p w hw) | (refine go_newW ?_; clear hw; intro w hw) | (refine go_newS ?_; clear hw; intro s w hw))
    refine vc_loop [12, 13, 14, 60, 61, 62, 63, 64, 65, 66, 67, 68, 69, 70, 71, 72, 73, 74, 75, 76, 77, 78, 79, 80, 81, 82, 83, 84, 85, 86, 87, 88, 89, 90, 91, 92, 93, 94] (G := Nat) (fun k => [(60, .int .i64 k)]) (fun k w => k ≤ (edgesT t).length ∧ Sat w0 w [OS tBool 4 fo (markB (cntL t.vars L * t.ops.length * cntL t.vars L).toNat (FoundK t L k)), Box px 96 [.int .i64 (cntL t.vars L), .int .i64 (idxL t.vars L t.init), cv, .slice none 0 0, gv], OS tEdg 55 es (edgesT t), RowsAt tInt 3 ss (statesL t.vars), OS tVal 22 sv ss, OS tInt 3 cv (costsT t), OS tBool 4 gv (goalsK t L (cntL t.vars L).toNat), Box pr 96 [.int .i64 0, .int .i64 0, .slice none 0 0, .slice none 0 0, .slice none 0 0], Box pt 26 [a, b, c, d]]) (fun k => (edgesT t).length - k) 0 (fun _ => rfl) ⟨rfl, trivial⟩ ⟨Nat.zero_le _, ?_⟩ ?_
    · rw [markB_none fun a _ ⟨j, hj, _⟩ => Nat.not_lt_zero _ hj]
      rw [hdl] at hw
      exact (hw.focus 1 rfl).tailMono fun _ h => h.focus 4 rfl
    clear hw
    rintro σ1 k w ⟨hk, hw⟩
    have het : (edgesT t).length ≤ 512 * 20 := Nat.le_trans (edgesK_len t (statesL t.vars).length) (Nat.mul_le_mul hlen hO)
    have hml := markB_len (cntL t.vars L * t.ops.length * cntL t.vars L).toNat (FoundK t L k)
    repeat (first | refine go_run ?_ | (refine go_newP ?_; clear hw; intro p w hw) | (refine go_newW ?_; clear hw; intro w hw) | (refine go_newS ?_; clear hw; intro s w hw))
    refine go_if (fun h2 => ?_) (fun h2 => ?_)
    · have hkl : k < (edgesT t).length := by omega
      obtain ⟨x, op, hx, hop, happ, hl, ⟨s0, s1, s2⟩, ⟨d0, d1, d2⟩⟩ := edgeT_at hg hkl
      have hb1 := idxL_bound hx hL.mem
      have hb2 := idxL_bound (succT_ok hg hx hop) hL.mem
      obtain ⟨q0, q1, q2, q3, q4, q5⟩ := edgN_bd hb1.1 hb1.2 (m := (vs.length : Int)) (op := ((edgesT t).getD k tEdg.dflt).lab) (by omega) (by omega) hb2.1 hb2.2
      have q6 : cntL t.vars L * vs.length * cntL t.vars L = cntL t.vars L * t.ops.length * cntL t.vars L := by rw [hdl]
      have hfs : ∀ x, x < (cntL t.vars L * t.ops.length * cntL t.vars L).toNat → (FoundK t L (k + 1) x ↔ FoundK t L k x ∨ x = (edgN (cntL t.vars L) vs.length (idxL t.vars L ((statesL t.vars).getD ((edgesT t).getD k tEdg.dflt).src.toNat [])) ((edgesT t).getD k tEdg.dflt).lab (idxL t.vars L ((statesL t.vars).getD ((edgesT t).getD k tEdg.dflt).dst.toNat []))).toNat) := by
        intro y _
        rw [s2, d2]
        constructor
        · rintro ⟨j, hj, he⟩
          by_cases e : j = k
          · subst e; right; rw [s2, d2, ← hdl] at he; omega
          · exact .inl ⟨j, by omega, he⟩
        · rintro (⟨j, hj, he⟩ | he)
          · exact ⟨j, by omega, he⟩
          · refine ⟨k, by omega, ?_⟩; rw [s2, d2, ← hdl]; omega
      rw [s2, d2] at hfs
      unfold edgN at q0 q1 hfs
      repeat (first | refine go_run ?_ | (refine go_newP ?_; clear hw; intro p w hw) | (refine go_newWr ?_; clear hw; intro w hw) | (refine go_newS ?_; clear hw; intro s w hw))
      refine vc_plan [.op 0, .op 1, .op 2, .op 3, .op 4, .op 5, .op 6, .op 8, .op 9, .op 10, .op 11, .op 12, .op 13, .op 14, .op 7, .chk 8, .chk 12, .chk 14, .op 15, .op 16, .op 17] hw (by kernel_rfl) ?_; clear hw; intro w hw
      have hr1 := (hw.focus 4 rfl).row s1
      have hr2 := (hw.focus 4 rfl).row d1
      rw [s2] at hr1
      rw [d2] at hr2
      repeat (first | refine go_run ?_ | (refine go_newP ?_; clear hw; intro p w hw) | (refine go_newWr ?_; clear hw; intro w hw) | (refine go_newS ?_; clear hw; intro s w hw))
      refine st_call rfl (rIndex_spec (va := va) (s := x) (ht'.at hw) (hp.at hw) hr1 hg hL.mem hx (by omega)) ?_
      rintro _ w' ⟨rfl, hk'⟩
      replace hw := hw.call0 hk'
      clear hk'
      refine ⟨_, rfl, ?_⟩
      have hr2 := (hw.focus 4 rfl).row d1
      rw [d2] at hr2
      repeat (first | refine go_run ?_ | (refine go_newP ?_; clear hw; intro p w hw) | (refine go_newWr ?_; clear hw; intro w hw) | (refine go_newS ?_; clear hw; intro s w hw))
      refine st_call rfl (rIndex_spec (va := va) (s := succT t x op) (ht'.at hw) (hp.at hw) hr2 hg hL.mem (succT_ok hg hx hop) (by omega)) ?_
      rintro _ w' ⟨rfl, hk'⟩
      replace hw := hw.call0 hk'
      clear hk'
      refine ⟨_, rfl, ?_⟩
      repeat (first | refine go_run ?_ | (refine go_newP ?_; clear hw; intro p w hw) | (refine go_newW ?_; clear hw; intro w hw) | (refine go_newS ?_; clear hw; intro s w hw))
      refine ⟨k + 1, ⟨rfl, trivial⟩, by repeat (first | exact agree_refl | (apply agree_upd rfl) | (apply agree_mix rfl) | (apply agree_sets rfl)), ⟨by omega, ?_⟩, by omega⟩
      rw [markB_set hfs] at hw
      exact hw.tail
    · have hke : k = (edgesT t).length := by omega
      subst hke
      repeat (first | refine go_run ?_ | (refine go_newP ?_; clear hw; intro p w hw) | (refine go_newW ?_; clear hw; intro w hw) | (refine go_newS ?_; clear hw; intro s w hw))
      have hw1 : Sat w0 w [OS tEdg 122 (.slice none 0 0) (edgA t L 0), Box px 96 [.int .i64 (cntL t.vars L), .int .i64 (idxL t.vars L t.init), cv, .slice none 0 0, gv], OS tBool 4 fo (markB (cntL t.vars L * t.ops.length * cntL t.vars L).toNat (FoundK t L (edgesT t).length)), OS tEdg 55 es (edgesT t), RowsAt tInt 3 ss (statesL t.vars), OS tVal 22 sv ss, OS tInt 3 cv (costsT t), OS tBool 4 gv (goalsK t L (cntL t.vars L).toNat), Box pr 96 [.int .i64 0, .int .i64 0, .slice none 0 0, .slice none 0 0, .slice none 0 0], Box pt 26 [a, b, c, d]] := (hw.nil (T := tEdg) (e := 122)).tailMono fun _ h => h.swap
      clear hw
      refine vc_loop2 [15, 16, 17, 96, 97, 98, 99, 100, 101, 102, 103, 104, 105, 106, 107, 108, 109, 110, 111, 112, 113, 114, 115, 116, 117, 118, 119, 120, 121, 122, 123, 124, 125, 126, 127, 128, 129, 130, 131, 132, 133, 134] (G := Nat) (H := Value) (fun k _ => [(96, .int .i64 k)]) (fun k ev w => (k : Int) ≤ cntL t.vars L ∧ Sat w0 w [OS tEdg 122 ev (edgA t L k), Box px 96 [.int .i64 (cntL t.vars L), .int .i64 (idxL t.vars L t.init), cv, ev, gv], OS tBool 4 fo (markB (cntL t.vars L * t.ops.length * cntL t.vars L).toNat (FoundK t L (edgesT t).length)), OS tEdg 55 es (edgesT t), RowsAt tInt 3 ss (statesL t.vars), OS tVal 22 sv ss, OS tInt 3 cv (costsT t), OS tBool 4 gv (goalsK t L (cntL t.vars L).toNat), Box pr 96 [.int .i64 0, .int .i64 0, .slice none 0 0, .slice none 0 0, .slice none 0 0], Box pt 26 [a, b, c, d]]) (fun k _ => (cntL t.vars L).toNat - k) 0 (.slice none 0 0) (fun _ _ => rfl) ⟨rfl, trivial⟩ ⟨by omega, hw1⟩ ?_
      clear hw1
      rintro σ2 k ev w ⟨hk, hw⟩
      repeat (first | refine go_run ?_ | (refine go_newP ?_; clear hw; intro p w hw) | (refine go_newW ?_; clear hw; intro w hw) | (refine go_newS ?_; clear hw; intro s w hw))
      refine go_if (fun h3 => ?_) (fun h3 => ?_)
      · repeat (first | refine go_run ?_ | (refine go_newP ?_; clear hw; intro p w hw) | (refine go_newW ?_; clear hw; intro w hw) | (refine go_newS ?_; clear hw; intro s w hw))
        refine vc_loop2 [16, 17, 102, 103, 104, 105, 106, 107, 108, 109, 110, 111, 112, 113, 114, 115, 116, 117, 118, 119, 120, 121, 122, 123, 124, 125, 126, 127, 128, 129, 130, 131, 132, 133] (G := Nat) (H := Value) (fun j _ => [(102, .int .i64 j)]) (fun j ev w => j ≤ t.ops.length ∧ Sat w0 w [OS tEdg 122 ev (edgA t L k ++ edgO t L k j), Box px 96 [.int .i64 (cntL t.vars L), .int .i64 (idxL t.vars L t.init), cv, ev, gv], OS tBool 4 fo (markB (cntL t.vars L * t.ops.length * cntL t.vars L).toNat (FoundK t L (edgesT t).length)), OS tEdg 55 es (edgesT t), RowsAt tInt 3 ss (statesL t.vars), OS tVal 22 sv ss, OS tInt 3 cv (costsT t), OS tBool 4 gv (goalsK t L (cntL t.vars L).toNat), Box pr 96 [.int .i64 0, .int .i64 0, .slice none 0 0, .slice none 0 0, .slice none 0 0], Box pt 26 [a, b, c, d]]) (fun j _ => t.ops.length - j) 0 ev (fun _ _ => rfl) ⟨rfl, trivial⟩ ⟨Nat.zero_le _, by rw [edgO_zero, List.append_nil]; exact hw⟩ ?_
        clear hw
        rintro σ3 j ev w ⟨hj, hw⟩
        repeat (first | refine go_run ?_ | (refine go_newP ?_; clear hw; intro p w hw) | (refine go_newW ?_; clear hw; intro w hw) | (refine go_newS ?_; clear hw; intro s w hw))
        refine go_if (fun h4 => ?_) (fun h4 => ?_)
        · have hjl : j < t.ops.length := by omega
          have hlim := edges_len h3 hjl
          repeat (first | refine go_run ?_ | (refine go_newP ?_; clear hw; intro p w hw) | (refine go_newW ?_; clear hw; intro w hw) | (refine go_newS ?_; clear hw; intro s w hw))
          refine vc_loop2 [17, 106, 107, 108, 109, 110, 111, 112, 113, 114, 115, 116, 117, 118, 119, 120, 121, 122, 123, 124, 125, 126, 127, 128, 129, 130, 131, 132] (G := Nat) (H := Value) (fun m _ => [(106, .int .i64 m)]) (fun m ev w => (m : Int) ≤ cntL t.vars L ∧ Sat w0 w [OS tEdg 122 ev (edgA t L k ++ edgO t L k j ++ edgB k j (pickL m (TGp t L k j))), Box px 96 [.int .i64 (cntL t.vars L), .int .i64 (idxL t.vars L t.init), cv, ev, gv], OS tBool 4 fo (markB (cntL t.vars L * t.ops.length * cntL t.vars L).toNat (FoundK t L (edgesT t).length)), OS tEdg 55 es (edgesT t), RowsAt tInt 3 ss (statesL t.vars), OS tVal 22 sv ss, OS tInt 3 cv (costsT t), OS tBool 4 gv (goalsK t L (cntL t.vars L).toNat), Box pr 96 [.int .i64 0, .int .i64 0, .slice none 0 0, .slice none 0 0, .slice none 0 0], Box pt 26 [a, b, c, d]]) (fun m _ => (cntL t.vars L).toNat - m) 0 ev (fun _ _ => rfl) ⟨rfl, trivial⟩ ⟨by omega, by rw [show ((0 : Nat) : Int) = 0 from rfl, pickL_zero]; simpa [edgB] using hw⟩ ?_
          clear hw
          rintro σ4 m ev w ⟨hm, hw⟩
          repeat (first | refine go_run ?_ | (refine go_newP ?_; clear hw; intro p w hw) | (refine go_newW ?_; clear hw; intro w hw) | (refine go_newS ?_; clear hw; intro s w hw))
          refine go_if (fun h5 => ?_) (fun h5 => ?_)
          · obtain ⟨q0, q1, q2, q3, q4, q5⟩ := edgN_bd (a := (k : Int)) (n := cntL t.vars L) (by omega) h3 (m := (vs.length : Int)) (op := (j : Int)) (b := (m : Int)) (by omega) (by omega) (by omega) h5
            have q6 : cntL t.vars L * vs.length * cntL t.vars L = cntL t.vars L * t.ops.length * cntL t.vars L := by rw [hdl]
            have hml := markB_len (cntL t.vars L * t.ops.length * cntL t.vars L).toNat (FoundK t L (edgesT t).length)
            have hfi := found_iff hg hL (a := (k : Int)) (b := (m : Int)) (by omega) h3 hjl (by omega) h5
            have hma := markB_at (n := (cntL t.vars L * t.ops.length * cntL t.vars L).toNat) (p := FoundK t L (edgesT t).length) (a := (edgN (cntL t.vars L) t.ops.length k j m).toNat) (by rw [← hdl]; omega)
            have hpl := pickL_len (m : Int) (TGp t L k j)
            have hbl := edgB_len k j (pickL (m : Int) (TGp t L k j))
            have hlen3 : (edgA t L k ++ edgO t L k j ++ edgB k j (pickL (m : Int) (TGp t L k j))).length = (edgA t L k).length + (edgO t L k j).length + (pickL (m : Int) (TGp t L k j)).length := by simp [edgB_len]; omega
            obtain ⟨hs1, hs0⟩ := pickL_succ (k := m) (TGp t L k j)
            obtain ⟨MB, hMB⟩ : ∃ MB, MB = markB (cntL t.vars L * t.ops.length * cntL t.vars L).toNat (FoundK t L (edgesT t).length) := ⟨_, rfl⟩
            rw [← hMB] at hw hml hma
            rw [hfi, ← hdl] at hma
            unfold edgN at q0 q1 hma
            repeat (first | refine go_run ?_ | (refine go_newP ?_; clear hw; intro p w hw) | (refine go_newW ?_; clear hw; intro w hw) | (refine go_newS ?_; clear hw; intro s w hw))
            refine go_if (fun h6 => ?_) (fun h6 => ?_)
            · have hT := hma.1 h6
              repeat (first | refine go_run ?_ | (refine go_newP ?_; clear hw; intro p w hw) | (refine go_newW ?_; clear hw; intro w hw) | (refine go_newS ?_; clear hw; intro s w hw))
              refine st_buildSlice1 tEdg (x1 := ⟨k, j, m⟩) rfl rfl rfl (Nat.le_of_ble_eq_true rfl) (Nat.zero_lt_succ _) hw ?_
              clear hw
              intro s3 w hw
              repeat (first | refine go_run ?_ | (refine go_newP ?_; clear hw; intro p w hw) | (refine go_newW ?_; clear hw; intro w hw) | (refine go_newS ?_; clear hw; intro s w hw))
              rw [List.append_assoc, ← edgB_snoc, ← hs1 hT, hMB] at hw
              exact ⟨m + 1, _, ⟨rfl, trivial⟩, by repeat (first | exact agree_refl | (apply agree_upd rfl) | (apply agree_mix rfl) | (apply agree_sets rfl)), ⟨by omega, hw.tail⟩, by omega⟩
            · have hT : ¬ TGp t L k j m := fun h => by rw [hma.2 h] at h6; cases h6
              repeat (first | refine go_run ?_ | (refine go_newP ?_; clear hw; intro p w hw) | (refine go_newW ?_; clear hw; intro w hw) | (refine go_newS ?_; clear hw; intro s w hw))
              rw [hMB] at hw
              refine ⟨m + 1, ev, ⟨rfl, trivial⟩, by repeat (first | exact agree_refl | (apply agree_upd rfl) | (apply agree_mix rfl) | (apply agree_sets rfl)), ⟨by omega, ?_⟩, by omega⟩
              rw [hs0 hT]
              exact hw
          · have hme : (m : Int) = cntL t.vars L := by omega
            rw [hme, show pickL (cntL t.vars L) (TGp t L k j) = tgtL t L k j from rfl, List.append_assoc, ← edgO_succ] at hw
            repeat (first | refine go_run ?_ | (refine go_newP ?_; clear hw; intro p w hw) | (refine go_newW ?_; clear hw; intro w hw) | (refine go_newS ?_; clear hw; intro s w hw))
            exact ⟨j + 1, ev, ⟨rfl, trivial⟩, by repeat (first | exact agree_refl | (apply agree_upd rfl) | (apply agree_mix rfl) | (apply agree_sets rfl)), ⟨by omega, hw⟩, by omega⟩
        · have hje : j = t.ops.length := by omega
          subst hje
          rw [← edgA_succ] at hw
          repeat (first | refine go_run ?_ | (refine go_newP ?_; clear hw; intro p w hw) | (refine go_newW ?_; clear hw; intro w hw) | (refine go_newS ?_; clear hw; intro s w hw))
          exact ⟨k + 1, ev, ⟨rfl, trivial⟩, by repeat (first | exact agree_refl | (apply agree_upd rfl) | (apply agree_mix rfl) | (apply agree_sets rfl)), ⟨by omega, hw⟩, by omega⟩
      · have hkN : k = (cntL t.vars L).toNat := by omega
        subst hkN
        rw [show edgA t L (cntL t.vars L).toNat = pEdges t L from rfl] at hw
        have o1 := (hw.rs 6 rfl).one
        have o2 := (hw.rs 0 rfl).one
        have o3 := (hw.rs 7 rfl).one
        repeat (first | refine go_run ?_ | (refine go_newP ?_; clear hw; intro p w hw) | (refine go_newWs ?_; clear hw; intro w hw) | (refine go_newS ?_; clear hw; intro s w hw))
        refine st_boxAgg (n := 5) (p := pr) (vs := [.int .i64 (cntL t.vars L), .int .i64 (idxL t.vars L t.init), cv, ev, gv]) rfl rfl hw inferInstance rfl rfl (by simp only [List.all_cons, List.all_nil, o1, o2, o3]; rfl) ?_
        clear hw
        intro w hw
        repeat (first | refine go_run ?_ | (refine go_newP ?_; clear hw; intro p w hw) | (refine go_newW ?_; clear hw; intro w hw) | (refine go_newS ?_; clear hw; intro s w hw))
        refine res_cell (p := pr) (vs := [.int .i64 (cntL t.vars L), .int .i64 (idxL t.vars L t.init), cv, ev, gv]) rfl rfl rfl (fun j v hv => box_cell (i := 8) hw rfl hv) ⟨cv, ev, gv, rfl, ?_⟩
        have h1 := (hw.focus 7 rfl)
        exact sat3 ((h1.swap.focus 7 rfl).tailMono fun _ h => h)
end Go.Proofs.YtemnlcnjpjdoaaaGreatDoor
