/-
  The statement 'ProjectDistances' returns true.
-/
import Derived.Test.YtlgombjhcpgleaaTProjD
namespace Go.Proofs.Ytlgombjhcpgleaa
open Go.Sl Go
attribute [local irreducible] vc opsW opsD opV opW PureV ReadV Thn Blk

set_option maxRecDepth 8000 in
set_option maxHeartbeats 4000000 in
theorem ProjectDistances_walk {w0 : World} {a b c d : Value} {vs : List OpV} {t : TTask} {bits : Int} (ht : RTask w0 a b c d vs t) :
    Calls Try.prog 6 #[.agg #[a, b, c, d], .int .u16 bits] w0 fun e w' => e = .returned (.bool true) ∧ Sat w0 w' [] := by
  have ht' := ht
  obtain ⟨ha, hb, hc, hd⟩ := ht
  have hrs := hd.rs
  have hdl := hd.len
  have hll := hrs.big
  have hw := Sat.start w0
  refine calls_of_vc (args := [.agg #[a, b, c, d], .int .u16 bits]) mixed Try.func6 rfl (by kernel_rfl) (Nat.le_of_ble_eq_true rfl) ?_
  repeat (first | refine go_run ?_ | (refine go_newP ?_; clear hw; intro p w hw) | (refine go_newWr ?_; clear hw; intro w hw) | (refine go_newS ?_; clear hw; intro s w hw))
  obtain ⟨pt, hpt⟩ : ∃ pt, pt = p := ⟨p, rfl⟩
  subst hpt
  refine vc_plan [.op 0, .op 1, .op 2, .op 3, .op 4, .op 5, .op 6, .op 7, .chk 4, .op 8, .op 9, .op 10, .op 11, .op 12, .op 13, .op 14] hw (by kernel_rfl) ?_; clear hw; intro w hw
  repeat (first | refine go_run ?_ | (refine go_newP ?_; clear hw; intro p w hw) | (refine go_newWr ?_; clear hw; intro w hw) | (refine go_newS ?_; clear hw; intro s w hw))
  refine st_call rfl (Small_spec (ht'.at hw)) ?_
  rintro _ w' ⟨⟨r, rfl, hr⟩, hk'⟩
  replace hw := hw.call0 hk'
  clear hk'
  refine ⟨_, rfl, ?_⟩
  cases r
  · repeat (first | refine go_run ?_ | (refine go_newP ?_; clear hw; intro p w hw) | (refine go_newWr ?_; clear hw; intro w hw) | (refine go_newS ?_; clear hw; intro s w hw))
    refine st_call rfl awake_spec ?_
    rintro _ w' ⟨rfl, hk'⟩
    replace hw := hw.call0 hk'
    clear hk'
    refine ⟨_, rfl, ?_⟩
    repeat (first | refine go_run ?_ | (refine go_newP ?_; clear hw; intro p w hw) | (refine go_newW ?_; clear hw; intro w hw) | (refine go_newS ?_; clear hw; intro s w hw))
    exact res_one (v := .bool true) rfl rfl ⟨rfl, sat_none hw⟩
  have hs := hr.1 rfl
  have hg := hs.good
  have hV := hs.vars
  have hO := hs.ops
  have hM := hs.many
  have hL := chosen_inV t.vars bits
  have hB : cntL t.vars (chosenK bits t.vars.length) ≤ 1099511627776 := by have h1 := cntL_le hs.good.pos hL; omega
  repeat (first | refine go_run ?_ | (refine go_newP ?_; clear hw; intro p w hw) | (refine go_newWr ?_; clear hw; intro w hw) | (refine go_newS ?_; clear hw; intro s w hw))
  refine st_call rfl (chosen_spec (ht'.at hw) (by omega)) ?_
  rintro _ w' ⟨s0, rfl, hk'⟩
  replace hw := hw.call1 hk'
  clear hk'
  refine ⟨_, rfl, ?_⟩
  repeat (first | refine go_run ?_ | (refine go_newP ?_; clear hw; intro p w hw) | (refine go_newWr ?_; clear hw; intro w hw) | (refine go_newS ?_; clear hw; intro s w hw))
  refine st_call rfl (few_spec (va := s0) (ht'.at hw) (rsO hw) hs.good.pos hL.mem hB) ?_
  rintro _ w' ⟨rfl, hk'⟩
  replace hw := hw.call0 hk'
  clear hk'
  by_cases hf : cntL t.vars (chosenK bits t.vars.length) ≤ 64
  rotate_left
  · rw [decide_eq_false hf]
    refine ⟨_, rfl, ?_⟩
    repeat (first | refine go_run ?_ | (refine go_newP ?_; clear hw; intro p w hw) | (refine go_newWr ?_; clear hw; intro w hw) | (refine go_newS ?_; clear hw; intro s w hw))
    refine st_call rfl awake_spec ?_
    rintro _ w' ⟨rfl, hk'⟩
    replace hw := hw.call0 hk'
    clear hk'
    refine ⟨_, rfl, ?_⟩
    repeat (first | refine go_run ?_ | (refine go_newP ?_; clear hw; intro p w hw) | (refine go_newW ?_; clear hw; intro w hw) | (refine go_newS ?_; clear hw; intro s w hw))
    exact res_one (v := .bool true) rfl rfl ⟨rfl, sat_none hw⟩
  rw [decide_eq_true hf]
  refine ⟨_, rfl, ?_⟩
  repeat (first | refine go_run ?_ | (refine go_newP ?_; clear hw; intro p w hw) | (refine go_newWr ?_; clear hw; intro w hw) | (refine go_newS ?_; clear hw; intro s w hw))
  refine st_call rfl awake_spec ?_
  rintro _ w' ⟨rfl, hk'⟩
  replace hw := hw.call0 hk'
  clear hk'
  refine ⟨_, rfl, ?_⟩
  repeat (first | refine go_run ?_ | (refine go_newP ?_; clear hw; intro p w hw) | (refine go_newW ?_; clear hw; intro w hw) | (refine go_newS ?_; clear hw; intro s w hw))
  refine st_call rfl (chosen_spec (ht'.at hw) (by omega)) ?_
  rintro _ w' ⟨s1, rfl, hk'⟩
  replace hw := hw.call1 hk'
  clear hk'
  refine ⟨_, rfl, ?_⟩
  have hw := hw
  obtain ⟨L, hLe⟩ : ∃ L, L = chosenK bits t.vars.length := ⟨_, rfl⟩
  rw [← hLe] at hw hL hf
  obtain ⟨he1, he2⟩ := small_err hs hL
  have hoL := (rsO (s := s1) hw).big
  repeat (first | refine go_run ?_ | (refine go_newP ?_; clear hw; intro p w hw) | (refine go_newW ?_; clear hw; intro w hw) | (refine go_newS ?_; clear hw; intro s w hw))
  refine st_call rfl (Project_spec (vp := s1) (L := L) (ht'.at hw) (rsO hw)) ?_
  rintro _ w' ⟨cv, ev, gv, rfl, hk'⟩
  rw [he1, sysE_ok] at hk'
  rw [he1, errV_zero rfl, sysE_ok, sysV_ok]
  have hw2 := hw.call hk'
  clear hk' hw
  have hw := hw2
  clear hw2
  refine ⟨_, rfl, ?_⟩
  have o1 := (hw.rs 0 rfl).one
  have o2 := (hw.rs 1 rfl).one
  have o3 := (hw.rs 2 rfl).one
  repeat (first | refine go_run ?_ | (refine go_newP ?_; clear hw; intro p w hw) | (refine go_newWs ?_; clear hw; intro w hw) | (refine go_newS ?_; clear hw; intro s w hw))
  refine st_boxAgg (n := 5) (p := p) (vs := [.int .i64 (cntL t.vars L), .int .i64 (idxL t.vars L t.init), cv, ev, gv]) rfl rfl hw inferInstance rfl rfl (by simp only [List.all_cons, List.all_nil, o1, o2, o3]; rfl) ?_
  clear hw
  intro w hw
  obtain ⟨px, hpx⟩ : ∃ px, px = p := ⟨p, rfl⟩
  subst hpx
  have hw1 : Sat w0 w [Box px 35 [.int .i64 (cntL t.vars L), .int .i64 (idxL t.vars L t.init), cv, ev, gv], OS tInt 3 cv (costsT t), OS tEdg 50 ev (pEdges t L), OS tBool 4 gv (goalsK t L (cntL t.vars L).toNat), OS tInt 3 s1 L, OS tInt 3 s0 L, Box pt 26 [a, b, c, d]] := hw
  clear hw
  have hw := hw1
  clear hw1
  have hgl := goalsK_len t L (cntL t.vars L).toNat
  have hcl : (costsT t).length = t.ops.length := by simp [costsT]
  have hN1 := cntL_pos hg.pos hL.mem
  have hlen : (statesL t.vars).length ≤ 512 := by rw [statesL_len hg.pos]; omega
  have hcok := (CostsOf.own (w := w0) (t := t) (kv := .slice none 0 0) rfl rfl).ok hg
  repeat (first | refine go_run ?_ | (refine go_newP ?_; clear hw; intro p w hw) | (refine go_newW ?_; clear hw; intro w hw) | (refine go_newS ?_; clear hw; intro s w hw))
  refine go_if (fun h2 => ?_) (fun h2 => ?_)
  · exfalso; omega
  repeat (first | refine go_run ?_ | (refine go_newP ?_; clear hw; intro p w hw) | (refine go_newW ?_; clear hw; intro w hw) | (refine go_newS ?_; clear hw; intro s w hw))
  refine st_call rfl (rDistances_spec (kv := cv) (cs := costsT t) (S := sysOk t L) (cv := cv) (ev := ev) (gv := gv) ⟨hw.rs 1 rfl, hw.rs 2 rfl, hw.rs 3 rfl⟩ (hw.rs 1 rfl) (by show 0 ≤ cntL t.vars L; omega) (by show cntL t.vars L ≤ _; omega) (by show ((goalsK t L _).length : Int) = cntL t.vars L; omega) (eok_P hcok)) ?_
  rintro _ w' ⟨hv, D, rfl, hD, hk'⟩
  replace hw := hw.call1 hk'
  clear hk'
  refine ⟨_, rfl, ?_⟩
  replace hD : DistOk (pEdges t L) (costsT t) (GoalPK t L) (cntL t.vars L).toNat D := hD
  repeat (first | refine go_run ?_ | (refine go_newP ?_; clear hw; intro p w hw) | (refine go_newW ?_; clear hw; intro w hw) | (refine go_newS ?_; clear hw; intro s w hw))
  refine st_call rfl (Distances_spec (kv := .slice none 0 0) (ht'.at hw) (.own rfl rfl) hg (by omega)) ?_
  rintro _ w' ⟨bv, D', rfl, hD', hk'⟩
  replace hw := hw.call1 hk'
  clear hk'
  refine ⟨_, rfl, ?_⟩
  have hdp := fun i hi => dist_proj hg hL hD hD' (i := i) hi
  have hDl := hD.len
  have hDl' := hD'.len
  repeat (first | refine go_run ?_ | (refine go_newP ?_; clear hw; intro p w hw) | (refine go_newW ?_; clear hw; intro w hw) | (refine go_newS ?_; clear hw; intro s w hw))
  refine st_call rfl (States_spec (ha.at hw) hg.pos hg.vars (by omega)) ?_
  rintro _ w' ⟨sv, ss, rfl, hk'⟩
  replace hw := hw.call2 hk'
  clear hk'
  have hss := hw.rowsLen
  refine ⟨_, rfl, ?_⟩
  repeat (first | refine go_run ?_ | (refine go_newP ?_; clear hw; intro p w hw) | (refine go_newW ?_; clear hw; intro w hw) | (refine go_newS ?_; clear hw; intro s w hw))
  refine vc_loop [4, 10, 11, 12, 13, 68, 69, 70, 71, 72, 73, 74, 75, 76, 77, 78, 79, 80, 81, 82, 83, 84, 85, 86, 87, 88, 89, 90, 91, 92, 93] (G := Nat) (fun k => [(68, .int .i64 k)]) (fun k w => k ≤ (statesL t.vars).length ∧ Sat w0 w [RowsAt tInt 3 ss (statesL t.vars), OS tVal 22 sv ss, OS tInt 3 bv D', OS tInt 3 hv D, Box px 35 [.int .i64 (cntL t.vars L), .int .i64 (idxL t.vars L t.init), cv, ev, gv], OS tInt 3 cv (costsT t), OS tEdg 50 ev (pEdges t L), OS tBool 4 gv (goalsK t L (cntL t.vars L).toNat), OS tInt 3 s1 L, OS tInt 3 s0 L, Box pt 26 [a, b, c, d]]) (fun k => (statesL t.vars).length - k) 0 (fun _ => rfl) ⟨rfl, trivial⟩ ⟨Nat.zero_le _, hw⟩ ?_
  clear hw
  rintro σ k w ⟨hk, hw⟩
  repeat (first | refine go_run ?_ | (refine go_newP ?_; clear hw; intro p w hw) | (refine go_newW ?_; clear hw; intro w hw) | (refine go_newS ?_; clear hw; intro s w hw))
  refine go_if (fun h5 => ?_) (fun h5 => ?_)
  · have hkl : k < (statesL t.vars).length := by omega
    obtain ⟨hst, hrk⟩ := statesL_at hg.pos hkl
    have hib := idxL_bound hst hL.mem
    have hdk := hdp k hkl
    simp only [dg, Int.toNat_natCast] at hdk
    repeat (first | refine go_run ?_ | (refine go_newP ?_; clear hw; intro p w hw) | (refine go_newW ?_; clear hw; intro w hw) | (refine go_newS ?_; clear hw; intro s w hw))
    refine st_call rfl (pIndex_spec (va := s1) (s := (statesL t.vars).getD k []) (ht'.at hw) (rsO hw) (hw.row hkl)) ?_
    rintro _ w' ⟨rfl, hk'⟩
    replace hw := hw.call0 hk'
    clear hk'
    rw [ixErr_ok he2 hst (by omega), if_pos rfl, errV_zero rfl]
    refine ⟨_, rfl, ?_⟩
    repeat (first | refine go_run ?_ | (refine go_newP ?_; clear hw; intro p w hw) | (refine go_newW ?_; clear hw; intro w hw) | (refine go_newS ?_; clear hw; intro s w hw))
    refine go_if (fun h6 => ?_) (fun h6 => ?_)
    · exfalso; omega
    · repeat (first | refine go_run ?_ | (refine go_newP ?_; clear hw; intro p w hw) | (refine go_newW ?_; clear hw; intro w hw) | (refine go_newS ?_; clear hw; intro s w hw))
      exact ⟨k + 1, ⟨rfl, trivial⟩, by repeat (first | exact agree_refl | (apply agree_upd rfl) | (apply agree_mix rfl) | (apply agree_sets rfl)), ⟨by omega, hw⟩, by omega⟩
  · repeat (first | refine go_run ?_ | (refine go_newP ?_; clear hw; intro p w hw) | (refine go_newW ?_; clear hw; intro w hw) | (refine go_newS ?_; clear hw; intro s w hw))
    exact res_one (v := .bool true) rfl rfl ⟨rfl, sat_none hw⟩
end Go.Proofs.Ytlgombjhcpgleaa
