/-
  The statement 'ProjectWhole' returns true.
-/
import Derived.Test.YtlgombjhcpgleaaWRef40
import Derived.Test.YtlgombjhcpgleaaWTRank
import Derived.Test.YtlgombjhcpgleaaTLaw5
import Derived.Test.YtlgombjhcpgleaaTWhole
namespace Go.Proofs.Ytlgombjhcpgleaa
open Go.Sl Go
attribute [local irreducible] vc opsW opsD opV opW PureV ReadV Thn Blk

set_option maxRecDepth 8000 in
set_option maxHeartbeats 4000000 in
theorem ProjectWhole_walk {w0 : World} {a b c d : Value} {vs : List OpV} {t : TTask} (ht : RTask w0 a b c d vs t) :
    Calls Try.prog 10 #[.agg #[a, b, c, d]] w0 fun e w' => e = .returned (.bool true) ∧ Sat w0 w' [] := by
  have ht' := ht
  obtain ⟨ha, hb, hc, hd⟩ := ht
  have hla := ha.big
  have hw := Sat.start w0
  refine calls_of_vc (args := [.agg #[a, b, c, d]]) mixed Try.func10 rfl (by kernel_rfl) (Nat.le_of_ble_eq_true rfl) ?_
  repeat (first | refine go_run ?_ | (refine go_newP ?_; clear hw; intro p w hw) | (refine go_newW ?_; clear hw; intro w hw) | (refine go_newS ?_; clear hw; intro s w hw))
  obtain ⟨pt, hpt⟩ : ∃ pt, pt = p := ⟨p, rfl⟩
  subst hpt
  refine st_call rfl (Small_spec (ht'.at hw)) ?_
  rintro _ w' ⟨⟨r, rfl, hr⟩, hk'⟩
  replace hw := hw.call0 hk'
  clear hk'
  refine ⟨_, rfl, ?_⟩
  cases r
  · repeat (first | refine go_run ?_ | (refine go_newP ?_; clear hw; intro p w hw) | (refine go_newW ?_; clear hw; intro w hw) | (refine go_newS ?_; clear hw; intro s w hw))
    refine st_call rfl awake_spec ?_
    rintro _ w' ⟨rfl, hk'⟩
    replace hw := hw.call0 hk'
    clear hk'
    refine ⟨_, rfl, ?_⟩
    repeat (first | refine go_run ?_ | (refine go_newP ?_; clear hw; intro p w hw) | (refine go_newW ?_; clear hw; intro w hw) | (refine go_newS ?_; clear hw; intro s w hw))
    exact res_one (v := .bool true) rfl rfl ⟨rfl, sat_none hw⟩
  have hs := hr.1 rfl
  have hg := hs.good
  have hV := hs.vars
  have hO := hs.ops
  have hM := hs.many
  have hmany : manyL t.vars 512 = prodL t.vars := by rw [manyL, if_pos hM]
  repeat (first | refine go_run ?_ | (refine go_newP ?_; clear hw; intro p w hw) | (refine go_newW ?_; clear hw; intro w hw) | (refine go_newS ?_; clear hw; intro s w hw))
  refine st_call rfl (Many_spec (ha.at hw) hg.pos (by decide) (by decide)) ?_
  rintro _ w' ⟨rfl, hk'⟩
  replace hw := hw.call0 hk'
  clear hk'
  rw [hmany]
  refine ⟨_, rfl, ?_⟩
  repeat (first | refine go_run ?_ | (refine go_newP ?_; clear hw; intro p w hw) | (refine go_newW ?_; clear hw; intro w hw) | (refine go_newS ?_; clear hw; intro s w hw))
  refine go_case (fun h128 => ?_) (fun h128 => ?_)
  · simp only [h128, gvff, gvtt]; (try simp only [beq_iff_eq, Bool.and_eq_true, Bool.or_eq_true, decide_eq_true_eq, decide_eq_false_iff_not, Bool.not_eq_true, Bool.not_eq_false, Bool.not_eq_eq_eq_not, Bool.not_true, Bool.not_false, Bool.and_eq_false_iff, Bool.or_eq_false_iff, bne_iff_ne, ne_eq, Int.not_lt, Int.not_le, Nat.not_lt, Nat.not_le] at h128)
    repeat (first | refine go_run ?_ | (refine go_newP ?_; clear hw; intro p w hw) | (refine go_newW ?_; clear hw; intro w hw) | (refine go_newS ?_; clear hw; intro s w hw))
    refine st_call rfl awake_spec ?_
    rintro _ w' ⟨rfl, hk'⟩
    replace hw := hw.call0 hk'
    clear hk'
    refine ⟨_, rfl, ?_⟩
    repeat (first | refine go_run ?_ | (refine go_newP ?_; clear hw; intro p w hw) | (refine go_newW ?_; clear hw; intro w hw) | (refine go_newS ?_; clear hw; intro s w hw))
    exact res_one (v := .bool true) rfl rfl ⟨rfl, sat_none hw⟩
  simp only [h128, gvff, gvtt]; (try simp only [beq_iff_eq, Bool.and_eq_true, Bool.or_eq_true, decide_eq_true_eq, decide_eq_false_iff_not, Bool.not_eq_true, Bool.not_eq_false, Bool.not_eq_eq_eq_not, Bool.not_true, Bool.not_false, Bool.and_eq_false_iff, Bool.or_eq_false_iff, bne_iff_ne, ne_eq, Int.not_lt, Int.not_le, Nat.not_lt, Nat.not_le] at h128)
  repeat (first | refine go_run ?_ | (refine go_newP ?_; clear hw; intro p w hw) | (refine go_newW ?_; clear hw; intro w hw) | (refine go_newS ?_; clear hw; intro s w hw))
  refine st_call rfl awake_spec ?_
  rintro _ w' ⟨rfl, hk'⟩
  replace hw := hw.call0 hk'
  clear hk'
  refine ⟨_, rfl, ?_⟩
  repeat (first | refine go_run ?_ | (refine go_newP ?_; clear hw; intro p w hw) | (refine go_newW ?_; clear hw; intro w hw) | (refine go_newS ?_; clear hw; intro s w hw))
  refine vc_loop2 [3, 4, 33, 34, 35, 36, 37, 38, 39, 40] (G := Nat) (H := Value) (fun k s => [(33, .int .i64 k), (3, s)]) (fun k s w => k ≤ t.vars.length ∧ Sat w0 w [OS tInt 3 s (upTo (k : Int)), Box pt 26 [a, b, c, d]]) (fun k _ => t.vars.length - k) 0 (.slice none 0 0) (fun _ _ => rfl) ⟨rfl, rfl, trivial⟩ ⟨Nat.zero_le _, hw.nil⟩ ?_
  clear hw
  rintro σ k s w ⟨hk, hw⟩
  repeat (first | refine go_run ?_ | (refine go_newP ?_; clear hw; intro p w hw) | (refine go_newW ?_; clear hw; intro w hw) | (refine go_newS ?_; clear hw; intro s w hw))
  refine go_if (fun h1 => ?_) (fun h1 => ?_)
  · have hul := upTo_len (k : Int)
    repeat (first | refine go_run ?_ | (refine go_newP ?_; clear hw; intro p w hw) | (refine go_newW ?_; clear hw; intro w hw) | (refine go_newS ?_; clear hw; intro s w hw))
    refine ⟨k + 1, _, ⟨rfl, rfl, trivial⟩, by repeat (first | exact agree_refl | (apply agree_upd rfl) | (apply agree_mix rfl) | (apply agree_sets rfl)), ⟨by omega, ?_⟩, by omega⟩
    rw [upTo_succ]
    exact hw.tail
  have hke : k = t.vars.length := by omega
  subst hke
  obtain ⟨s1, hs1⟩ : ∃ s1, s1 = s := ⟨s, rfl⟩
  subst hs1
  have hL := inV_all t.vars
  have hEd := edges_all hg
  have hCn := cnt_all t.vars
  have hGo : ∀ a, a < (statesL t.vars).length → _ := fun a h => goal_all hg (a := a) h
  have hIx : ∀ s : List Int, s.length = t.vars.length → _ := fun s h => idx_all (vars := t.vars) (s := s) h
  obtain ⟨L, hLe⟩ : ∃ L, L = upTo (t.vars.length : Int) := ⟨_, rfl⟩
  rw [← hLe] at hw hL hEd hCn
  simp only [← hLe] at hGo hIx
  obtain ⟨he1, he2⟩ := small_err hs hL
  have hlen : (statesL t.vars).length ≤ 512 := by rw [statesL_len hg.pos]; omega
  have het : (edgesT t).length ≤ 512 * 20 := Nat.le_trans (edgesK_len t (statesL t.vars).length) (Nat.mul_le_mul hlen hO)
  repeat (first | refine go_run ?_ | (refine go_newP ?_; clear hw; intro p w hw) | (refine go_newW ?_; clear hw; intro w hw) | (refine go_newS ?_; clear hw; intro s w hw))
  refine st_call rfl (Project_spec (vp := s1) (L := L) (ht'.at hw) (rsO hw)) ?_
  rintro _ w' ⟨cv, ev, gv, rfl, hk'⟩
  rw [he1, sysE_ok] at hk'
  rw [he1, errV_zero rfl, sysE_ok, sysV_ok]
  have hw2 := hw.call hk'
  clear hk' hw
  have hw := hw2
  clear hw2
  refine ⟨_, rfl, ?_⟩
  have o1 := (hw.rs 0 rfl).one
  have o2 := (hw.rs 1 rfl).one
  have o3 := (hw.rs 2 rfl).one
  repeat (first | refine go_run ?_ | (refine go_newP ?_; clear hw; intro p w hw) | (refine go_newWs ?_; clear hw; intro w hw) | (refine go_newS ?_; clear hw; intro s w hw))
  refine st_boxAgg (n := 5) (p := p) (vs := [.int .i64 (cntL t.vars L), .int .i64 (idxL t.vars L t.init), cv, ev, gv]) rfl rfl hw inferInstance rfl rfl (by simp only [List.all_cons, List.all_nil, o1, o2, o3]; rfl) ?_
  clear hw
  intro w hw
  obtain ⟨px, hpx⟩ : ∃ px, px = p := ⟨p, rfl⟩
  subst hpx
  have hw1 : Sat w0 w [Box px 35 [.int .i64 (cntL t.vars L), .int .i64 (idxL t.vars L t.init), cv, ev, gv], OS tInt 3 cv (costsT t), OS tEdg 50 ev (pEdges t L), OS tBool 4 gv (goalsK t L (cntL t.vars L).toNat), OS tInt 3 s1 L, Box pt 26 [a, b, c, d]] := hw
  clear hw
  have hw := hw1
  clear hw1
  repeat (first | refine go_run ?_ | (refine go_newP ?_; clear hw; intro p w hw) | (refine go_newW ?_; clear hw; intro w hw) | (refine go_newS ?_; clear hw; intro s w hw))
  refine st_call rfl (Edges_spec (ht'.at hw) hg (by omega)) ?_
  rintro _ w' ⟨es, rfl, hk'⟩
  replace hw := hw.call1 hk'
  clear hk'
  rw [hEd, hCn] at hw
  refine ⟨_, rfl, ?_⟩
  rw [hCn]
  repeat (first | refine go_run ?_ | (refine go_newP ?_; clear hw; intro p w hw) | (refine go_newWr ?_; clear hw; intro w hw) | (refine go_newS ?_; clear hw; intro s w hw))
  refine vc_plan [.op 0, .op 1, .op 2, .op 3, .op 4, .op 5, .op 6, .op 7, .op 8, .op 9, .op 10, .op 11, .op 12, .op 13, .op 14, .op 15, .chk 12, .op 16, .op 17] hw (by kernel_rfl) ?_; clear hw; intro w hw
  repeat (first | refine go_run ?_ | (refine go_newP ?_; clear hw; intro p w hw) | (refine go_newWr ?_; clear hw; intro w hw) | (refine go_newS ?_; clear hw; intro s w hw))
  simp only [decide_true, Bool.not_true, Bool.or_self, Bool.or_false, gvff]
  repeat (first | refine go_run ?_ | (refine go_newP ?_; clear hw; intro p w hw) | (refine go_newWr ?_; clear hw; intro w hw) | (refine go_newS ?_; clear hw; intro s w hw))
  refine st_call rfl (Many_spec (ha.at hw) hg.pos (by decide) (by decide)) ?_
  rintro _ w' ⟨rfl, hk'⟩
  replace hw := hw.call0 hk'
  clear hk'
  rw [hmany]
  refine ⟨_, rfl, ?_⟩
  repeat (first | refine go_run ?_ | (refine go_newP ?_; clear hw; intro p w hw) | (refine go_newW ?_; clear hw; intro w hw) | (refine go_newS ?_; clear hw; intro s w hw))
  refine go_if (fun h2 => ?_) (fun h2 => ?_)
  · exact absurd trivial h2
  repeat (first | refine go_run ?_ | (refine go_newP ?_; clear hw; intro p w hw) | (refine go_newW ?_; clear hw; intro w hw) | (refine go_newS ?_; clear hw; intro s w hw))
  refine vc_loop [2, 8, 9, 69, 70, 71, 72, 73, 74, 75, 76, 77, 78, 79, 80, 81, 82, 83, 84, 85, 86, 87] (G := Nat) (fun k => [(69, .int .i64 k)]) (fun k w => k ≤ (edgesT t).length ∧ Sat w0 w [OS tEdg 78 es (edgesT t), Box px 35 [.int .i64 (prodL t.vars), .int .i64 (idxL t.vars L t.init), cv, ev, gv], OS tInt 3 cv (costsT t), OS tEdg 50 ev (edgesT t), OS tBool 4 gv (goalsK t L (prodL t.vars).toNat), OS tInt 3 s1 L, Box pt 26 [a, b, c, d]]) (fun k => (edgesT t).length - k) 0 (fun _ => rfl) ⟨rfl, trivial⟩ ⟨Nat.zero_le _, hw⟩ ?_
  clear hw
  rintro σ1 k w ⟨hk, hw⟩
  repeat (first | refine go_run ?_ | (refine go_newP ?_; clear hw; intro p w hw) | (refine go_newW ?_; clear hw; intro w hw) | (refine go_newS ?_; clear hw; intro s w hw))
  refine go_if (fun h3 => ?_) (fun h3 => ?_)
  · have hkl : k < (edgesT t).length := by omega
    repeat (first | refine go_run ?_ | (refine go_newP ?_; clear hw; intro p w hw) | (refine go_newWr ?_; clear hw; intro w hw) | (refine go_newS ?_; clear hw; intro s w hw))
    refine vc_plan [.op 0, .op 1, .op 2, .op 3, .op 4, .op 5, .op 6, .op 7, .op 8, .op 9, .op 10, .op 11, .chk 1, .chk 4, .op 12] hw (by kernel_rfl) ?_; clear hw; intro w hw
    repeat (first | refine go_run ?_ | (refine go_newP ?_; clear hw; intro p w hw) | (refine go_newWr ?_; clear hw; intro w hw) | (refine go_newS ?_; clear hw; intro s w hw))
    refine step_pure rfl (pv_neqInts (us := [((edgesT t).getD k tEdg.dflt).src, ((edgesT t).getD k tEdg.dflt).lab, ((edgesT t).getD k tEdg.dflt).dst]) (zs := [((edgesT t).getD k tEdg.dflt).src, ((edgesT t).getD k tEdg.dflt).lab, ((edgesT t).getD k tEdg.dflt).dst]) rfl rfl rfl rfl) ?_
    repeat (first | refine go_run ?_ | (refine go_newP ?_; clear hw; intro p w hw) | (refine go_newW ?_; clear hw; intro w hw) | (refine go_newS ?_; clear hw; intro s w hw))
    refine go_if (fun h4 => ?_) (fun h4 => ?_)
    · exact absurd trivial h4
    · repeat (first | refine go_run ?_ | (refine go_newP ?_; clear hw; intro p w hw) | (refine go_newW ?_; clear hw; intro w hw) | (refine go_newS ?_; clear hw; intro s w hw))
      exact ⟨k + 1, ⟨rfl, trivial⟩, by repeat (first | exact agree_refl | (apply agree_upd rfl) | (apply agree_mix rfl) | (apply agree_sets rfl)), ⟨by omega, hw.tail⟩, by omega⟩
  repeat (first | refine go_run ?_ | (refine go_newP ?_; clear hw; intro p w hw) | (refine go_newW ?_; clear hw; intro w hw) | (refine go_newS ?_; clear hw; intro s w hw))
  refine st_call rfl (States_spec (ha.at hw) hg.pos hg.vars (by omega)) ?_
  rintro _ w' ⟨sv, ss, rfl, hk'⟩
  replace hw := hw.call2 hk'
  clear hk'
  have hss := hw.rowsLen
  refine ⟨_, rfl, ?_⟩
  repeat (first | refine go_run ?_ | (refine go_newP ?_; clear hw; intro p w hw) | (refine go_newW ?_; clear hw; intro w hw) | (refine go_newS ?_; clear hw; intro s w hw))
  refine vc_loop [2, 10, 11, 12, 13, 14, 15, 92, 93, 94, 95, 96, 97, 98, 99, 100, 101, 102, 103, 104, 105, 106, 107, 108, 109, 110, 111, 112, 113, 114, 115, 116, 117, 118, 119, 120, 121, 122, 123, 124, 125, 126, 127, 128, 129, 130, 131, 132, 133, 134, 135, 136, 137, 138] (G := Nat) (fun k => [(92, .int .i64 k)]) (fun k w => k ≤ (statesL t.vars).length ∧ Sat w0 w [RowsAt tInt 3 ss (statesL t.vars), OS tVal 22 sv ss, OS tEdg 78 es (edgesT t), Box px 35 [.int .i64 (prodL t.vars), .int .i64 (idxL t.vars L t.init), cv, ev, gv], OS tInt 3 cv (costsT t), OS tEdg 50 ev (edgesT t), OS tBool 4 gv (goalsK t L (prodL t.vars).toNat), OS tInt 3 s1 L, Box pt 26 [a, b, c, d]]) (fun k => (statesL t.vars).length - k) 0 (fun _ => rfl) ⟨rfl, trivial⟩ ⟨Nat.zero_le _, hw⟩ ?_
  clear hw
  rintro σ2 k w ⟨hk, hw⟩
  repeat (first | refine go_run ?_ | (refine go_newP ?_; clear hw; intro p w hw) | (refine go_newW ?_; clear hw; intro w hw) | (refine go_newS ?_; clear hw; intro s w hw))
  refine go_if (fun h5 => ?_) (fun h5 => ?_)
  · have hkl : k < (statesL t.vars).length := by omega
    obtain ⟨hst, hrk⟩ := statesL_at hg.pos hkl
    have hln := statesL_len hg.pos
    have hgl := goalsK_len t L (prodL t.vars).toNat
    have hga := goalsK_at (t := t) (p := L) (k := (prodL t.vars).toNat) (a := k) (by omega)
    have hgo := hGo k hkl
    rw [← hga] at hgo
    obtain ⟨GK, hGK⟩ : ∃ GK, GK = goalsK t L (prodL t.vars).toNat := ⟨_, rfl⟩
    rw [← hGK] at hw hgl hgo
    repeat (first | refine go_run ?_ | (refine go_newP ?_; clear hw; intro p w hw) | (refine go_newW ?_; clear hw; intro w hw) | (refine go_newS ?_; clear hw; intro s w hw))
    refine st_call rfl (tRank_spec (s := (statesL t.vars).getD k []) (ht'.at hw) (hw.row hkl)) ?_
    rintro _ w' ⟨rfl, hk'⟩
    replace hw := hw.call0 hk'
    clear hk'
    rw [rkErr_ok hg (by omega) hst, if_pos rfl, errV_zero rfl, hrk]
    refine ⟨_, rfl, ?_⟩
    repeat (first | refine go_run ?_ | (refine go_newP ?_; clear hw; intro p w hw) | (refine go_newW ?_; clear hw; intro w hw) | (refine go_newS ?_; clear hw; intro s w hw))
    refine st_call rfl (pIndex_spec (va := s1) (s := (statesL t.vars).getD k []) (ht'.at hw) (rsO hw) (hw.row hkl)) ?_
    rintro _ w' ⟨rfl, hk'⟩
    replace hw := hw.call0 hk'
    clear hk'
    rw [ixErr_ok he2 hst (by omega), if_pos rfl, errV_zero rfl, hIx _ hst.1, hrk]
    refine ⟨_, rfl, ?_⟩
    repeat (first | refine go_run ?_ | (refine go_newP ?_; clear hw; intro p w hw) | (refine go_newWr ?_; clear hw; intro w hw) | (refine go_newS ?_; clear hw; intro s w hw))
    refine vc_plan [.op 0, .op 1, .op 2, .op 3, .op 4, .op 5, .op 6, .op 7, .op 8, .op 9, .op 10, .op 11, .op 12, .op 13, .op 14, .op 15, .op 16, .op 17, .op 18, .op 19, .op 20, .op 21, .op 22, .op 23, .op 24, .op 25, .chk 18, .chk 21, .op 26, .op 27] hw (by kernel_rfl) ?_; clear hw; intro w hw
    repeat (first | refine go_run ?_ | (refine go_newP ?_; clear hw; intro p w hw) | (refine go_newWr ?_; clear hw; intro w hw) | (refine go_newS ?_; clear hw; intro s w hw))
    simp only [decide_true, Bool.not_true, Bool.or_self, Bool.or_false, gvff]
    repeat (first | refine go_run ?_ | (refine go_newP ?_; clear hw; intro p w hw) | (refine go_newWr ?_; clear hw; intro w hw) | (refine go_newS ?_; clear hw; intro s w hw))
    refine st_call rfl (Holds_spec (a := c) (hc.at hw) (hw.row hkl)) ?_
    rintro _ w' ⟨⟨r, rfl, hr2⟩, hk'⟩
    replace hw := hw.call0 hk'
    clear hk'
    refine ⟨_, rfl, ?_⟩
    have hreq : GK.getD k tBool.dflt = r := Bool.eq_iff_iff.2 (hgo.trans hr2.symm)
    repeat (first | refine go_run ?_ | (refine go_newP ?_; clear hw; intro p w hw) | (refine go_newW ?_; clear hw; intro w hw) | (refine go_newS ?_; clear hw; intro s w hw))
    refine go_if (fun h6 => ?_) (fun h6 => ?_)
    · exact absurd hreq (by simpa using h6)
    · repeat (first | refine go_run ?_ | (refine go_newP ?_; clear hw; intro p w hw) | (refine go_newW ?_; clear hw; intro w hw) | (refine go_newS ?_; clear hw; intro s w hw))
      rw [hGK] at hw
      exact ⟨k + 1, ⟨rfl, trivial⟩, by repeat (first | exact agree_refl | (apply agree_upd rfl) | (apply agree_mix rfl) | (apply agree_sets rfl)), ⟨by omega, hw⟩, by omega⟩
  · repeat (first | refine go_run ?_ | (refine go_newP ?_; clear hw; intro p w hw) | (refine go_newW ?_; clear hw; intro w hw) | (refine go_newS ?_; clear hw; intro s w hw))
    exact res_one (v := .bool true) rfl rfl ⟨rfl, sat_none hw⟩
end Go.Proofs.Ytlgombjhcpgleaa
