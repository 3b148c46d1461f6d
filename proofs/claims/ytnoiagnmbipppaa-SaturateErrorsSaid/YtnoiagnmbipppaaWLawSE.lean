
/-
  The statement 'SaturateErrors' returns true.
-/
import Derived.Test.YtnoiagnmbipppaaWPicked
import Derived.Test.YtnoiagnmbipppaaWPat
set_option linter.unusedSimpArgs false
set_option linter.unusedVariables false
namespace Go.Proofs.Ytnoiagnmbipppaa
open Go.Sl Go
attribute [local irreducible] vc opsW opsD opV opW PureV ReadV Thn Blk
instance : IntT Try.prog 5 .u8 := ⟨by kernel_rfl⟩
instance : IntT Try.prog 3 .i64 := ⟨by kernel_rfl⟩
theorem gvT (v : Value) : gv true v = v := gv_true rfl
theorem ls_at (k : Nat) (L : List Int) (i : Nat) (hi : i < k + 1) : (List.replicate k ([] : List Int) ++ [L]).getD i [] = if i = k then L else [] := by
  split
  · rename_i e; exact getD_app_at (by simp [e])
  · rename_i e; rw [getD_app_l (by simp; omega)]; simp [List.getD, show i < k by omega]
theorem nErr_ls {t : TTask} {L : List Int} {k : Nat} (h : checkT t = 0) : nErr t (List.replicate k [] ++ [L]) = if ¬ PatOk t.vars L then 2 else if 32 < k + 1 then 5 else 0 := by
  unfold nErr
  rw [if_neg (by simp [h])]
  have hl : (List.replicate k ([] : List Int) ++ [L]).length = k + 1 := by simp
  by_cases hp : PatOk t.vars L
  · have e1 : ¬ ∃ i, i < (List.replicate k ([] : List Int) ++ [L]).length ∧ ¬ PatOk t.vars ((List.replicate k ([] : List Int) ++ [L]).getD i []) := by
      rintro ⟨i, hi, hn⟩
      rw [ls_at k L i (by omega)] at hn
      split at hn
      · exact hn hp
      · exact hn fun j hj => absurd hj (Nat.not_lt_zero _)
    have e2 : ¬ ¬ PatOk t.vars L := fun h => h hp
    rw [if_neg e1, if_neg e2, hl]
  · rw [if_pos hp, if_pos ⟨k, by omega, by rw [ls_at k L k (by omega), if_pos rfl]; exact hp⟩]

set_option maxRecDepth 8000 in
set_option maxHeartbeats 4000000 in
theorem SaturateErrors_walk {w0 : World} {a b c d vp : Value} {vs : List OpV} {t : TTask} {L : List Int} {many : Int} (ht : RTask w0 a b c d vs t) (hp : RS tInt w0 vp L) (hm0 : 0 ≤ many) (hm1 : many ≤ 255) :
    Calls Try.prog 11 #[.agg #[a, b, c, d], vp, .int .u8 many] w0 fun e w' => e = .returned (.bool true) ∧ Sat w0 w' [] := by
  have ht' := ht
  obtain ⟨ha, hb, hc, hd⟩ := ht
  have hrs := hd.rs
  have hdl := hd.len
  have hll := hrs.big
  have hpb := hp.big
  have hmm : 0 ≤ many.tmod 40 ∧ many.tmod 40 ≤ 39 := by rw [Int.tmod_eq_emod_of_nonneg hm0]; omega
  have hw := Sat.start w0
  refine calls_of_vc (args := [.agg #[a, b, c, d], vp, .int .u8 many]) mixed Try.func11 rfl (by kernel_rfl) (Nat.le_of_ble_eq_true rfl) ?_
  repeat (first | refine go_run ?_ | (refine go_newP ?_; clear hw; intro p w hw) | (refine go_newW ?_; clear hw; intro w hw) | (refine go_newS ?_; clear hw; intro s w hw))
  obtain ⟨pt, hpt⟩ : ∃ pt, pt = p := ⟨p, rfl⟩
  subst hpt
  refine go_case (fun h100 => ?_) (fun h100 => ?_)
  · simp only [h100, gvff, gvtt]; (try simp only [beq_iff_eq, Bool.and_eq_true, Bool.or_eq_true, decide_eq_true_eq, decide_eq_false_iff_not, Bool.not_eq_true, Bool.not_eq_false, Bool.not_eq_eq_eq_not, Bool.not_true, Bool.not_false, Bool.and_eq_false_iff, Bool.or_eq_false_iff, bne_iff_ne, ne_eq, Int.not_lt, Int.not_le, Nat.not_lt, Nat.not_le] at h100)
    repeat (first | refine go_run ?_ | (refine go_newP ?_; clear hw; intro p w hw) | (refine go_newW ?_; clear hw; intro w hw) | (refine go_newS ?_; clear hw; intro s w hw))
    refine st_call rfl sawake_spec ?_
    rintro _ w' ⟨rfl, hk'⟩
    replace hw := hw.call0 hk'
    clear hk'
    refine ⟨_, rfl, ?_⟩
    repeat (first | refine go_run ?_ | (refine go_newP ?_; clear hw; intro p w hw) | (refine go_newW ?_; clear hw; intro w hw) | (refine go_newS ?_; clear hw; intro s w hw))
    exact res_one (v := .bool true) rfl rfl ⟨rfl, sat_none hw⟩
  simp only [h100, gvff, gvtt]; (try simp only [beq_iff_eq, Bool.and_eq_true, Bool.or_eq_true, decide_eq_true_eq, decide_eq_false_iff_not, Bool.not_eq_true, Bool.not_eq_false, Bool.not_eq_eq_eq_not, Bool.not_true, Bool.not_false, Bool.and_eq_false_iff, Bool.or_eq_false_iff, bne_iff_ne, ne_eq, Int.not_lt, Int.not_le, Nat.not_lt, Nat.not_le] at h100)
  repeat (first | refine go_run ?_ | (refine go_newP ?_; clear hw; intro p w hw) | (refine go_newW ?_; clear hw; intro w hw) | (refine go_newS ?_; clear hw; intro s w hw))
  refine st_call rfl sawake_spec ?_
  rintro _ w' ⟨rfl, hk'⟩
  replace hw := hw.call0 hk'
  clear hk'
  refine ⟨_, rfl, ?_⟩
  repeat (first | refine go_run ?_ | (refine go_newP ?_; clear hw; intro p w hw) | (refine go_newW ?_; clear hw; intro w hw) | (refine go_newS ?_; clear hw; intro s w hw))
  refine vc_loop [6, 8, 37, 38, 39, 40, 41, 42, 43, 44, 45, 46, 47, 48, 49, 50, 51] (G := Nat) (fun k => [(37, .int .i64 k)]) (fun k w => k ≤ t.ops.length ∧ Sat w0 w [Box pt 26 [a, b, c, d]]) (fun k => t.ops.length - k) 0 (fun _ => rfl) ⟨rfl, trivial⟩ ⟨Nat.zero_le _, hw⟩ ?_
  clear hw
  rintro σ k w ⟨hk, hw⟩
  repeat (first | refine go_run ?_ | (refine go_newP ?_; clear hw; intro p w hw) | (refine go_newW ?_; clear hw; intro w hw) | (refine go_newS ?_; clear hw; intro s w hw))
  refine go_if (fun h1 => ?_) (fun h1 => ?_)
  · have hkl : k < t.ops.length := by omega
    have hop := hd.at_ k hkl
    have hone := hop.one
    have hpre := hop.pre
    obtain ⟨es, hes⟩ := hop.effs
    have hesr := hes.rs
    repeat (first | refine go_run ?_ | (refine go_newP ?_; clear hw; intro p w hw) | (refine go_newW ?_; clear hw; intro w hw) | (refine go_newS ?_; clear hw; intro s w hw))
    refine go_if (fun h2 => ?_) (fun h2 => ?_)
    · repeat (first | refine go_run ?_ | (refine go_newP ?_; clear hw; intro p w hw) | (refine go_newW ?_; clear hw; intro w hw) | (refine go_newS ?_; clear hw; intro s w hw))
      exact res_one (v := .bool true) rfl rfl ⟨rfl, sat_none hw⟩
    · repeat (first | refine go_run ?_ | (refine go_newP ?_; clear hw; intro p w hw) | (refine go_newW ?_; clear hw; intro w hw) | (refine go_newS ?_; clear hw; intro s w hw))
      exact ⟨k + 1, ⟨rfl, trivial⟩, by repeat (first | exact agree_refl | (apply agree_upd rfl) | (apply agree_mix rfl) | (apply agree_sets rfl)), ⟨by omega, hw.tail⟩, by omega⟩
  have hnil : RS tInt w0 (.slice none 0 0) [] := RS.nil
  have hnilV : RS tVal w0 (.slice none 0 0) [] := RS.nil
  repeat (first | refine go_run ?_ | (refine go_newP ?_; clear hw; intro p w hw) | (refine go_newW ?_; clear hw; intro w hw) | (refine go_newS ?_; clear hw; intro s w hw))
  refine st_call rfl PValue_nil ?_
  rintro _ w' ⟨rfl, hk'⟩
  replace hw := hw.call0 hk'
  clear hk'
  refine ⟨_, rfl, ?_⟩
  repeat (first | refine go_run ?_ | (refine go_newP ?_; clear hw; intro p w hw) | (refine go_newW ?_; clear hw; intro w hw) | (refine go_newS ?_; clear hw; intro s w hw))
  refine st_call rfl Parts_nil ?_
  rintro _ w' ⟨rfl, hk'⟩
  replace hw := hw.call0 hk'
  clear hk'
  refine ⟨_, rfl, ?_⟩
  repeat (first | refine go_runC ?_ | (refine go_newP ?_; clear hw; intro p w hw) | (refine go_newW ?_; clear hw; intro w hw) | (refine go_newS ?_; clear hw; intro s w hw))
  refine vc_condF rfl ?_
  refine vc_skip ?_
  refine thn_normal ?_
  refine vc_seq ?_
  refine vc_region ?_
  refine go_pure ?_
  refine step_pure rfl (pv_conv (ks := .u8) (n := many) rfl (by omega) (by omega)) ?_
  refine go_pure ?_
  refine go_pure ?_
  refine ops_nil ?_
  refine thn_normal ?_
  refine vc_seq ?_
  refine vc_region ?_
  refine go_pure ?_
  refine ops_nil ?_
  refine thn_normal ?_
  refine vc_seq ?_
  refine vc_cut [6, 11, 64, 65, 66, 67, 68, 69, 70, 71, 72, 73, 74, 75, 76, 77, 78, 79, 80, 81, 82, 83, 84, 85, 86, 87, 88, 89] (G := Unit) (fun _ => [(11, .int .i64 (nErr t (List.replicate (many.tmod 40).toNat [] ++ [L])))]) (fun _ w => (nErr t (List.replicate (many.tmod 40).toNat [] ++ [L]) = 0 → SmallT t ∧ PatOk t.vars L ∧ cntL t.vars L ≤ 64) ∧ Sat w0 w [Box pt 26 [a, b, c, d]]) (fun _ => rfl) ?_ ?_
  · repeat (first | refine go_run ?_ | (refine go_newP ?_; clear hw; intro p w hw) | (refine go_newW ?_; clear hw; intro w hw) | (refine go_newS ?_; clear hw; intro s w hw))
    refine st_call rfl (Good_spec (ht'.at hw)) ?_
    rintro _ w' ⟨⟨r, rfl, hr⟩, hk'⟩
    replace hw := hw.call0 hk'
    clear hk'
    refine ⟨_, rfl, ?_⟩
    cases r
    · have hch : checkT t ≠ 0 := fun h => by have := hr.2 ((good_iff t).1 h); cases this
      have hck : nErr t (List.replicate (many.tmod 40).toNat [] ++ [L]) = checkT t := by rw [nErr, if_pos hch]
      repeat (first | refine go_run ?_ | (refine go_newP ?_; clear hw; intro p w hw) | (refine go_newW ?_; clear hw; intro w hw) | (refine go_newS ?_; clear hw; intro s w hw))
      refine st_call rfl (Check_spec (ht'.at hw)) ?_
      rintro _ w' ⟨rfl, hk'⟩
      replace hw := hw.call0 hk'
      clear hk'
      refine ⟨_, rfl, ?_⟩
      repeat (first | refine go_run ?_ | (refine go_newP ?_; clear hw; intro p w hw) | (refine go_newW ?_; clear hw; intro w hw) | (refine go_newS ?_; clear hw; intro s w hw))
      refine st_call rfl (Num_spec (checkT t)) ?_
      rintro _ w' ⟨rfl, hk'⟩
      replace hw := hw.call0 hk'
      clear hk'
      refine ⟨_, rfl, ?_⟩
      repeat (first | refine go_run ?_ | (refine go_newP ?_; clear hw; intro p w hw) | (refine go_newW ?_; clear hw; intro w hw) | (refine go_newS ?_; clear hw; intro s w hw))
      exact ⟨(), ⟨by rw [hck]; rfl, trivial⟩, by repeat (first | exact agree_refl | (apply agree_upd rfl) | (apply agree_mix rfl) | (apply agree_sets rfl)), fun h => absurd (hck.symm.trans h) hch, hw⟩
    · have hch : checkT t = 0 := (good_iff t).2 (hr.1 rfl)
      have hg := hr.1 rfl
      have hne := nErr_ls (L := L) (k := (many.tmod 40).toNat) hch
      repeat (first | refine go_run ?_ | (refine go_newP ?_; clear hw; intro p w hw) | (refine go_newW ?_; clear hw; intro w hw) | (refine go_newS ?_; clear hw; intro s w hw))
      refine st_call rfl (rPattern_spec (va := vp) (ht'.at hw) (hp.at hw)) ?_
      rintro _ w' ⟨⟨r2, rfl, hr2⟩, hk'⟩
      replace hw := hw.call0 hk'
      clear hk'
      refine ⟨_, rfl, ?_⟩
      cases r2
      · have hno : ¬ PatOk t.vars L := fun h => by have := hr2.2 h; cases this
        rw [if_pos hno] at hne
        repeat (first | refine go_run ?_ | (refine go_newP ?_; clear hw; intro p w hw) | (refine go_newW ?_; clear hw; intro w hw) | (refine go_newS ?_; clear hw; intro s w hw))
        exact ⟨(), ⟨by rw [hne]; rfl, trivial⟩, by repeat (first | exact agree_refl | (apply agree_upd rfl) | (apply agree_mix rfl) | (apply agree_sets rfl)), fun h => (by rw [hne] at h; cases h), hw⟩
      have hpo := hr2.1 rfl
      rw [if_neg (fun h => h hpo)] at hne
      repeat (first | refine go_run ?_ | (refine go_newP ?_; clear hw; intro p w hw) | (refine go_newW ?_; clear hw; intro w hw) | (refine go_newS ?_; clear hw; intro s w hw))
      refine go_if (fun h3 => ?_) (fun h3 => ?_)
      · rw [if_pos (by omega)] at hne
        repeat (first | refine go_run ?_ | (refine go_newP ?_; clear hw; intro p w hw) | (refine go_newW ?_; clear hw; intro w hw) | (refine go_newS ?_; clear hw; intro s w hw))
        exact ⟨(), ⟨by rw [hne]; rfl, trivial⟩, by repeat (first | exact agree_refl | (apply agree_upd rfl) | (apply agree_mix rfl) | (apply agree_sets rfl)), fun h => (by rw [hne] at h; cases h), hw⟩
      rw [if_neg (by omega)] at hne
      repeat (first | refine go_run ?_ | (refine go_newP ?_; clear hw; intro p w hw) | (refine go_newW ?_; clear hw; intro w hw) | (refine go_newS ?_; clear hw; intro s w hw))
      refine st_call rfl (Small_spec (ht'.at hw)) ?_
      rintro _ w' ⟨⟨r3, rfl, hr3⟩, hk'⟩
      replace hw := hw.call0 hk'
      clear hk'
      refine ⟨_, rfl, ?_⟩
      cases r3
      · repeat (first | refine go_run ?_ | (refine go_newP ?_; clear hw; intro p w hw) | (refine go_newW ?_; clear hw; intro w hw) | (refine go_newS ?_; clear hw; intro s w hw))
        exact res_one (v := .bool true) rfl rfl ⟨rfl, sat_none hw⟩
      have hs := hr3.1 rfl
      have hM := hs.many
      have hcn := cntL_le hg.pos hpo.inV
      repeat (first | refine go_run ?_ | (refine go_newP ?_; clear hw; intro p w hw) | (refine go_newW ?_; clear hw; intro w hw) | (refine go_newS ?_; clear hw; intro s w hw))
      refine st_call rfl (rMany_spec (va := vp) (ht'.at hw) (hp.at hw) hg.pos hpo.inV.mem (by omega)) ?_
      rintro _ w' ⟨rfl, hk'⟩
      replace hw := hw.call0 hk'
      clear hk'
      refine ⟨_, rfl, ?_⟩
      repeat (first | refine go_run ?_ | (refine go_newP ?_; clear hw; intro p w hw) | (refine go_newW ?_; clear hw; intro w hw) | (refine go_newS ?_; clear hw; intro s w hw))
      refine go_if (fun h4 => ?_) (fun h4 => ?_)
      · repeat (first | refine go_run ?_ | (refine go_newP ?_; clear hw; intro p w hw) | (refine go_newW ?_; clear hw; intro w hw) | (refine go_newS ?_; clear hw; intro s w hw))
        exact res_one (v := .bool true) rfl rfl ⟨rfl, sat_none hw⟩
      · repeat (first | refine go_run ?_ | (refine go_newP ?_; clear hw; intro p w hw) | (refine go_newW ?_; clear hw; intro w hw) | (refine go_newS ?_; clear hw; intro s w hw))
        exact ⟨(), ⟨by rw [hne]; rfl, trivial⟩, by repeat (first | exact agree_refl | (apply agree_upd rfl) | (apply agree_mix rfl) | (apply agree_sets rfl)), fun _ => ⟨hs, hpo, by omega⟩, hw⟩
  clear hw
  rintro σ0 _ w ⟨hz, hw⟩
  have hlL : (List.replicate (many.tmod 40).toNat [] ++ [L]).length = (many.tmod 40).toNat + 1 := by simp
  have hP : GoodT t → (∀ i, i < (List.replicate (many.tmod 40).toNat [] ++ [L]).length → PatOk t.vars ((List.replicate (many.tmod 40).toNat [] ++ [L]).getD i [])) → (List.replicate (many.tmod 40).toNat [] ++ [L]).length ≤ 32 → ∀ i, i < (List.replicate (many.tmod 40).toNat [] ++ [L]).length → pErr t ((List.replicate (many.tmod 40).toNat [] ++ [L]).getD i []) = 0 := by
    intro hg hpa hle i hi
    have hn : nErr t (List.replicate (many.tmod 40).toNat [] ++ [L]) = 0 := by
      unfold nErr
      rw [if_neg (by rw [(good_iff t).2 hg]; decide), if_neg (fun ⟨i, hi, h⟩ => h (hpa i hi)), if_neg (by omega)]
    obtain ⟨hs, hpo, _⟩ := hz hn
    rw [ls_at _ _ _ (by omega)]
    split
    · exact (small_err hs hpo.inV).1
    · exact (small_err hs ⟨fun v hv => by simp at hv, List.Pairwise.nil⟩).1
  have cvp := hp.cells1
  have ovp := hp.one
  repeat (first | refine go_run ?_ | (refine go_newP ?_; clear hw; intro p w hw) | (refine go_newWr ?_; clear hw; intro w hw) | (refine go_newS ?_; clear hw; intro s w hw))
  refine vc_tree (.step 1 [.op 1] (.step 3 [.op 3] (.step 0 [.op 0] (.alt 2 [.op 2, .chk 0] (.step 4 [.op 4, .chk 0] (.step 5 [.op 5, .chk 0] (.step 6 [.op 6] (.step 7 [.op 7] (.step 8 [.op 8] (.step 9 [.op 9] (.step 10 [.op 10] (.step 11 [.op 11] (.lin []))))))))) (.alt 4 [.op 4, .chk 0] (.step 2 [.op 2, .chk 0] (.step 5 [.op 5, .chk 0] (.step 6 [.op 6] (.step 7 [.op 7] (.step 8 [.op 8] (.step 9 [.op 9] (.step 10 [.op 10] (.step 11 [.op 11] (.lin []))))))))) (.stop)))))) hw (by kernel_rfl) (by kernel_rfl) ?_; clear hw; intro w hw
  repeat' (first
    | refine go_run ?_
    | refine opsT_alt ?_ ?_
    | exact opsT_stop
    | (refine go_makeS ?_; clear hw; intro mv w hw)
    | (refine st_buildSlice1 tVal (x1 := vp) rfl cvp rfl (Nat.le_of_ble_eq_true rfl) (Nat.zero_lt_succ _) hw ?_; clear hw; intro bs w hw)
    | (refine st_append (s := mv) (s2 := bs) inferInstance rfl rfl (rsO hw) rfl rfl (fun x hx v hv => by rw [List.mem_singleton.1 hx] at hv; rw [List.mem_singleton.1 hv]; exact ovp) (by simp only [List.length_replicate, List.length_cons, List.length_nil]; omega) (by unfold big; simp only [List.length_replicate, List.length_cons, List.length_nil]; omega) hw ?_; clear hw; intro av w hw))
  all_goals (
    have hrl : RLs w av (List.replicate (many.tmod 40).toNat (.slice none 0 0) ++ [vp]) (List.replicate (many.tmod 40).toNat [] ++ [L]) := ⟨rsO hw, by simp, fun i hi => by
      rw [ls_at _ _ _ (by omega)]
      split
      · rename_i e
        rw [vget_app_at (by simp [e])]
        exact hp.at hw
      · rename_i e
        rw [vget_app_l (by simp; omega), vget_eq]
        have : (List.replicate (many.tmod 40).toNat (Value.slice none 0 0)).getD i undef = .slice none 0 0 := by simp [List.getD, show i < (many.tmod 40).toNat by omega]
        rw [this]
        exact RS.nil⟩
    refine st_call rfl (New_spec (ht'.at hw) hrl hP) ?_
    rintro _ w' (⟨h1, rfl, hk'⟩ | ⟨h1, hg, h32, hpe, pp, Ds, Ps, rfl, hR, hk'⟩)
    · replace hw := hw.call0 hk'
      clear hk'
      refine ⟨_, rfl, ?_⟩
      repeat (first | refine go_run ?_ | (refine go_newP ?_; clear hw; intro p w hw) | (refine go_newW ?_; clear hw; intro w hw) | (refine go_newS ?_; clear hw; intro s w hw))
      refine st_call rfl (Num_spec (nErr t (List.replicate (many.tmod 40).toNat [] ++ [L]))) ?_
      rintro _ w' ⟨rfl, hk'⟩
      replace hw := hw.call0 hk'
      clear hk'
      refine ⟨_, rfl, ?_⟩
      have hdz : decide (nErr t (List.replicate (many.tmod 40).toNat [] ++ [L]) = 0) = false := decide_eq_false h1
      repeat (first | refine go_run ?_ | (refine go_newP ?_; clear hw; intro p w hw) | (refine go_newW ?_; clear hw; intro w hw) | (refine go_newS ?_; clear hw; intro s w hw))
      simp only [hdz, decide_true, Bool.not_false, Option.isNone_none, beq_self_eq_true, Bool.and_self, gvT]
      repeat (first | refine go_run ?_ | (refine go_newP ?_; clear hw; intro p w hw) | (refine go_newW ?_; clear hw; intro w hw) | (refine go_newS ?_; clear hw; intro s w hw))
      exact res_one (v := .bool true) rfl rfl ⟨rfl, sat_none hw⟩
    · replace hw := hw.call1 hk'
      clear hk'
      rw [h1]
      refine ⟨_, rfl, ?_⟩
      repeat (first | refine go_run ?_ | (refine go_newP ?_; clear hw; intro p w hw) | (refine go_newW ?_; clear hw; intro w hw) | (refine go_newS ?_; clear hw; intro s w hw))
      refine st_call rfl (Num_spec 0) ?_
      rintro _ w' ⟨rfl, hk'⟩
      replace hw := hw.call0 hk'
      clear hk'
      refine ⟨_, rfl, ?_⟩
      have hil := hg.init.1
      have hibl : t.init.length ≤ 100 := by omega
      have hnot : ¬ StateOk t.vars ([0] ++ t.init) := fun h => by
        have := h.1
        simp at this
        omega
      repeat (first | refine go_run ?_ | (refine go_newP ?_; clear hw; intro p w hw) | (refine go_newW ?_; clear hw; intro w hw) | (refine go_newS ?_; clear hw; intro s w hw))
      refine st_call rfl (PValue_spec (sv := s) (s := [0] ++ t.init) (hw.rdE 1 rfl) hR h32 hpe (rsO hw)) ?_
      rintro _ w' ⟨rfl, hk'⟩
      replace hw := hw.call0 hk'
      clear hk'
      rw [valPt_no hnot]
      refine ⟨_, rfl, ?_⟩
      repeat (first | refine go_run ?_ | (refine go_newP ?_; clear hw; intro p w hw) | (refine go_newW ?_; clear hw; intro w hw) | (refine go_newS ?_; clear hw; intro s w hw))
      exact res_one (v := .bool true) rfl rfl ⟨rfl, sat_none hw⟩)
end Go.Proofs.Ytnoiagnmbipppaa
