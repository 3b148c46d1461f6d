
/-
  The statement 'SaturateScales' returns true.
-/
import Derived.Test.YtnoiagnmbipppaaWPicked
import Derived.Test.YtnoiagnmbipppaaTMix
set_option linter.unusedSimpArgs false
set_option linter.unusedVariables false
namespace Go.Proofs.Ytnoiagnmbipppaa
open Go.Sl Go
attribute [local irreducible] vc opsW opsD opV opW PureV ReadV Thn Blk

instance : IntT Try.prog 5 .u8 := ⟨by kernel_rfl⟩
instance : IntT Try.prog 3 .i64 := ⟨by kernel_rfl⟩
/-- The operators with their costs multiplied. -/
def usL (f : Int) (vs : List OpV) : List OpV := vs.map fun v => ⟨v.name, v.cost * f, v.pre, v.effs⟩
theorem usL_len (f : Int) (vs : List OpV) : (usL f vs).length = vs.length := by simp [usL]
theorem usL_at {f : Int} {vs : List OpV} {i : Nat} (h : i < vs.length) : eget tOp (usL f vs) i = ⟨(eget tOp vs i).name, (eget tOp vs i).cost * f, (eget tOp vs i).pre, (eget tOp vs i).effs⟩ := by
  simp [eget_eq, usL, List.getD, h]
theorem usL_take {f : Int} {vs : List OpV} {k : Nat} (h : k < vs.length) : usL f (vs.take (k + 1)) = usL f (vs.take k) ++ [⟨(eget tOp vs k).name, (eget tOp vs k).cost * f, (eget tOp vs k).pre, (eget tOp vs k).effs⟩] := by
  rw [take_snoc tOp.dflt h, eget_eq]; simp [usL]
theorem rops_scale {w : World} {nv d : Value} {vs : List OpV} {t : TTask} {f : Int} (h : ROps w d vs t.ops) (hn : RS tOp w nv (usL f vs)) : ROps w nv (usL f vs) (scaleT f t).ops := by
  have hl := h.len
  refine ⟨hn, by rw [usL_len, scaleT_len, hl], fun i hi => ?_⟩
  rw [scaleT_len] at hi
  rw [usL_at (by omega), scaleT_at]
  have h1 := h.at_ i hi
  exact ⟨h1.name, h1.size, by simp only [scaleO]; rw [h1.cost], h1.pre, h1.effs⟩

set_option maxRecDepth 8000 in
set_option maxHeartbeats 8000000 in
theorem SaturateScales_walk {w0 : World} {a b c d xv : Value} {vs : List OpV} {t : TTask} {xs : List Int} {fac : Int} (ht : RTask w0 a b c d vs t) (hx : RS tU16 w0 xv xs) (hf0 : 0 ≤ fac ∧ fac ≤ 255) :
    Calls Try.prog 9 #[.agg #[a, b, c, d], xv, .int .u8 fac] w0 fun e w' => e = .returned (.bool true) ∧ Sat w0 w' [] := by
  have ht' := ht
  obtain ⟨ha, hb, hc, hd⟩ := ht
  have hrs := hd.rs
  have hdl := hd.len
  have hll := hrs.big
  have hw := Sat.start w0
  refine calls_of_vc (args := [.agg #[a, b, c, d], xv, .int .u8 fac]) mixed Try.func9 rfl (by kernel_rfl) (Nat.le_of_ble_eq_true rfl) ?_
  repeat (first | refine go_run ?_ | (refine go_newP ?_; clear hw; intro p w hw) | (refine go_newWr ?_; clear hw; intro w hw) | (refine go_newS ?_; clear hw; intro s w hw))
  obtain ⟨pt, hpt⟩ : ∃ pt, pt = p := ⟨p, rfl⟩
  subst hpt
  refine st_call rfl (picked_spec (ht'.at hw) (hx.at hw)) ?_
  rintro _ w' (⟨_, rfl, hk'⟩ | ⟨hpk, lv, ls, rfl, hk'⟩)
  · replace hw := hw.call0 hk'
    clear hk'
    refine ⟨_, rfl, ?_⟩
    repeat (first | refine go_run ?_ | (refine go_newP ?_; clear hw; intro p w hw) | (refine go_newW ?_; clear hw; intro w hw) | (refine go_newS ?_; clear hw; intro s w hw))
    refine st_call rfl sawake_spec ?_
    rintro _ w' ⟨rfl, hk'⟩
    replace hw := hw.call0 hk'
    clear hk'
    refine ⟨_, rfl, ?_⟩
    repeat (first | refine go_run ?_ | (refine go_newP ?_; clear hw; intro p w hw) | (refine go_newW ?_; clear hw; intro w hw) | (refine go_newS ?_; clear hw; intro s w hw))
    exact res_one (v := .bool true) rfl rfl ⟨rfl, sat_none hw⟩
  replace hw := hw.call2 hk'
  clear hk'
  refine ⟨_, rfl, ?_⟩
  have hs := hpk.1
  have hg := hs.good
  have hV := hs.vars
  have hO := hs.ops
  have hM := hs.many
  have hlen : (statesL t.vars).length ≤ 512 := by rw [statesL_len hg.pos]; omega
  have hne := hpk.nerr
  have hpe := hpk.err
  have hL6 : (pickLs t xs).length ≤ 6 := by rw [pickLs_len]; exact hpk.2.1
  have hin : ∀ k, k < (pickLs t xs).length → InV t.vars ((pickLs t xs).getD k []) := fun k hk => PickOk.inV (by rw [pickLs_len] at hk; exact hk)
  have hsm : ∀ k, k < (pickLs t xs).length → cntL t.vars ((pickLs t xs).getD k []) ≤ 64 := fun k hk => by
    rw [pickLs_len] at hk
    rw [pickLs_at hk]; exact hpk.2.2 k hk
  obtain ⟨Ls, hLs⟩ : ∃ Ls, Ls = pickLs t xs := ⟨_, rfl⟩
  rw [← hLs] at hw hne hpe hL6 hin hsm
  have hlsl := hw.rowsLen
  have hmm : 0 ≤ fac.tmod 5 ∧ fac.tmod 5 ≤ 4 := by rw [Int.tmod_eq_emod_of_nonneg hf0.1]; omega
  repeat (first | refine go_run ?_ | (refine go_newP ?_; clear hw; intro p w hw) | (refine go_newW ?_; clear hw; intro w hw) | (refine go_newS ?_; clear hw; intro s w hw))
  refine st_call rfl sawake_spec ?_
  rintro _ w' ⟨rfl, hk'⟩
  replace hw := hw.call0 hk'
  clear hk'
  refine ⟨_, rfl, ?_⟩
  repeat (first | refine go_runC ?_ | (refine go_newP ?_; clear hw; intro p w hw) | (refine go_newW ?_; clear hw; intro w hw) | (refine go_newS ?_; clear hw; intro s w hw))
  refine vc_condF rfl ?_
  refine vc_skip ?_
  refine thn_normal ?_
  refine vc_seq ?_
  refine vc_region ?_
  refine go_pure ?_
  refine step_pure rfl (pv_conv (ks := .u8) (n := fac) rfl (by omega) (by omega)) ?_
  have hone4 : [a, b, c, d].all Value.oneCell' = true := by simp only [List.all_cons, List.all_nil, ha.one, hb.one, hc.one, hrs.one]; rfl
  repeat (first | refine go_run ?_ | (refine go_newP ?_; clear hw; intro p w hw) | (refine go_newW ?_; clear hw; intro w hw) | (refine go_newS ?_; clear hw; intro s w hw))
  obtain ⟨f, hf⟩ : ∃ f, f = fac.tmod 5 + 1 := ⟨_, rfl⟩
  rw [← hf]
  have hf1 : 1 ≤ f ∧ f ≤ 5 := by omega
  clear hmm hf
  have hM1 : ∀ {x B : Int}, 0 ≤ x → x ≤ B → 0 ≤ f * x ∧ f * x ≤ 5 * B := fun h0 hB => mul5 hf1.1 hf1.2 h0 hB
  obtain ⟨p2, hp2⟩ : ∃ p2, p2 = p := ⟨p, rfl⟩
  subst hp2
  have hw1 : Sat w0 w [Box p2 26 [a, b, c, .slice none 0 0], OS tOp 46 (.slice none 0 0) (usL f (vs.take 0)), RowsAt tInt 3 ls Ls, OS tVal 22 lv ls, Box pt 26 [a, b, c, d]] := by
    have hw2 : Sat w0 w [Box p2 26 [a, b, c, .slice none 0 0], RowsAt tInt 3 ls Ls, OS tVal 22 lv ls, Box pt 26 [a, b, c, d]] := hw
    have hw3 : Sat w0 w [Box p2 26 [a, b, c, .slice none 0 0], OS tOp 46 (.slice none 0 0) [], RowsAt tInt 3 ls Ls, OS tVal 22 lv ls, Box pt 26 [a, b, c, d]] := (hw2.nil (T := tOp) (e := 46)).sel
    exact hw3
  clear hw
  refine vc_loop2 [6, 12, 47, 48, 49, 50, 51, 52, 53, 54, 55, 56, 57, 58, 59, 60, 61, 62, 63, 64, 65, 66, 67] (G := Nat) (H := Value) (fun k _ => [(47, .int .i64 k)]) (fun k nv w => k ≤ t.ops.length ∧ (∀ i, i < k → (t.ops.getD i dOp).cost * f ≤ 1048576) ∧ Sat w0 w [Box p2 26 [a, b, c, nv], OS tOp 46 nv (usL f (vs.take k)), RowsAt tInt 3 ls Ls, OS tVal 22 lv ls, Box pt 26 [a, b, c, d]]) (fun k _ => t.ops.length - k) 0 (.slice none 0 0) (fun _ _ => rfl) ⟨rfl, trivial⟩ ⟨Nat.zero_le _, fun i hi => absurd hi (Nat.not_lt_zero _), hw1⟩ ?_
  clear hw1
  rintro σ k nv w ⟨hk, hcst, hw⟩
  repeat (first | refine go_run ?_ | (refine go_newP ?_; clear hw; intro p w hw) | (refine go_newW ?_; clear hw; intro w hw) | (refine go_newS ?_; clear hw; intro s w hw))
  refine go_if (fun h1 => ?_) (fun h1 => ?_)
  · have hkl : k < t.ops.length := by omega
    have hop := hd.at_ k hkl
    have hone := hop.one
    have hco := hop.cost
    have hgo := hg.op k hkl
    have hc0 := hgo.cost0
    have hc1 := hgo.cost1
    rw [← hco] at hc0 hc1
    have hmk := hM1 hc0 hc1
    rw [Int.mul_comm] at hmk
    have hml : -9223372036854775808 ≤ (eget tOp vs k).cost * f := by omega
    have hmh : (eget tOp vs k).cost * f ≤ 9223372036854775807 := by omega
    repeat (first | refine go_run ?_ | (refine go_newP ?_; clear hw; intro p w hw) | (refine go_newW ?_; clear hw; intro w hw) | (refine go_newS ?_; clear hw; intro s w hw))
    refine go_if (fun h2 => ?_) (fun h2 => ?_)
    · repeat (first | refine go_run ?_ | (refine go_newP ?_; clear hw; intro p w hw) | (refine go_newW ?_; clear hw; intro w hw) | (refine go_newS ?_; clear hw; intro s w hw))
      exact res_one (v := .bool true) rfl rfl ⟨rfl, sat_none hw⟩
    have hone2 : [(.string (eget tOp vs k).name), .int .i64 ((eget tOp vs k).cost * f), (eget tOp vs k).pre, (eget tOp vs k).effs].all Value.oneCell' = true := hone
    repeat (first | refine go_run ?_ | (refine go_newP ?_; clear hw; intro p w hw) | (refine go_newW ?_; clear hw; intro w hw) | (refine go_newS ?_; clear hw; intro s w hw))
    refine st_buildSlice1 tOp (x1 := ⟨(eget tOp vs k).name, (eget tOp vs k).cost * f, (eget tOp vs k).pre, (eget tOp vs k).effs⟩) rfl rfl rfl (Nat.le_of_ble_eq_true rfl) (Nat.zero_lt_succ _) hw ?_
    clear hw
    intro bs w hw
    have hul := usL_len f (vs.take k)
    rw [List.length_take] at hul
    refine st_append (s := nv) (s2 := bs) inferInstance rfl rfl (rsO hw) rfl rfl (fun x hx v hv => by rw [List.mem_singleton.1 hx] at hv; exact List.all_eq_true.1 hone2 v hv) (by simp only [List.length_cons, List.length_nil]; omega) (by unfold big; simp only [List.length_cons, List.length_nil]; omega) hw ?_
    clear hw
    intro nv2 w hw
    have onv := (rsO (s := nv2) hw).one
    repeat (first | refine go_run ?_ | (refine go_newP ?_; clear hw; intro p w hw) | (refine go_newW ?_; clear hw; intro w hw) | (refine go_newS ?_; clear hw; intro s w hw))
    rw [← usL_take (by omega)] at hw
    have hw2 : Sat w0 w [OS tOp 46 bs [⟨(eget tOp vs k).name, (eget tOp vs k).cost * f, (eget tOp vs k).pre, (eget tOp vs k).effs⟩], Box p 46 ((tOp.enc (eget tOp vs k)).set 1 (.int .i64 ((eget tOp vs k).cost * f))), Box p2 26 [a, b, c, nv2], OS tOp 46 nv2 (usL f (vs.take (k + 1))), RowsAt tInt 3 ls Ls, OS tVal 22 lv ls, Box pt 26 [a, b, c, d]] := hw
    refine ⟨k + 1, nv2, ⟨rfl, trivial⟩, by repeat (first | exact agree_refl | (apply agree_upd rfl) | (apply agree_mix rfl) | (apply agree_sets rfl)), ⟨by omega, fun i hi => ?_, hw2.sel⟩, by omega⟩
    by_cases e : i = k
    · subst e; rw [← hco]; omega
    · exact hcst i (by omega)
  have hke : k = t.ops.length := by omega
  subst hke
  rw [show vs.take t.ops.length = vs by rw [List.take_of_length_le (by omega)]] at hw
  have hs2 := scaleT_small hs (show 0 ≤ f by omega) hcst
  have hg2 := hs2.good
  have hpe2 : ∀ i, i < Ls.length → pErr (scaleT f t) (Ls.getD i []) = 0 := fun i hi => (small_err hs2 (hin i hi)).1
  have hne2 : nErr (scaleT f t) Ls = 0 := by
    unfold nErr
    rw [if_neg (by rw [(good_iff _).2 hg2]; decide), if_neg (fun ⟨i, hi, hn⟩ => hn (chkP_zero.1 (small_err hs2 (hin i hi)).2).2), if_neg (by omega)]
  repeat (first | refine go_run ?_ | (refine go_newP ?_; clear hw; intro p w hw) | (refine go_newW ?_; clear hw; intro w hw) | (refine go_newS ?_; clear hw; intro s w hw))
  refine st_call rfl (New_spec (s := lv) (ss := ls) (Ls := Ls) (ht'.at hw) ⟨hw.rs 3 rfl, hlsl, fun i hi => (hw.focus 2 rfl).row hi⟩ (fun _ _ _ => hpe)) ?_
  rintro _ w' (⟨h1, _⟩ | ⟨_, _, _, _, pp, Ds, Ps, rfl, hR, hk'⟩)
  · exact absurd hne h1
  replace hw := hw.call1 hk'
  clear hk'
  refine ⟨_, rfl, ?_⟩
  have hSC : SatC t Ls Ds Ps := ⟨hR, hg, hin, hsm, by omega⟩
  repeat (first | refine go_run ?_ | (refine go_newP ?_; clear hw; intro p w hw) | (refine go_newW ?_; clear hw; intro w hw) | (refine go_newS ?_; clear hw; intro s w hw))
  refine st_call rfl (New_spec (s := lv) (ss := ls) (Ls := Ls) (t := scaleT f t) ⟨ha.at hw, hb.at hw, hc.at hw, rops_scale (hd.at hw) (hw.rs 2 rfl)⟩ ⟨hw.rs 4 rfl, hlsl, fun i hi => (hw.focus 3 rfl).row hi⟩ (fun _ _ _ => hpe2)) ?_
  rintro _ w' (⟨h1, _⟩ | ⟨_, _, _, _, px, Es, Qs, rfl, hR2, hk'⟩)
  · exact absurd hne2 h1
  replace hw := hw.call1 hk'
  clear hk'
  refine ⟨_, rfl, ?_⟩
  have hSC2 : SatC (scaleT f t) Ls Es Qs := ⟨hR2, hg2, hin, hsm, by omega⟩
  have hPl := hR.pl
  have hQl := hR2.pl
  have hpc := fun k (hk : k < Ls.length) => part_cost hSC hk
  have hpq := fun k (hk : k < Ls.length) => scale_part (show 0 < f by omega) hSC hSC2 hk
  have hw : Sat w0 w' [RdH (fun w => RPt w px (scaleT f t) Ls Es Qs), RdH (fun w => RPt w pp t Ls Ds Ps), Box pt 26 [a, b, c, d]] := by
    have hw2 : Sat w0 w' [RdH (fun w => RPt w px (scaleT f t) Ls Es Qs), RdH (fun w => RPt w pp t Ls Ds Ps), Box p2 26 [a, b, c, nv], OS tOp 46 nv (usL f vs), RowsAt tInt 3 ls Ls, OS tVal 22 lv ls, Box pt 26 [a, b, c, d]] := hw
    exact hw2.sel
  repeat (first | refine go_run ?_ | (refine go_newP ?_; clear hw; intro p w hw) | (refine go_newW ?_; clear hw; intro w hw) | (refine go_newS ?_; clear hw; intro s w hw))
  refine st_call rfl (Parts_spec (hw.rdE 1 rfl) (by omega) (fun i hi => by have := (hpc i (by omega)).1; omega)) ?_
  rintro _ w' ⟨pv, ps, rfl, hk'⟩
  replace hw := hw.call2 hk'
  clear hk'
  refine ⟨_, rfl, ?_⟩
  have hpsl := hw.rowsLen
  repeat (first | refine go_run ?_ | (refine go_newP ?_; clear hw; intro p w hw) | (refine go_newW ?_; clear hw; intro w hw) | (refine go_newS ?_; clear hw; intro s w hw))
  refine st_call rfl (Parts_spec (hw.rdE 2 rfl) (by omega) (fun i hi => by rw [hpq i (by omega), List.length_map]; have := (hpc i (by omega)).1; omega)) ?_
  rintro _ w' ⟨qv, qs, rfl, hk'⟩
  replace hw := hw.call2 hk'
  clear hk'
  refine ⟨_, rfl, ?_⟩
  have hqsl := hw.rowsLen
  repeat (first | refine go_run ?_ | (refine go_newP ?_; clear hw; intro p w hw) | (refine go_newW ?_; clear hw; intro w hw) | (refine go_newS ?_; clear hw; intro s w hw))
  refine go_if (fun h3 => ?_) (fun h3 => ?_)
  · exfalso; omega
  repeat (first | refine go_run ?_ | (refine go_newP ?_; clear hw; intro p w hw) | (refine go_newW ?_; clear hw; intro w hw) | (refine go_newS ?_; clear hw; intro s w hw))
  have hw : Sat w0 w' [RowsAt tInt 3 qs Qs, OS tVal 22 qv qs, RowsAt tInt 3 ps Ps, OS tVal 22 pv ps, RdH (fun w => RPt w px (scaleT f t) Ls Es Qs), RdH (fun w => RPt w pp t Ls Ds Ps), Box pt 26 [a, b, c, d]] := hw
  refine vc_loop [6, 19, 20, 97, 98, 99, 100, 101, 102, 103, 104, 105, 106, 107, 108, 109, 110, 111, 112, 113, 114, 115, 116, 117, 118, 119, 120, 121, 122, 123, 124, 125, 126, 127, 128, 129, 130, 131, 132, 133, 134, 135, 136, 137] (G := Nat) (fun k => [(97, .int .i64 k)]) (fun k w => k ≤ Ls.length ∧ Sat w0 w [RowsAt tInt 3 qs Qs, OS tVal 22 qv qs, RowsAt tInt 3 ps Ps, OS tVal 22 pv ps, RdH (fun w => RPt w px (scaleT f t) Ls Es Qs), RdH (fun w => RPt w pp t Ls Ds Ps), Box pt 26 [a, b, c, d]]) (fun k => Ls.length - k) 0 (fun _ => rfl) ⟨rfl, trivial⟩ ⟨Nat.zero_le _, hw⟩ ?_
  clear hw
  rintro σ1 k w ⟨hk, hw⟩
  repeat (first | refine go_run ?_ | (refine go_newP ?_; clear hw; intro p w hw) | (refine go_newW ?_; clear hw; intro w hw) | (refine go_newS ?_; clear hw; intro s w hw))
  refine go_if (fun h4 => ?_) (fun h4 => ?_)
  · have hkl : k < Ls.length := by omega
    obtain ⟨hp1, hp2, hp3⟩ := hpc k hkl
    have hqe := hpq k hkl
    obtain ⟨S, hS⟩ : ∃ S, S = Ps.getD k [] := ⟨_, rfl⟩
    have hql2 : (S.map (f * ·)).length = S.length := List.length_map _
    rw [← hS] at hp1 hp3 hqe
    repeat (first | refine go_run ?_ | (refine go_newP ?_; clear hw; intro p w hw) | (refine go_newWr ?_; clear hw; intro w hw) | (refine go_newS ?_; clear hw; intro s w hw))
    refine vc_plan [.op 0, .op 1, .op 2, .op 3, .op 4, .op 5, .op 6, .op 7, .op 8, .op 9, .op 10] hw (by kernel_rfl) ?_; clear hw; intro w hw
    have hr1 : RS tInt w (vget ps k) S := by rw [hS]; exact (hw.focus 2 rfl).row (by omega)
    have hr2 : RS tInt w (vget qs k) (S.map (f * ·)) := by rw [← hqe]; exact (hw.focus 0 rfl).row (by omega)
    repeat (first | refine go_run ?_ | (refine go_newP ?_; clear hw; intro p w hw) | (refine go_newW ?_; clear hw; intro w hw) | (refine go_newS ?_; clear hw; intro s w hw))
    refine go_if (fun h5 => ?_) (fun h5 => ?_)
    · exfalso; omega
    repeat (first | refine go_run ?_ | (refine go_newP ?_; clear hw; intro p w hw) | (refine go_newW ?_; clear hw; intro w hw) | (refine go_newS ?_; clear hw; intro s w hw))
    refine vc_loop [6, 20, 116, 117, 118, 119, 120, 121, 122, 123, 124, 125, 126, 127, 128, 129, 130, 131, 132, 133, 134, 135, 136] (G := Nat) (fun j => [(116, .int .i64 j)]) (fun j w => j ≤ S.length ∧ Sat w0 w [RowsAt tInt 3 qs Qs, OS tVal 22 qv qs, RowsAt tInt 3 ps Ps, OS tVal 22 pv ps, RdH (fun w => RPt w px (scaleT f t) Ls Es Qs), RdH (fun w => RPt w pp t Ls Ds Ps), Box pt 26 [a, b, c, d]]) (fun j => S.length - j) 0 (fun _ => rfl) ⟨rfl, trivial⟩ ⟨Nat.zero_le _, hw⟩ ?_
    clear hw hr1 hr2
    rintro σ2 j w ⟨hj, hw⟩
    have hr1 : RS tInt w (vget ps k) S := by rw [hS]; exact (hw.focus 2 rfl).row (by omega)
    have hr2 : RS tInt w (vget qs k) (S.map (f * ·)) := by rw [← hqe]; exact (hw.focus 0 rfl).row (by omega)
    repeat (first | refine go_run ?_ | (refine go_newP ?_; clear hw; intro p w hw) | (refine go_newW ?_; clear hw; intro w hw) | (refine go_newS ?_; clear hw; intro s w hw))
    refine go_if (fun h6 => ?_) (fun h6 => ?_)
    · have hjl : j < S.length := by omega
      have hsj := hp3.at (i := j) (by omega)
      have hmj := hM1 hsj.1 hsj.2
      have hma := map_at f S j
      have hml : -9223372036854775808 ≤ f * S.getD j tInt.dflt := by omega
      have hmh : f * S.getD j tInt.dflt ≤ 9223372036854775807 := by omega
      repeat (first | refine go_run ?_ | (refine go_newP ?_; clear hw; intro p w hw) | (refine go_newWr ?_; clear hw; intro w hw) | (refine go_newS ?_; clear hw; intro s w hw))
      refine vc_plan [.op 0, .op 1, .op 2, .op 3, .op 4, .op 5, .op 6, .op 7, .op 8, .op 9, .op 10, .op 11, .op 12, .op 13, .op 14, .op 15, .op 16] hw (by kernel_rfl) ?_; clear hw; intro w hw
      clear hr1 hr2
      have hr1 : RS tInt w (vget ps k) S := by rw [hS]; exact (hw.focus 2 rfl).row (by omega)
      have hr2 : RS tInt w (vget qs k) (S.map (f * ·)) := by rw [← hqe]; exact (hw.focus 0 rfl).row (by omega)
      repeat (first | refine go_run ?_ | (refine go_newP ?_; clear hw; intro p w hw) | (refine go_newW ?_; clear hw; intro w hw) | (refine go_newS ?_; clear hw; intro s w hw))
      refine go_if (fun h7 => ?_) (fun h7 => ?_)
      · exfalso; exact h7 hma.symm
      repeat (first | refine go_run ?_ | (refine go_newP ?_; clear hw; intro p w hw) | (refine go_newW ?_; clear hw; intro w hw) | (refine go_newS ?_; clear hw; intro s w hw))
      exact ⟨j + 1, ⟨rfl, trivial⟩, by repeat (first | exact agree_refl | (apply agree_upd rfl) | (apply agree_mix rfl) | (apply agree_sets rfl)), ⟨by omega, hw⟩, by omega⟩
    · repeat (first | refine go_run ?_ | (refine go_newP ?_; clear hw; intro p w hw) | (refine go_newW ?_; clear hw; intro w hw) | (refine go_newS ?_; clear hw; intro s w hw))
      exact ⟨k + 1, ⟨rfl, trivial⟩, by repeat (first | exact agree_refl | (apply agree_upd rfl) | (apply agree_mix rfl) | (apply agree_sets rfl)), ⟨by omega, hw⟩, by omega⟩
  have hke : k = Ls.length := by omega
  subst hke
  repeat (first | refine go_run ?_ | (refine go_newP ?_; clear hw; intro p w hw) | (refine go_newW ?_; clear hw; intro w hw) | (refine go_newS ?_; clear hw; intro s w hw))
  refine st_call rfl (States_spec (ha.at hw) hg.pos hg.vars (by omega)) ?_
  rintro _ w' ⟨sv, ss, rfl, hk'⟩
  replace hw := hw.call2 hk'
  clear hk'
  have hss := hw.rowsLen
  refine ⟨_, rfl, ?_⟩
  repeat (first | refine go_run ?_ | (refine go_newP ?_; clear hw; intro p w hw) | (refine go_newW ?_; clear hw; intro w hw) | (refine go_newS ?_; clear hw; intro s w hw))
  have hw1 : Sat w0 w' [RowsAt tInt 3 ss (statesL t.vars), OS tVal 22 sv ss, RdH (fun w => RPt w px (scaleT f t) Ls Es Qs), RdH (fun w => RPt w pp t Ls Ds Ps)] := by
    have hw2 : Sat w0 w' [RowsAt tInt 3 ss (statesL t.vars), OS tVal 22 sv ss, RowsAt tInt 3 qs Qs, OS tVal 22 qv qs, RowsAt tInt 3 ps Ps, OS tVal 22 pv ps, RdH (fun w => RPt w px (scaleT f t) Ls Es Qs), RdH (fun w => RPt w pp t Ls Ds Ps), Box pt 26 [a, b, c, d]] := hw
    exact hw2.sel
  clear hw
  refine vc_loop [6, 22, 23, 24, 142, 143, 144, 145, 146, 147, 148, 149, 150, 151, 152, 153, 154, 155, 156, 157, 158, 159, 160, 161, 162, 163, 164, 165, 166, 167, 168] (G := Nat) (fun k => [(142, .int .i64 k)]) (fun k w => k ≤ (statesL t.vars).length ∧ Sat w0 w [RowsAt tInt 3 ss (statesL t.vars), OS tVal 22 sv ss, RdH (fun w => RPt w px (scaleT f t) Ls Es Qs), RdH (fun w => RPt w pp t Ls Ds Ps)]) (fun k => (statesL t.vars).length - k) 0 (fun _ => rfl) ⟨rfl, trivial⟩ ⟨Nat.zero_le _, hw1⟩ ?_
  clear hw1
  rintro σ3 k w ⟨hk, hw⟩
  repeat (first | refine go_run ?_ | (refine go_newP ?_; clear hw; intro p w hw) | (refine go_newW ?_; clear hw; intro w hw) | (refine go_newS ?_; clear hw; intro s w hw))
  refine go_if (fun h8 => ?_) (fun h8 => ?_)
  · have hkl : k < (statesL t.vars).length := by omega
    obtain ⟨hst, hrk⟩ := statesL_at hg.pos hkl
    obtain ⟨hv1, hv2⟩ := scale_val (show 0 < f by omega) hSC hSC2 hst
    obtain ⟨_, _, hr1, hr2⟩ := hSC.fin hst
    repeat (first | refine go_run ?_ | (refine go_newP ?_; clear hw; intro p w hw) | (refine go_newW ?_; clear hw; intro w hw) | (refine go_newS ?_; clear hw; intro s w hw))
    refine st_call rfl (PValue_spec (hw.rdE 3 rfl) hR (by omega) hpe ((hw.focus 0 rfl).row hkl)) ?_
    rintro _ w' ⟨rfl, hk'⟩
    replace hw := hw.call0 hk'
    clear hk'
    refine ⟨_, rfl, ?_⟩
    repeat (first | refine go_run ?_ | (refine go_newP ?_; clear hw; intro p w hw) | (refine go_newW ?_; clear hw; intro w hw) | (refine go_newS ?_; clear hw; intro s w hw))
    refine st_call rfl (PValue_spec (hw.rdE 2 rfl) hR2 (by omega) hpe2 ((hw.focus 0 rfl).row hkl)) ?_
    rintro _ w' ⟨rfl, hk'⟩
    replace hw := hw.call0 hk'
    clear hk'
    refine ⟨_, rfl, ?_⟩
    revert hv1 hv2 hr1 hr2
    generalize valPt t Ls Ds ((statesL t.vars).getD k []) = V
    generalize valPt (scaleT f t) Ls Es ((statesL t.vars).getD k []) = U
    intro hv1 hv2 hr1 hr2
    simp only [inf] at hv1 hv2 hr2
    have hde : decide (1125899906842624 ≤ V) = decide (1125899906842624 ≤ U) := decide_eq_decide.2 (by omega)
    have hml : -9223372036854775808 ≤ f * V := by have := hM1 hr1 hr2; omega
    have hmh : f * V ≤ 9223372036854775807 := by have := hM1 hr1 hr2; omega
    repeat (first | refine go_runC ?_ | (refine go_newP ?_; clear hw; intro p w hw) | (refine go_newW ?_; clear hw; intro w hw) | (refine go_newS ?_; clear hw; intro s w hw))
    refine go_if (fun h9 => ?_) (fun h9 => ?_)
    · exfalso
      rcases h9 with h9 | ⟨x, y⟩
      · rw [hde, beq_self_eq_true] at h9; cases h9
      · exact y (hv2 x)
    repeat (first | refine go_run ?_ | (refine go_newP ?_; clear hw; intro p w hw) | (refine go_newW ?_; clear hw; intro w hw) | (refine go_newS ?_; clear hw; intro s w hw))
    exact ⟨k + 1, ⟨rfl, trivial⟩, by repeat (first | exact agree_refl | (apply agree_upd rfl) | (apply agree_mix rfl) | (apply agree_sets rfl)), ⟨by omega, hw⟩, by omega⟩
  · repeat (first | refine go_run ?_ | (refine go_newP ?_; clear hw; intro p w hw) | (refine go_newW ?_; clear hw; intro w hw) | (refine go_newS ?_; clear hw; intro s w hw))
    exact res_one (v := .bool true) rfl rfl ⟨rfl, sat_none hw⟩
end Go.Proofs.Ytnoiagnmbipppaa
