
/-
  The statement 'PdbErrors' returns true.
-/
import Derived.Test.YtnoiagnmbipppaaWPdbAw
import Derived.Test.YtnoiagnmbipppaaWPat
set_option linter.unusedSimpArgs false
set_option linter.unusedVariables false
namespace Go.Proofs.Ytnoiagnmbipppaa
open Go.Sl Go
attribute [local irreducible] vc opsW opsD opV opW PureV ReadV Thn Blk
open Classical in
noncomputable def eErr (t : TTask) (L cs : List Int) : Int := if checkT t ≠ 0 then checkT t else if 0 < cs.length ∧ cs.length ≠ t.ops.length then 11 else if ∃ x ∈ cs, BadC x then 1 else chkP t L
theorem eErr_bErr {t : TTask} {L cs : List Int} (h : eErr t L cs ≠ 0) : bErr t L cs = eErr t L cs := by
  unfold eErr at h ⊢
  unfold bErr
  split
  · rfl
  · split
    · rfl
    · split
      · rfl
      · rename_i h1 h2 h3
        rw [if_neg h1, if_neg h2, if_neg h3] at h
        unfold pErr
        rw [if_pos h]
theorem eErr_zero {t : TTask} {L cs : List Int} (h : eErr t L cs = 0) : GoodT t ∧ PatOk t.vars L ∧ bErr t L cs = pErr t L := by
  unfold eErr at h
  split at h
  · rename_i h1; exact absurd h h1
  · split at h
    · cases h
    · split at h
      · cases h
      · rename_i h1 h2 h3
        obtain ⟨a, b⟩ := chkP_zero.1 h
        exact ⟨a, b, by unfold bErr; rw [if_neg h1, if_neg h2, if_neg h3]⟩
open Classical in
noncomputable def badK (cs : List Int) (k : Nat) : Int := if ∃ i, i < k ∧ BadC (cs.getD i tInt.dflt) then 1 else 0
theorem badK_zero (cs : List Int) : badK cs 0 = 0 := if_neg fun ⟨i, hi, _⟩ => absurd hi (Nat.not_lt_zero _)
theorem badK_yes {cs : List Int} {k : Nat} (h : BadC (cs.getD k tInt.dflt)) : badK cs (k + 1) = 1 := if_pos ⟨k, by omega, h⟩
theorem badK_no {cs : List Int} {k : Nat} (h : ¬ BadC (cs.getD k tInt.dflt)) : badK cs (k + 1) = badK cs k := by
  unfold badK
  have : (∃ i, i < k + 1 ∧ BadC (cs.getD i tInt.dflt)) ↔ ∃ i, i < k ∧ BadC (cs.getD i tInt.dflt) := by
    constructor
    · rintro ⟨i, hi, hb⟩
      by_cases e : i = k
      · subst e; exact absurd hb h
      · exact ⟨i, by omega, hb⟩
    · rintro ⟨i, hi, hb⟩; exact ⟨i, by omega, hb⟩
  by_cases hh : ∃ i, i < k ∧ BadC (cs.getD i tInt.dflt)
  · rw [if_pos (this.2 hh), if_pos hh]
  · rw [if_neg (fun x => hh (this.1 x)), if_neg hh]
theorem badK_iff (cs : List Int) : (∃ i, i < cs.length ∧ BadC (cs.getD i tInt.dflt)) ↔ ∃ x ∈ cs, BadC x := by
  constructor
  · rintro ⟨i, hi, hb⟩; exact ⟨_, mem_getD tInt.dflt hi, hb⟩
  · rintro ⟨x, hx, hb⟩
    obtain ⟨i, hi, rfl⟩ := List.getElem_of_mem hx
    exact ⟨i, hi, by rw [getD_at hi]; exact hb⟩

set_option maxRecDepth 8000 in
set_option maxHeartbeats 4000000 in
theorem PdbErrors_walk {w0 : World} {a b c d vp kv : Value} {vs : List OpV} {t : TTask} {L cs : List Int} (ht : RTask w0 a b c d vs t) (hp : RS tInt w0 vp L) (hk0 : RS tInt w0 kv cs) :
    Calls Try.prog 4 #[.agg #[a, b, c, d], vp, kv] w0 fun e w' => e = .returned (.bool true) ∧ Sat w0 w' [] := by
  have ht' := ht
  obtain ⟨ha, hb, hc, hd⟩ := ht
  have hrs := hd.rs
  have hdl := hd.len
  have hll := hrs.big
  have hpb := hp.big
  have hkb := hk0.big
  have hw := Sat.start w0
  refine calls_of_vc (args := [.agg #[a, b, c, d], vp, kv]) mixed Try.func4 rfl (by kernel_rfl) (Nat.le_of_ble_eq_true rfl) ?_
  repeat (first | refine go_run ?_ | (refine go_newP ?_; clear hw; intro p w hw) | (refine go_newW ?_; clear hw; intro w hw) | (refine go_newS ?_; clear hw; intro s w hw))
  obtain ⟨pt, hpt⟩ : ∃ pt, pt = p := ⟨p, rfl⟩
  subst hpt
  refine go_case (fun h100 => ?_) (fun h100 => ?_)
  · simp only [h100, gvff, gvtt]; (try simp only [beq_iff_eq, Bool.and_eq_true, Bool.or_eq_true, decide_eq_true_eq, decide_eq_false_iff_not, Bool.not_eq_true, Bool.not_eq_false, Bool.not_eq_eq_eq_not, Bool.not_true, Bool.not_false, Bool.and_eq_false_iff, Bool.or_eq_false_iff, bne_iff_ne, ne_eq, Int.not_lt, Int.not_le, Nat.not_lt, Nat.not_le] at h100)
    repeat (first | refine go_run ?_ | (refine go_newP ?_; clear hw; intro p w hw) | (refine go_newW ?_; clear hw; intro w hw) | (refine go_newS ?_; clear hw; intro s w hw))
    refine st_call rfl pawake_spec ?_
    rintro _ w' ⟨rfl, hk'⟩
    replace hw := hw.call0 hk'
    clear hk'
    refine ⟨_, rfl, ?_⟩
    repeat (first | refine go_run ?_ | (refine go_newP ?_; clear hw; intro p w hw) | (refine go_newW ?_; clear hw; intro w hw) | (refine go_newS ?_; clear hw; intro s w hw))
    exact res_one (v := .bool true) rfl rfl ⟨rfl, sat_none hw⟩
  simp only [h100, gvff, gvtt]; (try simp only [beq_iff_eq, Bool.and_eq_true, Bool.or_eq_true, decide_eq_true_eq, decide_eq_false_iff_not, Bool.not_eq_true, Bool.not_eq_false, Bool.not_eq_eq_eq_not, Bool.not_true, Bool.not_false, Bool.and_eq_false_iff, Bool.or_eq_false_iff, bne_iff_ne, ne_eq, Int.not_lt, Int.not_le, Nat.not_lt, Nat.not_le] at h100)
  repeat (first | refine go_run ?_ | (refine go_newP ?_; clear hw; intro p w hw) | (refine go_newW ?_; clear hw; intro w hw) | (refine go_newS ?_; clear hw; intro s w hw))
  refine st_call rfl pawake_spec ?_
  rintro _ w' ⟨rfl, hk'⟩
  replace hw := hw.call0 hk'
  clear hk'
  refine ⟨_, rfl, ?_⟩
  repeat (first | refine go_run ?_ | (refine go_newP ?_; clear hw; intro p w hw) | (refine go_newW ?_; clear hw; intro w hw) | (refine go_newS ?_; clear hw; intro s w hw))
  refine vc_loop [6, 8, 43, 44, 45, 46, 47, 48, 49, 50, 51, 52, 53, 54, 55, 56, 57] (G := Nat) (fun k => [(43, .int .i64 k)]) (fun k w => k ≤ t.ops.length ∧ Sat w0 w [Box pt 26 [a, b, c, d]]) (fun k => t.ops.length - k) 0 (fun _ => rfl) ⟨rfl, trivial⟩ ⟨Nat.zero_le _, hw⟩ ?_
  clear hw
  rintro σ k w ⟨hk, hw⟩
  repeat (first | refine go_run ?_ | (refine go_newP ?_; clear hw; intro p w hw) | (refine go_newW ?_; clear hw; intro w hw) | (refine go_newS ?_; clear hw; intro s w hw))
  refine go_if (fun h1 => ?_) (fun h1 => ?_)
  · have hkl : k < t.ops.length := by omega
    have hop := hd.at_ k hkl
    have hone := hop.one
    have hpre := hop.pre
    obtain ⟨es, hes⟩ := hop.effs
    have hesr := hes.rs
    repeat (first | refine go_run ?_ | (refine go_newP ?_; clear hw; intro p w hw) | (refine go_newW ?_; clear hw; intro w hw) | (refine go_newS ?_; clear hw; intro s w hw))
    refine go_if (fun h2 => ?_) (fun h2 => ?_)
    · repeat (first | refine go_run ?_ | (refine go_newP ?_; clear hw; intro p w hw) | (refine go_newW ?_; clear hw; intro w hw) | (refine go_newS ?_; clear hw; intro s w hw))
      exact res_one (v := .bool true) rfl rfl ⟨rfl, sat_none hw⟩
    · repeat (first | refine go_run ?_ | (refine go_newP ?_; clear hw; intro p w hw) | (refine go_newW ?_; clear hw; intro w hw) | (refine go_newS ?_; clear hw; intro s w hw))
      exact ⟨k + 1, ⟨rfl, trivial⟩, by repeat (first | exact agree_refl | (apply agree_upd rfl) | (apply agree_mix rfl) | (apply agree_sets rfl)), ⟨by omega, hw.tail⟩, by omega⟩
  repeat (first | refine go_run ?_ | (refine go_newP ?_; clear hw; intro p w hw) | (refine go_newW ?_; clear hw; intro w hw) | (refine go_newS ?_; clear hw; intro s w hw))
  have hnil : RS tInt w0 (.slice none 0 0) [] := RS.nil
  refine st_call rfl Table_nil ?_
  rintro _ w' ⟨rfl, hk'⟩
  replace hw := hw.call0 hk'
  clear hk'
  refine ⟨_, rfl, ?_⟩
  repeat (first | refine go_run ?_ | (refine go_newP ?_; clear hw; intro p w hw) | (refine go_newW ?_; clear hw; intro w hw) | (refine go_newS ?_; clear hw; intro s w hw))
  refine st_call rfl Pattern_nil ?_
  rintro _ w' ⟨rfl, hk'⟩
  replace hw := hw.call0 hk'
  clear hk'
  refine ⟨_, rfl, ?_⟩
  repeat (first | refine go_run ?_ | (refine go_newP ?_; clear hw; intro p w hw) | (refine go_newW ?_; clear hw; intro w hw) | (refine go_newS ?_; clear hw; intro s w hw))
  refine st_call rfl Value_nil ?_
  rintro _ w' ⟨rfl, hk'⟩
  replace hw := hw.call0 hk'
  clear hk'
  refine ⟨_, rfl, ?_⟩
  repeat (first | refine go_run ?_ | (refine go_newP ?_; clear hw; intro p w hw) | (refine go_newW ?_; clear hw; intro w hw) | (refine go_newS ?_; clear hw; intro s w hw))
  refine st_call rfl Dead_nil ?_
  rintro _ w' ⟨rfl, hk'⟩
  replace hw := hw.call0 hk'
  clear hk'
  refine ⟨_, rfl, ?_⟩
  repeat (first | refine go_run ?_ | (refine go_newP ?_; clear hw; intro p w hw) | (refine go_newW ?_; clear hw; intro w hw) | (refine go_newS ?_; clear hw; intro s w hw))
  refine st_call rfl Saturated_nil ?_
  rintro _ w' ⟨rfl, hk'⟩
  replace hw := hw.call0 hk'
  clear hk'
  refine ⟨_, rfl, ?_⟩
  repeat (first | refine go_runC ?_ | (refine go_newP ?_; clear hw; intro p w hw) | (refine go_newW ?_; clear hw; intro w hw) | (refine go_newS ?_; clear hw; intro s w hw))
  refine vc_condF rfl ?_
  refine vc_skip ?_
  refine thn_normal ?_
  refine vc_seq ?_
  refine vc_region ?_
  refine go_pure ?_
  refine ops_nil ?_
  refine thn_normal ?_
  refine vc_seq ?_
  refine vc_cut [10, 12, 83, 84, 85, 86, 87, 88, 89, 90, 91, 92, 93, 94, 95, 96, 97, 98, 99, 100, 101, 102, 103, 104, 105, 106, 107, 108, 109, 110, 111, 112, 113, 114, 115, 116, 117, 118, 119, 120, 121, 122] (G := Unit) (fun _ => [(10, .int .i64 (eErr t L cs))]) (fun _ w => Sat w0 w [Box pt 26 [a, b, c, d]]) (fun _ => rfl) ?_ ?_
  · repeat (first | refine go_run ?_ | (refine go_newP ?_; clear hw; intro p w hw) | (refine go_newW ?_; clear hw; intro w hw) | (refine go_newS ?_; clear hw; intro s w hw))
    refine st_call rfl (Good_spec (ht'.at hw)) ?_
    rintro _ w' ⟨⟨r, rfl, hr⟩, hk'⟩
    replace hw := hw.call0 hk'
    clear hk'
    refine ⟨_, rfl, ?_⟩
    cases r
    · have hch : checkT t ≠ 0 := fun h => by have := hr.2 ((good_iff t).1 h); cases this
      have hck : eErr t L cs = checkT t := by rw [eErr, if_pos hch]
      repeat (first | refine go_run ?_ | (refine go_newP ?_; clear hw; intro p w hw) | (refine go_newW ?_; clear hw; intro w hw) | (refine go_newS ?_; clear hw; intro s w hw))
      refine st_call rfl (Check_spec (ht'.at hw)) ?_
      rintro _ w' ⟨rfl, hk'⟩
      replace hw := hw.call0 hk'
      clear hk'
      refine ⟨_, rfl, ?_⟩
      repeat (first | refine go_run ?_ | (refine go_newP ?_; clear hw; intro p w hw) | (refine go_newW ?_; clear hw; intro w hw) | (refine go_newS ?_; clear hw; intro s w hw))
      refine st_call rfl (Num_spec (checkT t)) ?_
      rintro _ w' ⟨rfl, hk'⟩
      replace hw := hw.call0 hk'
      clear hk'
      refine ⟨_, rfl, ?_⟩
      repeat (first | refine go_run ?_ | (refine go_newP ?_; clear hw; intro p w hw) | (refine go_newW ?_; clear hw; intro w hw) | (refine go_newS ?_; clear hw; intro s w hw))
      exact ⟨(), ⟨by rw [hck]; rfl, trivial⟩, by repeat (first | exact agree_refl | (apply agree_upd rfl) | (apply agree_mix rfl) | (apply agree_sets rfl)), hw⟩
    · have hch : checkT t = 0 := (good_iff t).2 (hr.1 rfl)
      repeat (first | refine go_run ?_ | (refine go_newP ?_; clear hw; intro p w hw) | (refine go_newW ?_; clear hw; intro w hw) | (refine go_newS ?_; clear hw; intro s w hw))
      refine go_if (fun h2 => ?_) (fun h2 => ?_)
      · have hck : eErr t L cs = 11 := by rw [eErr, if_neg (by simp [hch]), if_pos (by omega)]
        repeat (first | refine go_run ?_ | (refine go_newP ?_; clear hw; intro p w hw) | (refine go_newW ?_; clear hw; intro w hw) | (refine go_newS ?_; clear hw; intro s w hw))
        exact ⟨(), ⟨by rw [hck]; rfl, trivial⟩, by repeat (first | exact agree_refl | (apply agree_upd rfl) | (apply agree_mix rfl) | (apply agree_sets rfl)), hw⟩
      have h2' : ¬ (0 < cs.length ∧ cs.length ≠ t.ops.length) := by omega
      repeat (first | refine go_run ?_ | (refine go_newP ?_; clear hw; intro p w hw) | (refine go_newW ?_; clear hw; intro w hw) | (refine go_newS ?_; clear hw; intro s w hw))
      have hz : Value.int .i64 0 = .int .i64 (badK cs 0) := by rw [badK_zero]
      refine vc_loop [10, 12, 85, 86, 87, 88, 89, 90, 91, 92, 93, 94, 95] (G := Nat) (fun k => [(85, .int .i64 k), (10, .int .i64 (badK cs k))]) (fun k w => k ≤ cs.length ∧ Sat w0 w [Box pt 26 [a, b, c, d]]) (fun k => cs.length - k) 0 (fun _ => rfl) ⟨rfl, hz, trivial⟩ ⟨Nat.zero_le _, hw⟩ ?_
      clear hw
      rintro σ1 k w ⟨hk, hw⟩
      repeat (first | refine go_run ?_ | (refine go_newP ?_; clear hw; intro p w hw) | (refine go_newW ?_; clear hw; intro w hw) | (refine go_newS ?_; clear hw; intro s w hw))
      refine go_if (fun h3 => ?_) (fun h3 => ?_)
      · have hkl : k < cs.length := by omega
        repeat (first | refine go_run ?_ | (refine go_newP ?_; clear hw; intro p w hw) | (refine go_newW ?_; clear hw; intro w hw) | (refine go_newS ?_; clear hw; intro s w hw))
        refine go_if (fun h4 => ?_) (fun h4 => ?_)
        · repeat (first | refine go_run ?_ | (refine go_newP ?_; clear hw; intro p w hw) | (refine go_newW ?_; clear hw; intro w hw) | (refine go_newS ?_; clear hw; intro s w hw))
          exact ⟨k + 1, ⟨rfl, by rw [badK_yes h4]; rfl, trivial⟩, by repeat (first | exact agree_refl | (apply agree_upd rfl) | (apply agree_mix rfl) | (apply agree_sets rfl)), ⟨by omega, hw⟩, by omega⟩
        · repeat (first | refine go_run ?_ | (refine go_newP ?_; clear hw; intro p w hw) | (refine go_newW ?_; clear hw; intro w hw) | (refine go_newS ?_; clear hw; intro s w hw))
          exact ⟨k + 1, ⟨rfl, by rw [badK_no (by unfold BadC; omega)]; rfl, trivial⟩, by repeat (first | exact agree_refl | (apply agree_upd rfl) | (apply agree_mix rfl) | (apply agree_sets rfl)), ⟨by omega, hw⟩, by omega⟩
      have hke : k = cs.length := by omega
      subst hke
      by_cases h5 : ∃ i, i < cs.length ∧ BadC (cs.getD i tInt.dflt)
      · have hb1 : badK cs cs.length = 1 := if_pos h5
        have hck : eErr t L cs = 1 := by rw [eErr, if_neg (by simp [hch]), if_neg h2', if_pos ((badK_iff cs).1 h5)]
        rw [hb1]
        repeat (first | refine go_run ?_ | (refine go_newP ?_; clear hw; intro p w hw) | (refine go_newW ?_; clear hw; intro w hw) | (refine go_newS ?_; clear hw; intro s w hw))
        exact ⟨(), ⟨by rw [hck]; rfl, trivial⟩, by repeat (first | exact agree_refl | (apply agree_upd rfl) | (apply agree_mix rfl) | (apply agree_sets rfl)), hw⟩
      · have hb1 : badK cs cs.length = 0 := if_neg h5
        rw [hb1]
        repeat (first | refine go_run ?_ | (refine go_newP ?_; clear hw; intro p w hw) | (refine go_newW ?_; clear hw; intro w hw) | (refine go_newS ?_; clear hw; intro s w hw))
        refine st_call rfl (rPattern_spec (va := vp) (ht'.at hw) (hp.at hw)) ?_
        rintro _ w' ⟨⟨r2, rfl, hr2⟩, hk'⟩
        replace hw := hw.call0 hk'
        clear hk'
        refine ⟨_, rfl, ?_⟩
        cases r2
        · have hno : ¬ PatOk t.vars L := fun h => by have := hr2.2 h; cases this
          have hck : eErr t L cs = 2 := by rw [eErr, if_neg (by simp [hch]), if_neg h2', if_neg (fun h => h5 ((badK_iff cs).2 h)), chkP, if_neg (by simp [hch]), if_neg hno]
          repeat (first | refine go_run ?_ | (refine go_newP ?_; clear hw; intro p w hw) | (refine go_newW ?_; clear hw; intro w hw) | (refine go_newS ?_; clear hw; intro s w hw))
          exact ⟨(), ⟨by rw [hck]; rfl, trivial⟩, by repeat (first | exact agree_refl | (apply agree_upd rfl) | (apply agree_mix rfl) | (apply agree_sets rfl)), hw⟩
        · have hck : eErr t L cs = 0 := by rw [eErr, if_neg (by simp [hch]), if_neg h2', if_neg (fun h => h5 ((badK_iff cs).2 h)), chkP, if_neg (by simp [hch]), if_pos (hr2.1 rfl)]
          repeat (first | refine go_run ?_ | (refine go_newP ?_; clear hw; intro p w hw) | (refine go_newW ?_; clear hw; intro w hw) | (refine go_newS ?_; clear hw; intro s w hw))
          exact ⟨(), ⟨by rw [hck]; rfl, trivial⟩, by repeat (first | exact agree_refl | (apply agree_upd rfl) | (apply agree_mix rfl) | (apply agree_sets rfl)), hw⟩
  clear hw
  rintro σ0 _ w hw
  by_cases hz : eErr t L cs = 0
  rotate_left
  · have hbe := eErr_bErr hz
    have hdz : decide (eErr t L cs = 0) = false := decide_eq_false hz
    repeat (first | refine go_run ?_ | (refine go_newP ?_; clear hw; intro p w hw) | (refine go_newW ?_; clear hw; intro w hw) | (refine go_newS ?_; clear hw; intro s w hw))
    simp only [hdz]
    repeat (first | refine go_run ?_ | (refine go_newP ?_; clear hw; intro p w hw) | (refine go_newW ?_; clear hw; intro w hw) | (refine go_newS ?_; clear hw; intro s w hw))
    refine st_call rfl (Build_spec (kv := kv) (vp := vp) (L := L) (cs := cs) (ht'.at hw) (hp.at hw) (hk0.at hw)) ?_
    rintro _ w' (⟨_, rfl, hk'⟩ | ⟨h1, _⟩)
    rotate_left
    · exact absurd (hbe.symm.trans h1) hz
    replace hw := hw.call0 hk'
    clear hk'
    refine ⟨_, rfl, ?_⟩
    rw [hbe]
    repeat (first | refine go_run ?_ | (refine go_newP ?_; clear hw; intro p w hw) | (refine go_newW ?_; clear hw; intro w hw) | (refine go_newS ?_; clear hw; intro s w hw))
    refine st_call rfl (Num_spec (eErr t L cs)) ?_
    rintro _ w' ⟨rfl, hk'⟩
    replace hw := hw.call0 hk'
    clear hk'
    refine ⟨_, rfl, ?_⟩
    repeat (first | refine go_run ?_ | (refine go_newP ?_; clear hw; intro p w hw) | (refine go_newW ?_; clear hw; intro w hw) | (refine go_newS ?_; clear hw; intro s w hw))
    simp only [hdz, decide_true, Bool.not_true, Bool.not_false, gvff, Option.isNone_none, beq_self_eq_true, Bool.or_self]
    repeat (first | refine go_run ?_ | (refine go_newP ?_; clear hw; intro p w hw) | (refine go_newW ?_; clear hw; intro w hw) | (refine go_newS ?_; clear hw; intro s w hw))
    exact res_one (v := .bool true) rfl rfl ⟨rfl, sat_none hw⟩
  obtain ⟨hg, hpo, hbe⟩ := eErr_zero hz
  have hL := hpo.inV
  rw [hz]
  repeat (first | refine go_run ?_ | (refine go_newP ?_; clear hw; intro p w hw) | (refine go_newW ?_; clear hw; intro w hw) | (refine go_newS ?_; clear hw; intro s w hw))
  refine st_call rfl (Small_spec (ht'.at hw)) ?_
  rintro _ w' ⟨⟨r, rfl, hr⟩, hk'⟩
  replace hw := hw.call0 hk'
  clear hk'
  refine ⟨_, rfl, ?_⟩
  cases r
  · repeat (first | refine go_run ?_ | (refine go_newP ?_; clear hw; intro p w hw) | (refine go_newW ?_; clear hw; intro w hw) | (refine go_newS ?_; clear hw; intro s w hw))
    exact res_one (v := .bool true) rfl rfl ⟨rfl, sat_none hw⟩
  have hs := hr.1 rfl
  have hM := hs.many
  obtain ⟨he1, he2⟩ := small_err hs hL
  have hcn := cntL_le hg.pos hL
  repeat (first | refine go_run ?_ | (refine go_newP ?_; clear hw; intro p w hw) | (refine go_newW ?_; clear hw; intro w hw) | (refine go_newS ?_; clear hw; intro s w hw))
  refine st_call rfl (rMany_spec (va := vp) (ht'.at hw) (hp.at hw) hg.pos hL.mem (by omega)) ?_
  rintro _ w' ⟨rfl, hk'⟩
  replace hw := hw.call0 hk'
  clear hk'
  refine ⟨_, rfl, ?_⟩
  repeat (first | refine go_run ?_ | (refine go_newP ?_; clear hw; intro p w hw) | (refine go_newW ?_; clear hw; intro w hw) | (refine go_newS ?_; clear hw; intro s w hw))
  refine go_if (fun h6 => ?_) (fun h6 => ?_)
  · repeat (first | refine go_run ?_ | (refine go_newP ?_; clear hw; intro p w hw) | (refine go_newW ?_; clear hw; intro w hw) | (refine go_newS ?_; clear hw; intro s w hw))
    exact res_one (v := .bool true) rfl rfl ⟨rfl, sat_none hw⟩
  repeat (first | refine go_run ?_ | (refine go_newP ?_; clear hw; intro p w hw) | (refine go_newW ?_; clear hw; intro w hw) | (refine go_newS ?_; clear hw; intro s w hw))
  refine st_call rfl (Build_spec (kv := kv) (vp := vp) (L := L) (cs := cs) (ht'.at hw) (hp.at hw) (hk0.at hw)) ?_
  rintro _ w' (⟨h1, _⟩ | ⟨_, _, _, _, pd, D, rfl, hD, hk'⟩)
  · exact absurd (hbe.trans he1) h1
  replace hw := hw.call1 hk'
  clear hk'
  refine ⟨_, rfl, ?_⟩
  have hdb := dbI_ok he1 hD
  repeat (first | refine go_run ?_ | (refine go_newP ?_; clear hw; intro p w hw) | (refine go_newW ?_; clear hw; intro w hw) | (refine go_newS ?_; clear hw; intro s w hw))
  refine st_call rfl (Num_spec 0) ?_
  rintro _ w' ⟨rfl, hk'⟩
  replace hw := hw.call0 hk'
  clear hk'
  refine ⟨_, rfl, ?_⟩
  have hil := hg.init.1
  have hnot : ¬ StateOk (dbI t L D).vars ([0] ++ t.init) := fun h => by
    have := h.1
    have e : (dbI t L D).vars = t.vars := rfl
    rw [e] at this
    simp at this
    omega
  repeat (first | refine go_run ?_ | (refine go_newP ?_; clear hw; intro p w hw) | (refine go_newW ?_; clear hw; intro w hw) | (refine go_newS ?_; clear hw; intro s w hw))
  have hibl : t.init.length ≤ 100 := by omega
  refine st_call rfl (Value_spec (sv := s) (s := [0] ++ t.init) (rdbO hw) hdb (rsO hw)) ?_
  rintro _ w' ⟨rfl, hk'⟩
  replace hw := hw.call0 hk'
  clear hk'
  rw [valD_no hnot]
  refine ⟨_, rfl, ?_⟩
  repeat (first | refine go_run ?_ | (refine go_newP ?_; clear hw; intro p w hw) | (refine go_newW ?_; clear hw; intro w hw) | (refine go_newS ?_; clear hw; intro s w hw))
  refine st_call rfl (Dead_spec (sv := s) (s := [0] ++ t.init) (rdbO hw) hdb (rsO hw)) ?_
  rintro _ w' ⟨rfl, hk'⟩
  replace hw := hw.call0 hk'
  clear hk'
  rw [valD_no hnot]
  refine ⟨_, rfl, ?_⟩
  repeat (first | refine go_run ?_ | (refine go_newP ?_; clear hw; intro p w hw) | (refine go_newW ?_; clear hw; intro w hw) | (refine go_newS ?_; clear hw; intro s w hw))
  exact res_one (v := .bool true) rfl rfl ⟨rfl, sat_none hw⟩
end Go.Proofs.Ytnoiagnmbipppaa
