
/-
  Contracts of 'project.check', 'count', 'number', 'has', 'outside'.
-/
import Derived.Test.YtnoiagnmbipppaaWTCheck3
import Derived.Test.YtnoiagnmbipppaaWSlices
import Derived.Test.YtnoiagnmbipppaaWPut
import Derived.Test.YtnoiagnmbipppaaMTA
set_option linter.unusedSimpArgs false
set_option linter.unusedVariables false
namespace Go.Proofs.Ytnoiagnmbipppaa
open Go.Sl Go
attribute [local irreducible] vc opsW opsD opV opW PureV ReadV Thn Blk

instance (vars p : List Int) : Decidable (PatOk vars p) := by unfold PatOk; infer_instance
noncomputable def chkP (t : TTask) (p : List Int) : Int := if checkT t ≠ 0 then checkT t else if PatOk t.vars p then 0 else 2
set_option maxRecDepth 8000 in
set_option maxHeartbeats 2000000 in
theorem pcheck_spec {w0 : World} {a b c d va : Value} {vs : List OpV} {t : TTask} {L : List Int} (ht : RTask w0 a b c d vs t) (hp : RS tInt w0 va L) :
    Calls Try.prog 64 #[.agg #[a, b, c, d], va] w0 fun e w' => e = .returned (errV (chkP t L)) ∧ Sat w0 w' [] := by
  have ht' := ht
  obtain ⟨ha, hb, hc, hd⟩ := ht
  have hla := ha.big
  have hlp := hp.big
  have hw := Sat.start w0
  refine calls_of_vc (args := [.agg #[a, b, c, d], va]) mixed Try.func64 rfl (by kernel_rfl) (Nat.le_of_ble_eq_true rfl) ?_
  repeat (first | refine go_run ?_ | (refine go_newP ?_; clear hw; intro p w hw) | (refine go_newW ?_; clear hw; intro w hw) | (refine go_newS ?_; clear hw; intro s w hw))
  obtain ⟨pt, hpt⟩ : ∃ pt, pt = p := ⟨p, rfl⟩
  subst hpt
  refine st_call rfl (Check_spec (ht'.at hw)) ?_
  rintro _ w' ⟨rfl, hk'⟩
  replace hw := hw.call0 hk'
  clear hk'
  refine ⟨_, rfl, ?_⟩
  by_cases hk : checkT t = 0
  · rw [errV_zero hk]
    repeat (first | refine go_run ?_ | (refine go_newP ?_; clear hw; intro p w hw) | (refine go_newW ?_; clear hw; intro w hw) | (refine go_newS ?_; clear hw; intro s w hw))
    refine vc_loop [4, 6, 7, 15, 16, 17, 18, 19, 20, 21, 22, 23, 24, 25, 26, 27, 28, 29, 30, 31, 32, 33, 34, 35, 36, 37, 38, 39, 40, 41, 42, 43] (G := Nat) (fun k => [(15, .int .i64 k)]) (fun k w => k ≤ L.length ∧ (∀ i, i < k → (0 ≤ L.getD i tInt.dflt ∧ L.getD i tInt.dflt < t.vars.length) ∧ (0 < i → L.getD (i - 1) tInt.dflt < L.getD i tInt.dflt)) ∧ Sat w0 w [Box pt 26 [a, b, c, d]]) (fun k => L.length - k) 0 (fun _ => rfl) ⟨rfl, trivial⟩ ⟨Nat.zero_le _, fun i hi => absurd hi (Nat.not_lt_zero _), hw⟩ ?_
    clear hw
    rintro σ k w ⟨hk1, hpre, hw⟩
    repeat (first | refine go_run ?_ | (refine go_newP ?_; clear hw; intro p w hw) | (refine go_newW ?_; clear hw; intro w hw) | (refine go_newS ?_; clear hw; intro s w hw))
    refine go_if (fun h1 => ?_) (fun h1 => ?_)
    · have hkl : k < L.length := by omega
      have e1 : ((k : Int) - 1).toNat = k - 1 := by omega
      repeat (first | refine go_run ?_ | (refine go_newP ?_; clear hw; intro p w hw) | (refine go_newW ?_; clear hw; intro w hw) | (refine go_newS ?_; clear hw; intro s w hw))
      refine go_if (fun h2 => ?_) (fun h2 => ?_)
      · repeat (first | refine go_run ?_ | (refine go_newP ?_; clear hw; intro p w hw) | (refine go_newW ?_; clear hw; intro w hw) | (refine go_newS ?_; clear hw; intro s w hw))
        refine res_one (v := errV 2) rfl (by rw [errV_some (by decide)]; rfl) ⟨?_, hw.tail⟩
        rw [chkP, if_neg (by simp [hk]), if_neg]
        intro hpk
        have h3 := hpk k hkl
        rw [e1] at h2
        rcases h2 with (h2 | h2) | ⟨h2, h4⟩
        · omega
        · omega
        · have := h3.2 (by omega); omega
      · rw [e1] at h2
        repeat (first | refine go_run ?_ | (refine go_newP ?_; clear hw; intro p w hw) | (refine go_newW ?_; clear hw; intro w hw) | (refine go_newS ?_; clear hw; intro s w hw))
        refine ⟨k + 1, ⟨rfl, trivial⟩, by repeat (first | exact agree_refl | (apply agree_upd rfl) | (apply agree_mix rfl) | (apply agree_sets rfl)), ⟨by omega, fun i hi => ?_, hw⟩, by omega⟩
        by_cases h : i = k
        · subst h; exact ⟨by omega, fun h0 => by omega⟩
        · exact hpre i (by omega)
    · repeat (first | refine go_run ?_ | (refine go_newP ?_; clear hw; intro p w hw) | (refine go_newW ?_; clear hw; intro w hw) | (refine go_newS ?_; clear hw; intro s w hw))
      refine res_one (v := errV 0) rfl (by rw [errV_zero rfl]; rfl) ⟨?_, hw.tail⟩
      rw [chkP, if_neg (by simp [hk]), if_pos]
      intro i hi
      exact hpre i (by omega)
  · rw [errV_some hk]
    repeat (first | refine go_run ?_ | (refine go_newP ?_; clear hw; intro p w hw) | (refine go_newW ?_; clear hw; intro w hw) | (refine go_newS ?_; clear hw; intro s w hw))
    refine res_one (v := errV (checkT t)) rfl (by rw [errV_some hk]; rfl) ⟨?_, hw.tail⟩
    rw [chkP, if_pos hk]

theorem cntL_take {vars L : List Int} (hd : ∀ x ∈ vars, 1 ≤ x) (hL : ∀ v ∈ L, 0 ≤ v ∧ v < vars.length) (k : Nat) : cntL vars (L.take k) ≤ cntL vars L := by
  have h1 : valsL vars (L.take k) = (valsL vars L).take k := by simp [valsL, List.map_take]
  rw [cntL, h1]; exact prodL_take (valsL_pos hd hL) k
theorem cntL_takeS {vars L : List Int} {k : Nat} (hk : k < L.length) : cntL vars (L.take (k + 1)) = cntL vars (L.take k) * sg vars (L.getD k tInt.dflt) := by
  rw [take_snoc tInt.dflt hk, cntL_snoc]
theorem idxL_takeS {vars L s : List Int} {k : Nat} (hk : k < L.length) : idxL vars (L.take (k + 1)) s = idxL vars (L.take k) s * sg vars (L.getD k tInt.dflt) + sg s (L.getD k tInt.dflt) := by
  rw [take_snoc tInt.dflt hk, idxL_snoc]

set_option maxRecDepth 8000 in
set_option maxHeartbeats 2000000 in
theorem count_spec {w0 : World} {a b c d va : Value} {vs : List OpV} {t : TTask} {L : List Int} (ht : RTask w0 a b c d vs t) (hp : RS tInt w0 va L) (hg : GoodT t) (hL : ∀ v ∈ L, 0 ≤ v ∧ v < t.vars.length) :
    Calls Try.prog 65 #[.agg #[a, b, c, d], va] w0 fun e w' => e = .returned (.tuple (if cntL t.vars L ≤ 4096 then #[.int .i64 (cntL t.vars L), .bool true] else #[.int .i64 0, .bool false])) ∧ Sat w0 w' [] := by
  obtain ⟨ha, hb, hc, hd⟩ := ht
  have hla := ha.big
  have hlp := hp.big
  have hw := Sat.start w0
  refine calls_of_vc (args := [.agg #[a, b, c, d], va]) mixed Try.func65 rfl (by kernel_rfl) (Nat.le_of_ble_eq_true rfl) ?_
  repeat (first | refine go_run ?_ | (refine go_newP ?_; clear hw; intro p w hw) | (refine go_newW ?_; clear hw; intro w hw) | (refine go_newS ?_; clear hw; intro s w hw))
  obtain ⟨pt, hpt⟩ : ∃ pt, pt = p := ⟨p, rfl⟩
  subst hpt
  refine vc_loop2 [4, 5, 6, 8, 11, 12, 13, 14, 15, 16, 17, 18, 19, 20, 21, 22, 23, 24] (G := Nat) (H := Int) (fun k n => [(11, .int .i64 k), (6, .int .i64 n)]) (fun k n w => k ≤ L.length ∧ n = cntL t.vars (L.take k) ∧ n ≤ 4096 ∧ Sat w0 w [Box pt 26 [a, b, c, d]]) (fun k _ => L.length - k) 0 1 (fun _ _ => rfl) ⟨rfl, rfl, trivial⟩ ⟨Nat.zero_le _, rfl, by decide, hw⟩ ?_
  clear hw
  rintro σ k n w ⟨hk, hn, hnm, hw⟩
  repeat (first | refine go_run ?_ | (refine go_newP ?_; clear hw; intro p w hw) | (refine go_newW ?_; clear hw; intro w hw) | (refine go_newS ?_; clear hw; intro s w hw))
  refine go_if (fun h1 => ?_) (fun h1 => ?_)
  · have hkl : k < L.length := by omega
    have hv := hL _ (mem_getD tInt.dflt hkl)
    have hdm := hg.dom (L.getD k tInt.dflt).toNat (by omega)
    have hpos : 1 ≤ n := by rw [hn]; exact cntL_pos hg.pos fun v hv => hL v (List.mem_of_mem_take hv)
    have hS : cntL t.vars (L.take (k + 1)) = n * sg t.vars (L.getD k tInt.dflt) := by rw [cntL_takeS hkl, hn]
    have hle := cntL_take hg.pos hL (k + 1)
    simp only [sg] at hS
    have b0 : 0 ≤ n * t.vars.getD (L.getD k tInt.dflt).toNat tInt.dflt := Int.mul_nonneg (by omega) (by omega)
    have b1 : n * t.vars.getD (L.getD k tInt.dflt).toNat tInt.dflt ≤ 4096 * 64 := Int.mul_le_mul hnm (by omega) (by omega) (by omega)
    repeat (first | refine go_run ?_ | (refine go_newP ?_; clear hw; intro p w hw) | (refine go_newW ?_; clear hw; intro w hw) | (refine go_newS ?_; clear hw; intro s w hw))
    refine go_if (fun h2 => ?_) (fun h2 => ?_)
    · repeat (first | refine go_run ?_ | (refine go_newP ?_; clear hw; intro p w hw) | (refine go_newW ?_; clear hw; intro w hw) | (refine go_newS ?_; clear hw; intro s w hw))
      refine res_two (v := .int .i64 0) (v' := .bool false) rfl rfl rfl ⟨?_, hw.tail⟩
      rw [if_neg (by omega)]
    · repeat (first | refine go_run ?_ | (refine go_newP ?_; clear hw; intro p w hw) | (refine go_newW ?_; clear hw; intro w hw) | (refine go_newS ?_; clear hw; intro s w hw))
      exact ⟨k + 1, _, ⟨rfl, rfl, trivial⟩, by repeat (first | exact agree_refl | (apply agree_upd rfl) | (apply agree_mix rfl) | (apply agree_sets rfl)), ⟨by omega, hS.symm, by omega, hw⟩, by omega⟩
  · repeat (first | refine go_run ?_ | (refine go_newP ?_; clear hw; intro p w hw) | (refine go_newW ?_; clear hw; intro w hw) | (refine go_newS ?_; clear hw; intro s w hw))
    refine res_two (v := .int .i64 n) (v' := .bool true) rfl rfl rfl ⟨?_, hw.tail⟩
    rw [List.take_of_length_le (by omega)] at hn
    rw [if_pos (by omega), hn]

set_option maxRecDepth 8000 in
set_option maxHeartbeats 2000000 in
theorem number_spec {w0 : World} {a b c d va sv : Value} {vs : List OpV} {t : TTask} {L s : List Int} (ht : RTask w0 a b c d vs t) (hp : RS tInt w0 va L) (hs : RS tInt w0 sv s) (hg : GoodT t) (hL : ∀ v ∈ L, 0 ≤ v ∧ v < t.vars.length) (hok : StateOk t.vars s) (hB : cntL t.vars L ≤ 1099511627776) :
    Calls Try.prog 66 #[.agg #[a, b, c, d], va, sv] w0 fun e w' => e = .returned (.int .i64 (idxL t.vars L s)) ∧ Sat w0 w' [] := by
  obtain ⟨ha, hb, hc, hd⟩ := ht
  have hla := ha.big
  have hlp := hp.big
  have hls := hok.1
  have hw := Sat.start w0
  refine calls_of_vc (args := [.agg #[a, b, c, d], va, sv]) mixed Try.func66 rfl (by kernel_rfl) (Nat.le_of_ble_eq_true rfl) ?_
  repeat (first | refine go_run ?_ | (refine go_newP ?_; clear hw; intro p w hw) | (refine go_newW ?_; clear hw; intro w hw) | (refine go_newS ?_; clear hw; intro s w hw))
  obtain ⟨pt, hpt⟩ : ∃ pt, pt = p := ⟨p, rfl⟩
  subst hpt
  refine vc_loop2 [7, 9, 12, 13, 14, 15, 16, 17, 18, 19, 20, 21, 22, 23, 24, 25, 26, 27, 28] (G := Nat) (H := Int) (fun k n => [(12, .int .i64 k), (7, .int .i64 n)]) (fun k n w => k ≤ L.length ∧ n = idxL t.vars (L.take k) s ∧ Sat w0 w [Box pt 26 [a, b, c, d]]) (fun k _ => L.length - k) 0 0 (fun _ _ => rfl) ⟨rfl, rfl, trivial⟩ ⟨Nat.zero_le _, rfl, hw⟩ ?_
  clear hw
  rintro σ k n w ⟨hk, hn, hw⟩
  repeat (first | refine go_run ?_ | (refine go_newP ?_; clear hw; intro p w hw) | (refine go_newW ?_; clear hw; intro w hw) | (refine go_newS ?_; clear hw; intro s w hw))
  refine go_if (fun h1 => ?_) (fun h1 => ?_)
  · have hkl : k < L.length := by omega
    have hv := hL _ (mem_getD tInt.dflt hkl)
    have hr := hok.rng hv.1 hv.2
    have hb1 := idxL_bound (p := L.take k) hok fun v hv => hL v (List.mem_of_mem_take hv)
    have hb2 := idxL_bound (p := L.take (k + 1)) hok fun v hv => hL v (List.mem_of_mem_take hv)
    have hle := cntL_take hg.pos hL (k + 1)
    have hS := idxL_takeS (vars := t.vars) (s := s) hkl
    rw [← hn] at hb1 hS
    simp only [sg] at hS hr
    have b0 : 0 ≤ n * t.vars.getD (L.getD k tInt.dflt).toNat tInt.dflt := Int.mul_nonneg (by omega) (by omega)
    repeat (first | refine go_run ?_ | (refine go_newP ?_; clear hw; intro p w hw) | (refine go_newW ?_; clear hw; intro w hw) | (refine go_newS ?_; clear hw; intro s w hw))
    exact ⟨k + 1, _, ⟨rfl, rfl, trivial⟩, by repeat (first | exact agree_refl | (apply agree_upd rfl) | (apply agree_mix rfl) | (apply agree_sets rfl)), ⟨by omega, hS.symm, hw⟩, by omega⟩
  · repeat (first | refine go_run ?_ | (refine go_newP ?_; clear hw; intro p w hw) | (refine go_newW ?_; clear hw; intro w hw) | (refine go_newS ?_; clear hw; intro s w hw))
    refine res_one (v := .int .i64 n) rfl rfl ⟨?_, hw.tail⟩
    rw [List.take_of_length_le (by omega)] at hn
    rw [hn]
end Go.Proofs.Ytnoiagnmbipppaa
