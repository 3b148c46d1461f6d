
/-
  Contracts of 'task.States', 'task.counted', 'task.Rank'.
-/
import Derived.Test.YtoddgmmkpiojlaaMW2
import Derived.Test.YtoddgmmkpiojlaaWTCheck3
set_option linter.unusedSimpArgs false
set_option linter.unusedVariables false
namespace Go.Proofs.Ytoddgmmkpiojlaa
open Go.Sl Go
attribute [local irreducible] vc opsW opsD opV opW PureV ReadV Thn Blk

def capI (x : Int) : Int := if 65537 < x then 65537 else x
theorem capI_step {P k : Int} (hP : 1 ≤ P) (hk : 1 ≤ k) (hk2 : k ≤ 64) : 0 ≤ capI P * k ∧ capI P * k ≤ 4194368 ∧ capI (capI P * k) = capI (P * k) := by
  unfold capI
  split
  · rename_i h
    have h1 : 65537 * k ≤ P * k := Int.mul_le_mul_of_nonneg_right (by omega) (by omega)
    refine ⟨by omega, by omega, ?_⟩
    by_cases e : k = 1
    · subst e; rw [if_neg (by omega), if_pos (by omega)]; rfl
    · rw [if_pos (by omega), if_pos (by omega)]
  · rename_i h
    have h1 : P * k ≤ 65537 * 64 := Int.mul_le_mul (by omega) hk2 (by omega) (by omega)
    have h2 : 0 ≤ P * k := Int.mul_nonneg (by omega) (by omega)
    exact ⟨h2, by omega, rfl⟩
noncomputable def nStates (t : TTask) : Int := if checkT t = 0 then capI (prodL t.vars) else 0

set_option maxRecDepth 8000 in
theorem tStates_spec {w0 : World} {a b c d : Value} {vs : List OpV} {t : TTask} (ht : RTask w0 a b c d vs t) :
    Calls Try.prog 34 #[.agg #[a, b, c, d]] w0 fun e w' => e = .returned (.int .i64 (nStates t)) ∧ Sat w0 w' [] := by
  have ht' := ht
  obtain ⟨ha, hb, hc, hd⟩ := ht
  have hla := ha.big
  have hw := Sat.start w0
  refine calls_of_vc (args := [.agg #[a, b, c, d]]) mixed Try.func34 rfl (by kernel_rfl) (Nat.le_of_ble_eq_true rfl) ?_
  repeat (first | refine go_run ?_ | (refine go_newP ?_; clear hw; intro p w hw) | (refine go_newW ?_; clear hw; intro w hw) | (refine go_newS ?_; clear hw; intro s w hw))
  obtain ⟨pt, hpt⟩ : ∃ pt, pt = p := ⟨p, rfl⟩
  subst hpt
  refine st_call rfl (Check_spec (ht'.at hw)) ?_
  rintro _ w' ⟨rfl, hk'⟩
  replace hw := hw.call0 hk'
  clear hk'
  refine ⟨_, rfl, ?_⟩
  by_cases hk : checkT t = 0
  · rw [errV_zero hk]
    have hg := (good_iff t).1 hk
    repeat (first | refine go_run ?_ | (refine go_newP ?_; clear hw; intro p w hw) | (refine go_newW ?_; clear hw; intro w hw) | (refine go_newS ?_; clear hw; intro s w hw))
    refine vc_loop2 [3, 5, 12, 13, 14, 15, 16, 17, 18, 19, 20] (G := Nat) (H := Int) (fun k n => [(12, .int .i64 k), (3, .int .i64 n)]) (fun k n w => k ≤ t.vars.length ∧ n = capI (prodL (t.vars.take k)) ∧ Sat w0 w [Box pt 26 [a, b, c, d]]) (fun k _ => t.vars.length - k) 0 1 (fun _ _ => rfl) ⟨rfl, rfl, trivial⟩ ⟨Nat.zero_le _, rfl, hw⟩ ?_
    clear hw
    rintro σ k n w ⟨hkl, hn, hw⟩
    repeat (first | refine go_run ?_ | (refine go_newP ?_; clear hw; intro p w hw) | (refine go_newW ?_; clear hw; intro w hw) | (refine go_newS ?_; clear hw; intro s w hw))
    refine go_if (fun h1 => ?_) (fun h1 => ?_)
    · have hk2 : k < t.vars.length := by omega
      have hd := hg.dom k hk2
      have hs := capI_step (P := prodL (t.vars.take k)) (prodL_pos fun x hx => hg.pos x (List.mem_of_mem_take hx)) hd.1 hd.2
      rw [← hn] at hs
      obtain ⟨b0, b1, b2⟩ := hs
      repeat (first | refine go_run ?_ | (refine go_newP ?_; clear hw; intro p w hw) | (refine go_newW ?_; clear hw; intro w hw) | (refine go_newS ?_; clear hw; intro s w hw))
      refine ⟨k + 1, _, ⟨rfl, rfl, trivial⟩, by repeat (first | exact agree_refl | (apply agree_upd rfl) | (apply agree_mix rfl) | (apply agree_sets rfl)), ⟨by omega, ?_, hw⟩, by omega⟩
      rw [take_snoc tInt.dflt hk2, prodL_snoc, ← b2]; rfl
    · repeat (first | refine go_run ?_ | (refine go_newP ?_; clear hw; intro p w hw) | (refine go_newW ?_; clear hw; intro w hw) | (refine go_newS ?_; clear hw; intro s w hw))
      refine res_one (v := .int .i64 n) rfl rfl ⟨?_, hw.tail⟩
      rw [List.take_of_length_le (by omega)] at hn
      rw [hn, nStates, if_pos hk]
  · rw [errV_some hk]
    repeat (first | refine go_run ?_ | (refine go_newP ?_; clear hw; intro p w hw) | (refine go_newW ?_; clear hw; intro w hw) | (refine go_newS ?_; clear hw; intro s w hw))
    exact res_one (v := .int .i64 0) rfl rfl ⟨by rw [nStates, if_neg hk], hw.tail⟩

/-- The error of a function that counts the states. -/
noncomputable def cErr (t : TTask) : Int := if checkT t ≠ 0 then checkT t else if 65536 < prodL t.vars then 5 else 0
set_option maxRecDepth 8000 in
theorem counted_spec {w0 : World} {a b c d : Value} {vs : List OpV} {t : TTask} (ht : RTask w0 a b c d vs t) :
    Calls Try.prog 127 #[.agg #[a, b, c, d]] w0 fun e w' => e = .returned (.tuple #[.int .i64 (if cErr t = 0 then prodL t.vars else 0), errV (cErr t)]) ∧ Sat w0 w' [] := by
  have hw := Sat.start w0
  refine calls_of_vc (args := [.agg #[a, b, c, d]]) mixed Try.func127 rfl (by kernel_rfl) (Nat.le_of_ble_eq_true rfl) ?_
  repeat (first | refine go_run ?_ | (refine go_newP ?_; clear hw; intro p w hw) | (refine go_newW ?_; clear hw; intro w hw) | (refine go_newS ?_; clear hw; intro s w hw))
  refine st_call rfl (Check_spec (ht.at hw)) ?_
  rintro _ w' ⟨rfl, hk'⟩
  replace hw := hw.call0 hk'
  clear hk'
  refine ⟨_, rfl, ?_⟩
  by_cases hk : checkT t = 0
  · rw [errV_zero hk]
    repeat (first | refine go_run ?_ | (refine go_newP ?_; clear hw; intro p w hw) | (refine go_newW ?_; clear hw; intro w hw) | (refine go_newS ?_; clear hw; intro s w hw))
    refine st_call rfl (tStates_spec (ht.at hw)) ?_
    rintro _ w' ⟨rfl, hk'⟩
    replace hw := hw.call0 hk'
    clear hk'
    refine ⟨_, rfl, ?_⟩
    rw [nStates, if_pos hk]
    by_cases hB : prodL t.vars ≤ 65536
    · have he : cErr t = 0 := by rw [cErr, if_neg (by simp [hk]), if_neg (by omega)]
      rw [show capI (prodL t.vars) = prodL t.vars by rw [capI, if_neg (by omega)]]
      repeat (first | refine go_run ?_ | (refine go_newP ?_; clear hw; intro p w hw) | (refine go_newW ?_; clear hw; intro w hw) | (refine go_newS ?_; clear hw; intro s w hw))
      refine go_if (fun h1 => ?_) (fun h1 => ?_)
      · omega
      · repeat (first | refine go_run ?_ | (refine go_newP ?_; clear hw; intro p w hw) | (refine go_newW ?_; clear hw; intro w hw) | (refine go_newS ?_; clear hw; intro s w hw))
        rw [he, if_pos rfl]
        exact res_two (v := .int .i64 (prodL t.vars)) (v' := errV 0) rfl rfl (by rw [errV_zero rfl]; rfl) ⟨rfl, hw.tail⟩
    · have he : cErr t = 5 := by rw [cErr, if_neg (by simp [hk]), if_pos (by omega)]
      have h65 : capI (prodL t.vars) = 65537 := by rw [capI]; split <;> omega
      rw [h65]
      repeat (first | refine go_run ?_ | (refine go_newP ?_; clear hw; intro p w hw) | (refine go_newW ?_; clear hw; intro w hw) | (refine go_newS ?_; clear hw; intro s w hw))
      rw [he, if_neg (by decide)]
      exact res_two (v := .int .i64 0) (v' := errV 5) rfl rfl (by rw [errV_some (by decide)]; rfl) ⟨rfl, hw.tail⟩
  · rw [errV_some hk]
    have he : cErr t = checkT t := by rw [cErr, if_pos hk]
    repeat (first | refine go_run ?_ | (refine go_newP ?_; clear hw; intro p w hw) | (refine go_newW ?_; clear hw; intro w hw) | (refine go_newS ?_; clear hw; intro s w hw))
    rw [he, if_neg hk]
    exact res_two (v := .int .i64 0) (v' := errV (checkT t)) rfl rfl (by rw [errV_some hk]; rfl) ⟨rfl, hw.tail⟩

noncomputable def rkErr (t : TTask) (s : List Int) : Int := if cErr t ≠ 0 then cErr t else @ite _ (StateOk t.vars s) (Classical.propDecidable _) 0 2
set_option maxRecDepth 8000 in
theorem tRank_spec {w0 : World} {a b c d sv : Value} {vs : List OpV} {t : TTask} {s : List Int} (ht : RTask w0 a b c d vs t) (hs : RS tInt w0 sv s) :
    Calls Try.prog 126 #[.agg #[a, b, c, d], sv] w0 fun e w' => e = .returned (.tuple #[.int .i64 (if rkErr t s = 0 then rankL t.vars s else 0), errV (rkErr t s)]) ∧ Sat w0 w' [] := by
  have ht' := ht
  obtain ⟨ha, hb, hc, hd⟩ := ht
  have hla := ha.big
  have hls := hs.big
  have hw := Sat.start w0
  refine calls_of_vc (args := [.agg #[a, b, c, d], sv]) mixed Try.func126 rfl (by kernel_rfl) (Nat.le_of_ble_eq_true rfl) ?_
  repeat (first | refine go_run ?_ | (refine go_newP ?_; clear hw; intro p w hw) | (refine go_newW ?_; clear hw; intro w hw) | (refine go_newS ?_; clear hw; intro s w hw))
  obtain ⟨pt, hpt⟩ : ∃ pt, pt = p := ⟨p, rfl⟩
  subst hpt
  refine st_call rfl (counted_spec (ht'.at hw)) ?_
  rintro _ w' ⟨rfl, hk'⟩
  replace hw := hw.call0 hk'
  clear hk'
  refine ⟨_, rfl, ?_⟩
  by_cases hk : cErr t = 0
  · rw [errV_zero hk, if_pos hk]
    have hch : checkT t = 0 := by
      unfold cErr at hk
      split at hk
      · exact hk
      · rename_i h; simpa using h
    have hB : prodL t.vars ≤ 65536 := by
      rw [cErr, if_neg (by simp [hch])] at hk
      split at hk
      · cases hk
      · omega
    have hg := (good_iff t).1 hch
    repeat (first | refine go_run ?_ | (refine go_newP ?_; clear hw; intro p w hw) | (refine go_newW ?_; clear hw; intro w hw) | (refine go_newS ?_; clear hw; intro s w hw))
    refine st_call rfl (tProper_spec (ha.at hw) (hs.at hw)) ?_
    rintro _ w' ⟨⟨r, rfl, hr⟩, hk'⟩
    replace hw := hw.call0 hk'
    clear hk'
    refine ⟨_, rfl, ?_⟩
    cases r with
    | false =>
      have hno : ¬ StateOk t.vars s := fun h => by have := hr.2 h; cases this
      have he : rkErr t s = 2 := by rw [rkErr, if_neg (by simp [hk]), if_neg hno]
      repeat (first | refine go_run ?_ | (refine go_newP ?_; clear hw; intro p w hw) | (refine go_newW ?_; clear hw; intro w hw) | (refine go_newS ?_; clear hw; intro s w hw))
      rw [he, if_neg (by decide)]
      exact res_two (v := .int .i64 0) (v' := errV 2) rfl rfl (by rw [errV_some (by decide)]; rfl) ⟨rfl, hw.tail⟩
    | true =>
      have hok := hr.1 rfl
      have hsl := hok.1
      have he : rkErr t s = 0 := by rw [rkErr, if_neg (by simp [hk]), if_pos hok]
      repeat (first | refine go_run ?_ | (refine go_newP ?_; clear hw; intro p w hw) | (refine go_newW ?_; clear hw; intro w hw) | (refine go_newS ?_; clear hw; intro s w hw))
      refine vc_loop2 [8, 9, 10, 27, 28, 29, 30, 31, 32, 33, 34, 35, 36, 37, 38, 39, 40, 41] (G := Nat) (H := Int) (fun k n => [(27, .int .i64 k), (8, .int .i64 n)]) (fun k n w => k ≤ s.length ∧ n = rankL (t.vars.take k) (s.take k) ∧ Sat w0 w [Box pt 26 [a, b, c, d]]) (fun k _ => s.length - k) 0 0 (fun _ _ => rfl) ⟨rfl, rfl, trivial⟩ ⟨Nat.zero_le _, rfl, hw⟩ ?_
      clear hw
      rintro σ k n w ⟨hkl, hn, hw⟩
      repeat (first | refine go_run ?_ | (refine go_newP ?_; clear hw; intro p w hw) | (refine go_newW ?_; clear hw; intro w hw) | (refine go_newS ?_; clear hw; intro s w hw))
      refine go_if (fun h1 => ?_) (fun h1 => ?_)
      · have hk2 : k < s.length := by omega
        have hst := rankL_step hok hg.pos hk2
        have htk := rankL_take hok hk2
        have hrr := hok.2 k hk2
        rw [← hn] at hst htk
        repeat (first | refine go_run ?_ | (refine go_newP ?_; clear hw; intro p w hw) | (refine go_newW ?_; clear hw; intro w hw) | (refine go_newS ?_; clear hw; intro s w hw))
        exact ⟨k + 1, _, ⟨rfl, rfl, trivial⟩, by repeat (first | exact agree_refl | (apply agree_upd rfl) | (apply agree_mix rfl) | (apply agree_sets rfl)), ⟨by omega, htk.symm, hw⟩, by omega⟩
      · repeat (first | refine go_run ?_ | (refine go_newP ?_; clear hw; intro p w hw) | (refine go_newW ?_; clear hw; intro w hw) | (refine go_newS ?_; clear hw; intro s w hw))
        rw [he, if_pos rfl]
        refine res_two (v := .int .i64 n) (v' := errV 0) rfl rfl (by rw [errV_zero rfl]; rfl) ⟨?_, hw.tail⟩
        rw [List.take_of_length_le (by omega), List.take_of_length_le (by omega)] at hn
        rw [hn]
  · rw [errV_some hk]
    have he : rkErr t s = cErr t := by rw [rkErr, if_pos hk]
    repeat (first | refine go_run ?_ | (refine go_newP ?_; clear hw; intro p w hw) | (refine go_newW ?_; clear hw; intro w hw) | (refine go_newS ?_; clear hw; intro s w hw))
    rw [he, if_neg hk]
    exact res_two (v := .int .i64 0) (v' := errV (cErr t)) rfl rfl (by rw [errV_some hk]; rfl) ⟨rfl, hw.tail⟩
end Go.Proofs.Ytoddgmmkpiojlaa
