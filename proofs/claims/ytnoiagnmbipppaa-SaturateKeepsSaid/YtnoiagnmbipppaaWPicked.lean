
/-
  Contract of 'picked': patterns by sets of bits.
-/
import Derived.Test.YtnoiagnmbipppaaWSatAw
set_option linter.unusedSimpArgs false
set_option linter.unusedVariables false
namespace Go.Proofs.Ytnoiagnmbipppaa
open Go.Sl Go
attribute [local irreducible] vc opsW opsD opV opW PureV ReadV Thn Blk
/-- The patterns are taken. -/
def PickOk (t : TTask) (xs : List Int) : Prop := SmallT t ∧ xs.length ≤ 6 ∧ ∀ i, i < xs.length → cntL t.vars (chosenK (xs.getD i tU16.dflt) t.vars.length) ≤ 64
def pickLs (t : TTask) (xs : List Int) : List (List Int) := xs.map fun b => chosenK b t.vars.length
theorem pickLs_len (t : TTask) (xs : List Int) : (pickLs t xs).length = xs.length := by simp [pickLs]
theorem pickLs_at {t : TTask} {xs : List Int} {i : Nat} (h : i < xs.length) : (pickLs t xs).getD i [] = chosenK (xs.getD i tU16.dflt) t.vars.length := by simp [pickLs, List.getD, h]
theorem PickOk.inV {t : TTask} {xs : List Int} {i : Nat} (h : i < xs.length) : InV t.vars ((pickLs t xs).getD i []) := by rw [pickLs_at h]; exact chosen_inV _ _
theorem PickOk.err {t : TTask} {xs : List Int} (h : PickOk t xs) : ∀ i, i < (pickLs t xs).length → pErr t ((pickLs t xs).getD i []) = 0 := fun i hi => by
  rw [pickLs_len] at hi
  exact (small_err h.1 (PickOk.inV hi)).1
theorem PickOk.nerr {t : TTask} {xs : List Int} (h : PickOk t xs) : nErr t (pickLs t xs) = 0 := by
  unfold nErr
  rw [if_neg (by rw [(good_iff t).2 h.1.good]; decide), if_neg ?_, if_neg (by rw [pickLs_len]; have := h.2.1; omega)]
  rintro ⟨i, hi, hn⟩
  have h1 := small_err h.1 (PickOk.inV (by rw [pickLs_len] at hi; exact hi))
  exact hn (chkP_zero.1 h1.2).2
set_option maxRecDepth 8000 in
set_option maxHeartbeats 4000000 in
theorem picked_spec {w0 : World} {a b c d xv : Value} {vs : List OpV} {t : TTask} {xs : List Int} (ht : RTask w0 a b c d vs t) (hx : RS tU16 w0 xv xs) :
    Calls Try.prog 31 #[.agg #[a, b, c, d], xv] w0 fun e w' => (¬ PickOk t xs ∧ e = .returned (.tuple #[.slice none 0 0, .bool false]) ∧ Sat w0 w' []) ∨ (PickOk t xs ∧ ∃ ov os, e = .returned (.tuple #[ov, .bool true]) ∧ Sat w0 w' [RowsAt tInt 3 os (pickLs t xs), OS tVal 22 ov os]) := by
  have ht' := ht
  obtain ⟨ha, hb, hc, hd⟩ := ht
  have hla := ha.big
  have hxb := hx.big
  have hw := Sat.start w0
  refine calls_of_vc (args := [.agg #[a, b, c, d], xv]) mixed Try.func31 rfl (by kernel_rfl) (Nat.le_of_ble_eq_true rfl) ?_
  repeat (first | refine go_run ?_ | (refine go_newP ?_; clear hw; intro p w hw) | (refine go_newW ?_; clear hw; intro w hw) | (refine go_newS ?_; clear hw; intro s w hw))
  obtain ⟨pt, hpt⟩ : ∃ pt, pt = p := ⟨p, rfl⟩
  subst hpt
  refine st_call rfl (Small_spec (ht'.at hw)) ?_
  rintro _ w' ⟨⟨r, rfl, hr⟩, hk'⟩
  replace hw := hw.call0 hk'
  clear hk'
  refine ⟨_, rfl, ?_⟩
  cases r
  · repeat (first | refine go_run ?_ | (refine go_newP ?_; clear hw; intro p w hw) | (refine go_newW ?_; clear hw; intro w hw) | (refine go_newS ?_; clear hw; intro s w hw))
    exact res_two (v := .slice none 0 0) (v' := .bool false) rfl rfl rfl (.inl ⟨fun h => (by have := hr.2 h.1; cases this), rfl, hw.sel⟩)
  have hs := hr.1 rfl
  have hg := hs.good
  have hV := hs.vars
  have hM := hs.many
  repeat (first | refine go_run ?_ | (refine go_newP ?_; clear hw; intro p w hw) | (refine go_newW ?_; clear hw; intro w hw) | (refine go_newS ?_; clear hw; intro s w hw))
  refine go_if (fun h1 => ?_) (fun h1 => ?_)
  · repeat (first | refine go_run ?_ | (refine go_newP ?_; clear hw; intro p w hw) | (refine go_newW ?_; clear hw; intro w hw) | (refine go_newS ?_; clear hw; intro s w hw))
    exact res_two (v := .slice none 0 0) (v' := .bool false) rfl rfl rfl (.inl ⟨fun h => (by have := h.2.1; omega), rfl, hw.sel⟩)
  repeat (first | refine go_run ?_ | (refine go_newP ?_; clear hw; intro p w hw) | (refine go_newW ?_; clear hw; intro w hw) | (refine go_newS ?_; clear hw; intro s w hw))
  have hw1 : Sat w0 w' [RowsAt tInt 3 [] (pickLs t (xs.take 0)), OS tVal 22 (.slice none 0 0) [], Box pt 26 [a, b, c, d]] := (hw.nil (T := tVal) (e := 22)).rows0
  clear hw
  refine vc_loop3 [4, 5, 6, 8, 9, 10, 21, 22, 23, 24, 25, 26, 27, 28, 29, 30, 31, 32, 33, 34, 35, 36, 37, 38, 39, 40, 41, 42, 43, 44, 45, 46, 47, 48, 49] (G := Nat) (H := Value) (I := List Value) (fun k ov _ => [(21, .int .i64 k), (6, ov)]) (fun k ov os w => k ≤ xs.length ∧ os.length = k ∧ (∀ i, i < k → cntL t.vars (chosenK (xs.getD i tU16.dflt) t.vars.length) ≤ 64) ∧ Sat w0 w [RowsAt tInt 3 os (pickLs t (xs.take k)), OS tVal 22 ov os, Box pt 26 [a, b, c, d]]) (fun k _ _ => xs.length - k) 0 (.slice none 0 0) [] (fun _ _ _ => rfl) ⟨rfl, rfl, trivial⟩ ⟨Nat.zero_le _, rfl, fun i hi => absurd hi (Nat.not_lt_zero _), hw1⟩ ?_
  clear hw1
  rintro σ k ov os w ⟨hk, hol, hcn, hw⟩
  repeat (first | refine go_run ?_ | (refine go_newP ?_; clear hw; intro p w hw) | (refine go_newW ?_; clear hw; intro w hw) | (refine go_newS ?_; clear hw; intro s w hw))
  refine go_if (fun h2 => ?_) (fun h2 => ?_)
  · have hkl : k < xs.length := by omega
    repeat (first | refine go_run ?_ | (refine go_newP ?_; clear hw; intro p w hw) | (refine go_newW ?_; clear hw; intro w hw) | (refine go_newS ?_; clear hw; intro s w hw))
    have hw1 := hw.nil (T := tInt) (e := 3)
    clear hw
    refine vc_loop2 [9, 10, 28, 29, 30, 31, 32, 33, 34, 35, 36, 37, 38, 39, 40] (G := Nat) (H := Value) (fun j s => [(28, .int .i64 j), (9, s)]) (fun j s w => j ≤ t.vars.length ∧ Sat w0 w [OS tInt 3 s (chosenK (xs.getD k tU16.dflt) j), RowsAt tInt 3 os (pickLs t (xs.take k)), OS tVal 22 ov os, Box pt 26 [a, b, c, d]]) (fun j _ => t.vars.length - j) 0 (.slice none 0 0) (fun _ _ => rfl) ⟨rfl, rfl, trivial⟩ ⟨Nat.zero_le _, hw1⟩ ?_
    clear hw1
    rintro σ1 j s w ⟨hj, hw⟩
    repeat (first | refine go_run ?_ | (refine go_newP ?_; clear hw; intro p w hw) | (refine go_newW ?_; clear hw; intro w hw) | (refine go_newS ?_; clear hw; intro s w hw))
    refine go_if (fun h3 => ?_) (fun h3 => ?_)
    · have hkl := chosenK_len (xs.getD k tU16.dflt) j
      have hsn := chosenK_succ (xs.getD k tU16.dflt) j
      repeat (first | refine go_run ?_ | (refine go_newP ?_; clear hw; intro p w hw) | (refine go_newW ?_; clear hw; intro w hw) | (refine go_newS ?_; clear hw; intro s w hw))
      refine step_pure rfl (pv_shr16 (a := xs.getD k tU16.dflt) (b := j) (k := .i64) rfl rfl (by omega) (by omega)) ?_
      refine step_pure rfl (pv_remU16 (a := xs.getD k tU16.dflt / 2 ^ (j : Int).toNat) (b := 2) rfl rfl (by decide)) ?_
      repeat (first | refine go_run ?_ | (refine go_newP ?_; clear hw; intro p w hw) | (refine go_newW ?_; clear hw; intro w hw) | (refine go_newS ?_; clear hw; intro s w hw))
      refine go_if (fun h4 => ?_) (fun h4 => ?_)
      · repeat (first | refine go_run ?_ | (refine go_newP ?_; clear hw; intro p w hw) | (refine go_newW ?_; clear hw; intro w hw) | (refine go_newS ?_; clear hw; intro s w hw))
        refine ⟨j + 1, _, ⟨rfl, rfl, trivial⟩, by repeat (first | exact agree_refl | (apply agree_upd rfl) | (apply agree_mix rfl) | (apply agree_sets rfl)), ⟨by omega, ?_⟩, by omega⟩
        rw [hsn, if_pos (by simp only [bitB, decide_eq_true_eq]; exact h4)]
        exact hw.tail
      · repeat (first | refine go_run ?_ | (refine go_newP ?_; clear hw; intro p w hw) | (refine go_newW ?_; clear hw; intro w hw) | (refine go_newS ?_; clear hw; intro s w hw))
        refine ⟨j + 1, _, ⟨rfl, rfl, trivial⟩, by repeat (first | exact agree_refl | (apply agree_upd rfl) | (apply agree_mix rfl) | (apply agree_sets rfl)), ⟨by omega, ?_⟩, by omega⟩
        rw [hsn, if_neg (by simp only [bitB, decide_eq_true_eq]; exact h4)]
        exact hw
    have hje : j = t.vars.length := by omega
    subst hje
    have hL := chosen_inV t.vars (xs.getD k tU16.dflt)
    have hcl := cntL_le hg.pos hL
    repeat (first | refine go_run ?_ | (refine go_newP ?_; clear hw; intro p w hw) | (refine go_newW ?_; clear hw; intro w hw) | (refine go_newS ?_; clear hw; intro s w hw))
    refine st_call rfl (rMany_spec (va := s) (ht'.at hw) (rsO hw) hg.pos hL.mem (by omega)) ?_
    rintro _ w' ⟨rfl, hk'⟩
    replace hw := hw.call0 hk'
    clear hk'
    refine ⟨_, rfl, ?_⟩
    repeat (first | refine go_run ?_ | (refine go_newP ?_; clear hw; intro p w hw) | (refine go_newW ?_; clear hw; intro w hw) | (refine go_newS ?_; clear hw; intro s w hw))
    refine go_if (fun h5 => ?_) (fun h5 => ?_)
    · repeat (first | refine go_run ?_ | (refine go_newP ?_; clear hw; intro p w hw) | (refine go_newW ?_; clear hw; intro w hw) | (refine go_newS ?_; clear hw; intro s w hw))
      exact res_two (v := .slice none 0 0) (v' := .bool false) rfl rfl rfl (.inl ⟨fun h => (by have := h.2.2 k hkl; omega), rfl, hw.sel⟩)
    have c1 := (rsO (s := s) hw).cells1
    have o1 := (rsO (s := s) hw).one
    repeat (first | refine go_run ?_ | (refine go_newP ?_; clear hw; intro p w hw) | (refine go_newW ?_; clear hw; intro w hw) | (refine go_newSv ?_; clear hw; intro s w hw))
    refine st_buildSlice1 tVal (x1 := s) rfl c1 rfl (Nat.le_of_ble_eq_true rfl) (Nat.zero_lt_succ _) hw ?_
    clear hw
    intro bs w hw
    refine st_append (s := ov) (s2 := bs) inferInstance rfl rfl (rsO hw) rfl rfl (fun x hx v hv => by rw [List.mem_singleton.1 hx] at hv; rw [List.mem_singleton.1 hv]; exact o1) (by simp only [List.length_cons, List.length_nil]; omega) (by unfold big; simp only [List.length_cons, List.length_nil]; omega) hw ?_
    clear hw
    intro ov2 w hw
    repeat (first | refine go_run ?_ | (refine go_newP ?_; clear hw; intro p w hw) | (refine go_newW ?_; clear hw; intro w hw) | (refine go_newS ?_; clear hw; intro s w hw))
    have hw2 : Sat w0 w [OS tInt 3 s (chosenK (xs.getD k tU16.dflt) t.vars.length), RowsAt tInt 3 os (pickLs t (xs.take k)), OS tVal 22 ov2 (os ++ [s]), Box pt 26 [a, b, c, d]] := hw.tail
    have hw3 := hw2.rowPush
    have hpk : pickLs t (xs.take k) ++ [chosenK (xs.getD k tU16.dflt) t.vars.length] = pickLs t (xs.take (k + 1)) := by
      rw [take_snoc tU16.dflt hkl]; simp [pickLs]
    rw [hpk] at hw3
    refine ⟨k + 1, ov2, os ++ [s], ⟨rfl, rfl, trivial⟩, by repeat (first | exact agree_refl | (apply agree_upd rfl) | (apply agree_mix rfl) | (apply agree_sets rfl)), ⟨by omega, by simp [hol], fun i hi => ?_, hw3⟩, by omega⟩
    by_cases e : i = k
    · subst e; omega
    · exact hcn i (by omega)
  · have hke : k = xs.length := by omega
    subst hke
    rw [List.take_length] at hw
    repeat (first | refine go_run ?_ | (refine go_newP ?_; clear hw; intro p w hw) | (refine go_newW ?_; clear hw; intro w hw) | (refine go_newS ?_; clear hw; intro s w hw))
    exact res_two (v := ov) (v' := .bool true) rfl rfl rfl (.inr ⟨⟨hs, by omega, hcn⟩, ov, os, rfl, hw.sel⟩)
end Go.Proofs.Ytnoiagnmbipppaa
