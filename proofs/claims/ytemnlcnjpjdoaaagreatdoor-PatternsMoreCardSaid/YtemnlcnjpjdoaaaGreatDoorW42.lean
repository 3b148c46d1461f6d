
/-
  What the statements of layer 42 share: contracts of 'lists', 'chosen', 'picked'.
-/
import Derived.Test.YtemnlcnjpjdoaaaGreatDoorTIndT
import Derived.Test.YtemnlcnjpjdoaaaGreatDoorWPicked
import Derived.Test.YtemnlcnjpjdoaaaGreatDoorWRef40b
set_option linter.unusedSimpArgs false
set_option linter.unusedVariables false
namespace Go.Proofs.YtemnlcnjpjdoaaaGreatDoor
open Go.Sl Go
attribute [local irreducible] vc opsW opsD opV opW PureV ReadV Thn Blk
set_option maxRecDepth 8000 in
set_option maxHeartbeats 1000000 in
theorem chosen42_spec {w0 : World} {a b c d : Value} {vs : List OpV} {t : TTask} {bits : Int} (ht : RTask w0 a b c d vs t) (hn : t.vars.length ≤ 16) :
    Calls Tryz.prog 42 #[.agg #[a, b, c, d], .int .u16 bits] w0 fun e w' => ∃ s, e = .returned s ∧ Sat w0 w' [OS tInt 3 s (chosenK bits t.vars.length)] := by
  obtain ⟨ha, hb, hc, hd⟩ := ht
  have hla := ha.big
  have hw := Sat.start w0
  refine calls_of_vc (args := [.agg #[a, b, c, d], .int .u16 bits]) mixed Tryz.func42 rfl (by kernel_rfl) (Nat.le_of_ble_eq_true rfl) ?_
  repeat (first | refine go_run ?_ | (refine go_newP ?_; clear hw; intro p w hw) | (refine go_newW ?_; clear hw; intro w hw) | (refine go_newS ?_; clear hw; intro s w hw))
  obtain ⟨pt, hpt⟩ : ∃ pt, pt = p := ⟨p, rfl⟩
  subst hpt
  refine vc_loop2 [5, 6, 10, 11, 12, 13, 14, 15, 16, 17, 18, 19, 20, 21, 22] (G := Nat) (H := Value) (fun k s => [(10, .int .i64 k), (5, s)]) (fun k s w => k ≤ t.vars.length ∧ Sat w0 w [OS tInt 3 s (chosenK bits k), Box pt 26 [a, b, c, d]]) (fun k _ => t.vars.length - k) 0 (.slice none 0 0) (fun _ _ => rfl) ⟨rfl, rfl, trivial⟩ ⟨Nat.zero_le _, hw.nil⟩ ?_
  clear hw
  rintro σ k s w ⟨hk, hw⟩
  repeat (first | refine go_run ?_ | (refine go_newP ?_; clear hw; intro p w hw) | (refine go_newW ?_; clear hw; intro w hw) | (refine go_newS ?_; clear hw; intro s w hw))
  refine go_if (fun h1 => ?_) (fun h1 => ?_)
  · have hkl := chosenK_len bits k
    have hsn := chosenK_succ bits k
    repeat (first | refine go_run ?_ | (refine go_newP ?_; clear hw; intro p w hw) | (refine go_newW ?_; clear hw; intro w hw) | (refine go_newS ?_; clear hw; intro s w hw))
    refine step_pure rfl (pv_shr16 (a := bits) (b := k) (k := .i64) rfl rfl (by omega) (by omega)) ?_
    refine step_pure rfl (pv_remU16 (a := bits / 2 ^ (k : Int).toNat) (b := 2) rfl rfl (by decide)) ?_
    repeat (first | refine go_run ?_ | (refine go_newP ?_; clear hw; intro p w hw) | (refine go_newW ?_; clear hw; intro w hw) | (refine go_newS ?_; clear hw; intro s w hw))
    refine go_if (fun h2 => ?_) (fun h2 => ?_)
    · repeat (first | refine go_run ?_ | (refine go_newP ?_; clear hw; intro p w hw) | (refine go_newW ?_; clear hw; intro w hw) | (refine go_newS ?_; clear hw; intro s w hw))
      refine ⟨k + 1, _, ⟨rfl, rfl, trivial⟩, by repeat (first | exact agree_refl | (apply agree_upd rfl) | (apply agree_mix rfl) | (apply agree_sets rfl)), ⟨by omega, ?_⟩, by omega⟩
      rw [hsn, if_pos (by simp only [bitB, decide_eq_true_eq]; exact h2)]
      exact hw.tail
    · repeat (first | refine go_run ?_ | (refine go_newP ?_; clear hw; intro p w hw) | (refine go_newW ?_; clear hw; intro w hw) | (refine go_newS ?_; clear hw; intro s w hw))
      refine ⟨k + 1, _, ⟨rfl, rfl, trivial⟩, by repeat (first | exact agree_refl | (apply agree_upd rfl) | (apply agree_mix rfl) | (apply agree_sets rfl)), ⟨by omega, ?_⟩, by omega⟩
      rw [hsn, if_neg (by simp only [bitB, decide_eq_true_eq]; exact h2)]
      exact hw
  · have hke : k = t.vars.length := by omega
    subst hke
    repeat (first | refine go_run ?_ | (refine go_newP ?_; clear hw; intro p w hw) | (refine go_newW ?_; clear hw; intro w hw) | (refine go_newS ?_; clear hw; intro s w hw))
    exact res_one (v := s) rfl rfl ⟨s, rfl, hw.only⟩
set_option maxRecDepth 8000 in
set_option maxHeartbeats 4000000 in
theorem picked42_spec {w0 : World} {a b c d xv : Value} {vs : List OpV} {t : TTask} {xs : List Int} (ht : RTask w0 a b c d vs t) (hx : RS tU16 w0 xv xs) :
    Calls Tryz.prog 14 #[.agg #[a, b, c, d], xv] w0 fun e w' => (¬ PickOk t xs ∧ e = .returned (.tuple #[.slice none 0 0, .bool false]) ∧ Sat w0 w' []) ∨ (PickOk t xs ∧ ∃ ov os, e = .returned (.tuple #[ov, .bool true]) ∧ Sat w0 w' [RowsAt tInt 3 os (pickLs t xs), OS tVal 22 ov os]) := by
  have ht' := ht
  obtain ⟨ha, hb, hc, hd⟩ := ht
  have hla := ha.big
  have hxb := hx.big
  have hw := Sat.start w0
  refine calls_of_vc (args := [.agg #[a, b, c, d], xv]) mixed Tryz.func14 rfl (by kernel_rfl) (Nat.le_of_ble_eq_true rfl) ?_
  repeat (first | refine go_run ?_ | (refine go_newP ?_; clear hw; intro p w hw) | (refine go_newW ?_; clear hw; intro w hw) | (refine go_newS ?_; clear hw; intro s w hw))
  obtain ⟨pt, hpt⟩ : ∃ pt, pt = p := ⟨p, rfl⟩
  subst hpt
  refine st_call rfl (Small_spec (ht'.at hw)) ?_
  rintro _ w' ⟨⟨r, rfl, hr⟩, hk'⟩
  replace hw := hw.call0 hk'
  clear hk'
  refine ⟨_, rfl, ?_⟩
  cases r
  · repeat (first | refine go_run ?_ | (refine go_newP ?_; clear hw; intro p w hw) | (refine go_newW ?_; clear hw; intro w hw) | (refine go_newS ?_; clear hw; intro s w hw))
    exact res_two (v := .slice none 0 0) (v' := .bool false) rfl rfl rfl (.inl ⟨fun h => (by have := hr.2 h.1; cases this), rfl, hw.sel⟩)
  have hs := hr.1 rfl
  have hg := hs.good
  have hV := hs.vars
  have hM := hs.many
  repeat (first | refine go_run ?_ | (refine go_newP ?_; clear hw; intro p w hw) | (refine go_newW ?_; clear hw; intro w hw) | (refine go_newS ?_; clear hw; intro s w hw))
  refine go_if (fun h1 => ?_) (fun h1 => ?_)
  · repeat (first | refine go_run ?_ | (refine go_newP ?_; clear hw; intro p w hw) | (refine go_newW ?_; clear hw; intro w hw) | (refine go_newS ?_; clear hw; intro s w hw))
    exact res_two (v := .slice none 0 0) (v' := .bool false) rfl rfl rfl (.inl ⟨fun h => (by have := h.2.1; omega), rfl, hw.sel⟩)
  repeat (first | refine go_run ?_ | (refine go_newP ?_; clear hw; intro p w hw) | (refine go_newW ?_; clear hw; intro w hw) | (refine go_newS ?_; clear hw; intro s w hw))
  have hw1 : Sat w0 w' [RowsAt tInt 3 [] (pickLs t (xs.take 0)), OS tVal 22 (.slice none 0 0) [], Box pt 26 [a, b, c, d]] := (hw.nil (T := tVal) (e := 22)).rows0
  clear hw
  refine vc_loop3 [4, 5, 6, 8, 9, 20, 21, 22, 23, 24, 25, 26, 27, 28, 29, 30, 31, 32, 33, 34, 35] (G := Nat) (H := Value) (I := List Value) (fun k ov _ => [(20, .int .i64 k), (6, ov)]) (fun k ov os w => k ≤ xs.length ∧ os.length = k ∧ (∀ i, i < k → cntL t.vars (chosenK (xs.getD i tU16.dflt) t.vars.length) ≤ 64) ∧ Sat w0 w [RowsAt tInt 3 os (pickLs t (xs.take k)), OS tVal 22 ov os, Box pt 26 [a, b, c, d]]) (fun k _ _ => xs.length - k) 0 (.slice none 0 0) [] (fun _ _ _ => rfl) ⟨rfl, rfl, trivial⟩ ⟨Nat.zero_le _, rfl, fun i hi => absurd hi (Nat.not_lt_zero _), hw1⟩ ?_
  clear hw1
  rintro σ k ov os w ⟨hk, hol, hcn, hw⟩
  repeat (first | refine go_run ?_ | (refine go_newP ?_; clear hw; intro p w hw) | (refine go_newW ?_; clear hw; intro w hw) | (refine go_newS ?_; clear hw; intro s w hw))
  refine go_if (fun h2 => ?_) (fun h2 => ?_)
  · have hkl : k < xs.length := by omega
    repeat (first | refine go_run ?_ | (refine go_newP ?_; clear hw; intro p w hw) | (refine go_newW ?_; clear hw; intro w hw) | (refine go_newS ?_; clear hw; intro s w hw))
    refine st_call rfl (chosen42_spec (ht'.at hw) (by omega)) ?_
    rintro _ w' ⟨s, rfl, hk'⟩
    replace hw := hw.call1 hk'
    clear hk'
    refine ⟨_, rfl, ?_⟩
    have hL := chosen_inV t.vars (xs.getD k tU16.dflt)
    have hcl := cntL_le hg.pos hL
    repeat (first | refine go_run ?_ | (refine go_newP ?_; clear hw; intro p w hw) | (refine go_newW ?_; clear hw; intro w hw) | (refine go_newS ?_; clear hw; intro s w hw))
    refine st_call rfl (rMany_spec (va := s) (ht'.at hw) (rsO hw) hg.pos hL.mem (by omega)) ?_
    rintro _ w' ⟨rfl, hk'⟩
    replace hw := hw.call0 hk'
    clear hk'
    refine ⟨_, rfl, ?_⟩
    repeat (first | refine go_run ?_ | (refine go_newP ?_; clear hw; intro p w hw) | (refine go_newW ?_; clear hw; intro w hw) | (refine go_newS ?_; clear hw; intro s w hw))
    refine go_if (fun h5 => ?_) (fun h5 => ?_)
    · repeat (first | refine go_run ?_ | (refine go_newP ?_; clear hw; intro p w hw) | (refine go_newW ?_; clear hw; intro w hw) | (refine go_newS ?_; clear hw; intro s w hw))
      exact res_two (v := .slice none 0 0) (v' := .bool false) rfl rfl rfl (.inl ⟨fun h => (by have := h.2.2 k hkl; omega), rfl, hw.sel⟩)
    have c1 := (rsO (s := s) hw).cells1
    have o1 := (rsO (s := s) hw).one
    repeat (first | refine go_run ?_ | (refine go_newP ?_; clear hw; intro p w hw) | (refine go_newW ?_; clear hw; intro w hw) | (refine go_newSv ?_; clear hw; intro s w hw))
    refine st_buildSlice1 tVal (x1 := s) rfl c1 rfl (Nat.le_of_ble_eq_true rfl) (Nat.zero_lt_succ _) hw ?_
    clear hw
    intro bs w hw
    refine st_append (s := ov) (s2 := bs) inferInstance rfl rfl (rsO hw) rfl rfl (fun x hx v hv => by rw [List.mem_singleton.1 hx] at hv; rw [List.mem_singleton.1 hv]; exact o1) (by simp only [List.length_cons, List.length_nil]; omega) (by unfold big; simp only [List.length_cons, List.length_nil]; omega) hw ?_
    clear hw
    intro ov2 w hw
    repeat (first | refine go_run ?_ | (refine go_newP ?_; clear hw; intro p w hw) | (refine go_newW ?_; clear hw; intro w hw) | (refine go_newS ?_; clear hw; intro s w hw))
    have hw2 : Sat w0 w [OS tInt 3 s (chosenK (xs.getD k tU16.dflt) t.vars.length), RowsAt tInt 3 os (pickLs t (xs.take k)), OS tVal 22 ov2 (os ++ [s]), Box pt 26 [a, b, c, d]] := hw.tail
    have hw3 := hw2.rowPush
    have hpk : pickLs t (xs.take k) ++ [chosenK (xs.getD k tU16.dflt) t.vars.length] = pickLs t (xs.take (k + 1)) := by
      rw [take_snoc tU16.dflt hkl]; simp [pickLs]
    rw [hpk] at hw3
    refine ⟨k + 1, ov2, os ++ [s], ⟨rfl, rfl, trivial⟩, by repeat (first | exact agree_refl | (apply agree_upd rfl) | (apply agree_mix rfl) | (apply agree_sets rfl)), ⟨by omega, by simp [hol], fun i hi => ?_, hw3⟩, by omega⟩
    by_cases e : i = k
    · subst e; omega
    · exact hcn i (by omega)
  · have hke : k = xs.length := by omega
    subst hke
    rw [List.take_length] at hw
    repeat (first | refine go_run ?_ | (refine go_newP ?_; clear hw; intro p w hw) | (refine go_newW ?_; clear hw; intro w hw) | (refine go_newS ?_; clear hw; intro s w hw))
    exact res_two (v := ov) (v' := .bool true) rfl rfl rfl (.inr ⟨⟨hs, by omega, hcn⟩, ov, os, rfl, hw.sel⟩)
theorem PickOk.pats {t : TTask} {xs : List Int} (h : PickOk t xs) : PatsOk t (pickLs t xs) where
  small := h.1
  len := by rw [pickLs_len]; have := h.2.1; omega
  inv := fun i hi => PickOk.inV (by rw [pickLs_len] at hi; exact hi)
  cnt := fun i hi => by
    rw [pickLs_len] at hi
    rw [pickLs_at hi]; exact h.2.2 i hi
  full := fun _ => few_not_full (by rw [pickLs_len]; have := h.2.1; omega)
end Go.Proofs.YtemnlcnjpjdoaaaGreatDoor
