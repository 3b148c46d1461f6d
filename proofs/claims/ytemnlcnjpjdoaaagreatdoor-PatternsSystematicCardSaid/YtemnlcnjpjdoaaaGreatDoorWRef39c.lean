
/-
  The reference of layer 39: contract of 'Connected'.
-/
import Derived.Test.YtemnlcnjpjdoaaaGreatDoorWRef39
set_option linter.unusedSimpArgs false
set_option linter.unusedVariables false
namespace Go.Proofs.YtemnlcnjpjdoaaaGreatDoor
open Go.Sl Go
attribute [local irreducible] vc opsW opsD opV opW PureV ReadV Thn Blk
set_option maxRecDepth 8000 in
set_option maxHeartbeats 4000000 in
theorem rConnected_spec {w0 : World} {a b c d pv : Value} {vs : List OpV} {t : TTask} {p : List Int} (ht : RTask w0 a b c d vs t) (hp : RS tInt w0 pv p) (hpl : p.length ≤ 16) :
    Calls Tryz.prog 41 #[.agg #[a, b, c, d], pv] w0 fun e w' => (∃ r, e = .returned (.bool r) ∧ (r = true ↔ connP t p)) ∧ Sat w0 w' [] := by
  obtain ⟨L, hL⟩ : ∃ L, L = p := ⟨p, rfl⟩
  rw [← hL] at hp hpl ⊢
  clear hL p
  have ht' := ht
  have hw := Sat.start w0
  refine calls_of_vc (args := [.agg #[a, b, c, d], pv]) mixed Tryz.func41 rfl (by kernel_rfl) (Nat.le_of_ble_eq_true rfl) ?_
  repeat (first | refine go_run ?_ | (refine go_newP ?_; clear hw; intro p w hw) | (refine go_newW ?_; clear hw; intro w hw) | (refine go_newS ?_; clear hw; intro s w hw))
  obtain ⟨pt, hpt⟩ : ∃ pt, pt = p := ⟨p, rfl⟩
  subst hpt
  refine go_if (fun h0 => ?_) (fun h0 => ?_)
  · have hz : L = [] := List.eq_nil_of_length_eq_zero (by omega)
    subst hz
    repeat (first | refine go_run ?_ | (refine go_newP ?_; clear hw; intro p w hw) | (refine go_newW ?_; clear hw; intro w hw) | (refine go_newS ?_; clear hw; intro s w hw))
    exact res_one (v := .bool true) rfl rfl ⟨⟨true, rfl, iffT conn_nil⟩, hw.sel⟩
  have hlp : 0 < L.length := by omega
  repeat (first | refine go_run ?_ | (refine go_newP ?_; clear hw; intro p w hw) | (refine go_newW ?_; clear hw; intro w hw) | (refine go_newS ?_; clear hw; intro s w hw))
  obtain ⟨sv, hsv⟩ : ∃ sv, sv = s := ⟨s, rfl⟩
  subst hsv
  rw [Int.toNat_natCast] at hw
  have hrl : (List.replicate L.length false).length = L.length := List.length_replicate
  repeat (first | refine go_run ?_ | (refine go_newP ?_; clear hw; intro p w hw) | (refine go_newW ?_; clear hw; intro w hw) | (refine go_newS ?_; clear hw; intro s w hw))
  refine vc_loop3 [6, 7, 8, 9, 10, 11, 20, 21, 22, 23, 24, 25, 26, 27, 28, 29, 30, 31, 32, 33, 34, 35, 36, 37, 38, 39, 40, 41, 42, 43, 44, 45, 46, 47, 48, 49, 50, 51, 52, 53, 54, 55, 56, 57, 58, 59, 60, 61, 62, 63, 64] (G := Nat) (H := List Bool) (I := Bool) (fun n _ ch => [(6, .int .i64 n), (7, .bool ch)]) (fun n seen ch w => SeenK t L seen n ∧ (ch = false → ClosK t L seen L.length 0) ∧ Sat w0 w [OS tBool 4 sv seen, Box pt 26 [a, b, c, d]]) (fun n _ ch => 2 * (L.length - n) + (if ch then 1 else 0)) 1 _ true (fun _ _ _ => rfl) ⟨rfl, rfl, trivial⟩ ⟨SeenK.start hlp, (fun h => by cases h), hw⟩ ?_
  clear hw
  rintro σ n seen ch w ⟨hS, hcl, hw⟩
  have hSl := hS.le
  cases ch
  · have hfin := hS.fin hlp (hcl rfl)
    repeat (first | refine go_run ?_ | (refine go_newP ?_; clear hw; intro p w hw) | (refine go_newW ?_; clear hw; intro w hw) | (refine go_newS ?_; clear hw; intro s w hw))
    refine res_one (v := .bool (decide ((n : Int) = L.length))) rfl rfl ⟨⟨_, rfl, ?_⟩, hw.sel⟩
    rw [decide_eq_true_eq, ← hfin]
    omega
  repeat (first | refine go_run ?_ | (refine go_newP ?_; clear hw; intro p w hw) | (refine go_newW ?_; clear hw; intro w hw) | (refine go_newS ?_; clear hw; intro s w hw))
  refine vc_loop4 [6, 7, 8, 9, 10, 11, 23, 24, 25, 26, 27, 28, 29, 30, 31, 32, 33, 34, 35, 36, 37, 38, 39, 40, 41, 42, 43, 44, 45, 46, 47, 48, 49, 50, 51, 52, 53, 54, 55, 56, 57, 58, 59, 60, 61, 62, 63, 64] (G := Nat) (H := Nat) (I := List Bool) (M := Bool) (fun i m _ ch => [(23, .int .i64 i), (6, .int .i64 m), (7, .bool ch)]) (fun i m seen ch w => i ≤ L.length ∧ RndK t L n seen m ch i 0 ∧ Sat w0 w [OS tBool 4 sv seen, Box pt 26 [a, b, c, d]]) (fun i _ _ _ => L.length - i) 0 n seen false (fun _ _ _ _ => rfl) ⟨rfl, rfl, rfl, trivial⟩ ⟨Nat.zero_le _, RndK.start hS, hw⟩ ?_
  clear hw
  rintro σ1 i m seen1 ch w ⟨hi, hR, hw⟩
  repeat (first | refine go_run ?_ | (refine go_newP ?_; clear hw; intro p w hw) | (refine go_newW ?_; clear hw; intro w hw) | (refine go_newS ?_; clear hw; intro s w hw))
  refine go_if (fun h1 => ?_) (fun h1 => ?_)
  · have hil : i < L.length := by omega
    repeat (first | refine go_run ?_ | (refine go_newP ?_; clear hw; intro p w hw) | (refine go_newW ?_; clear hw; intro w hw) | (refine go_newS ?_; clear hw; intro s w hw))
    refine vc_loop4 [6, 7, 10, 11, 30, 31, 32, 33, 34, 35, 36, 37, 38, 39, 40, 41, 42, 43, 44, 45, 46, 47, 48, 49, 50, 51, 52, 53, 54, 55, 56, 57, 58, 59, 60, 61, 62, 63] (G := Nat) (H := Nat) (I := List Bool) (M := Bool) (fun j m _ ch => [(30, .int .i64 j), (6, .int .i64 m), (7, .bool ch)]) (fun j m seen ch w => j ≤ L.length ∧ RndK t L n seen m ch i j ∧ Sat w0 w [OS tBool 4 sv seen, Box pt 26 [a, b, c, d]]) (fun j _ _ _ => L.length - j) 0 m seen1 ch (fun _ _ _ _ => rfl) ⟨rfl, rfl, rfl, trivial⟩ ⟨Nat.zero_le _, hR, hw⟩ ?_
    clear hw hR
    rintro σ2 j m seen2 ch w ⟨hj, hR, hw⟩
    have hsl := hR.sk.len
    have hmle := hR.sk.le
    repeat (first | refine go_run ?_ | (refine go_newP ?_; clear hw; intro p w hw) | (refine go_newW ?_; clear hw; intro w hw) | (refine go_newS ?_; clear hw; intro s w hw))
    refine go_if (fun h2 => ?_) (fun h2 => ?_)
    · have hjl : j < L.length := by omega
      cases hsi : seen2.getD i tBool.dflt
      · repeat (first | refine go_run ?_ | (refine go_newP ?_; clear hw; intro p w hw) | (refine go_newWr ?_; clear hw; intro w hw) | (refine go_newS ?_; clear hw; intro s w hw))
        simp only [hsi, beq_self_eq_true, beq_tf, beq_ft, Bool.false_and, Bool.true_and, Bool.not_true, Bool.not_false, Bool.cond_true, Bool.cond_false, gv_f, gv_t]
        repeat (first | refine go_run ?_ | (refine go_newP ?_; clear hw; intro p w hw) | (refine go_newWr ?_; clear hw; intro w hw) | (refine go_newS ?_; clear hw; intro s w hw))
        exact ⟨j + 1, m, seen2, ch, ⟨rfl, rfl, rfl, trivial⟩, by repeat (first | exact agree_refl | (apply agree_upd rfl) | (apply agree_mix rfl) | (apply agree_sets rfl)), ⟨by omega, hR.skip fun h => absurd (hsi.symm.trans h) (by decide), hw⟩, by omega⟩
      cases hsj : seen2.getD j tBool.dflt
      rotate_left
      · repeat (first | refine go_run ?_ | (refine go_newP ?_; clear hw; intro p w hw) | (refine go_newWr ?_; clear hw; intro w hw) | (refine go_newS ?_; clear hw; intro s w hw))
        simp only [hsi, hsj, beq_self_eq_true, beq_tf, beq_ft, Bool.false_and, Bool.true_and, Bool.not_true, Bool.not_false, Bool.cond_true, Bool.cond_false, gv_f, gv_t]
        repeat (first | refine go_run ?_ | (refine go_newP ?_; clear hw; intro p w hw) | (refine go_newWr ?_; clear hw; intro w hw) | (refine go_newS ?_; clear hw; intro s w hw))
        exact ⟨j + 1, m, seen2, ch, ⟨rfl, rfl, rfl, trivial⟩, by repeat (first | exact agree_refl | (apply agree_upd rfl) | (apply agree_mix rfl) | (apply agree_sets rfl)), ⟨by omega, hR.skip fun _ _ => hsj, hw⟩, by omega⟩
      repeat (first | refine go_run ?_ | (refine go_newP ?_; clear hw; intro p w hw) | (refine go_newWr ?_; clear hw; intro w hw) | (refine go_newS ?_; clear hw; intro s w hw))
      simp only [hsi, hsj, beq_self_eq_true, beq_tf, beq_ft, Bool.false_and, Bool.true_and, Bool.not_true, Bool.not_false, Bool.cond_true, Bool.cond_false, gv_f, gv_t]
      repeat (first | refine go_run ?_ | (refine go_newP ?_; clear hw; intro p w hw) | (refine go_newWr ?_; clear hw; intro w hw) | (refine go_newS ?_; clear hw; intro s w hw))
      refine st_call rfl (rArc_spec (ht'.at hw)) ?_
      rintro _ w' ⟨⟨r, rfl, hr⟩, hk'⟩
      replace hw := hw.call0 hk'
      clear hk'
      refine ⟨_, rfl, ?_⟩
      cases r
      · repeat (first | refine go_run ?_ | (refine go_newP ?_; clear hw; intro p w hw) | (refine go_newWr ?_; clear hw; intro w hw) | (refine go_newS ?_; clear hw; intro s w hw))
        refine st_call rfl (rArc_spec (ht'.at hw)) ?_
        rintro _ w' ⟨⟨r, rfl, hr2⟩, hk'⟩
        replace hw := hw.call0 hk'
        clear hk'
        refine ⟨_, rfl, ?_⟩
        cases r
        · repeat (first | refine go_run ?_ | (refine go_newP ?_; clear hw; intro p w hw) | (refine go_newWr ?_; clear hw; intro w hw) | (refine go_newS ?_; clear hw; intro s w hw))
          exact ⟨j + 1, m, seen2, ch, ⟨rfl, rfl, rfl, trivial⟩, by repeat (first | exact agree_refl | (apply agree_upd rfl) | (apply agree_mix rfl) | (apply agree_sets rfl)), ⟨by omega, hR.skip fun _ h => h.elim (fun h => by have := hr.2 h; cases this) (fun h => by have := hr2.2 h; cases this), hw⟩, by omega⟩
        · repeat (first | refine go_run ?_ | (refine go_newP ?_; clear hw; intro p w hw) | (refine go_newWr ?_; clear hw; intro w hw) | (refine go_newS ?_; clear hw; intro s w hw))
          exact ⟨j + 1, m + 1, _, true, ⟨rfl, rfl, rfl, trivial⟩, by repeat (first | exact agree_refl | (apply agree_upd rfl) | (apply agree_mix rfl) | (apply agree_sets rfl)), ⟨by omega, hR.add hil hjl hsi hsj (.inr (hr2.1 rfl)), hw⟩, by omega⟩
      · repeat (first | refine go_run ?_ | (refine go_newP ?_; clear hw; intro p w hw) | (refine go_newWr ?_; clear hw; intro w hw) | (refine go_newS ?_; clear hw; intro s w hw))
        exact ⟨j + 1, m + 1, _, true, ⟨rfl, rfl, rfl, trivial⟩, by repeat (first | exact agree_refl | (apply agree_upd rfl) | (apply agree_mix rfl) | (apply agree_sets rfl)), ⟨by omega, hR.add hil hjl hsi hsj (.inl (hr.1 rfl)), hw⟩, by omega⟩
    · have hjl : j = L.length := by omega
      subst hjl
      repeat (first | refine go_run ?_ | (refine go_newP ?_; clear hw; intro p w hw) | (refine go_newW ?_; clear hw; intro w hw) | (refine go_newS ?_; clear hw; intro s w hw))
      exact ⟨i + 1, m, seen2, ch, ⟨rfl, rfl, rfl, trivial⟩, by repeat (first | exact agree_refl | (apply agree_upd rfl) | (apply agree_mix rfl) | (apply agree_sets rfl)), ⟨by omega, hR.next, hw⟩, by omega⟩
  · have hie : i = L.length := by omega
    subst hie
    have hml := hR.sk.le
    repeat (first | refine go_run ?_ | (refine go_newP ?_; clear hw; intro p w hw) | (refine go_newW ?_; clear hw; intro w hw) | (refine go_newS ?_; clear hw; intro s w hw))
    refine ⟨m, seen1, ch, ⟨rfl, rfl, trivial⟩, by repeat (first | exact agree_refl | (apply agree_upd rfl) | (apply agree_mix rfl) | (apply agree_sets rfl)), ⟨hR.sk, fun e => (hR.no e).2, hw⟩, ?_⟩
    cases ch
    · have := (hR.no rfl).1
      simp only [if_true, if_false, Bool.false_eq_true]; omega
    · have := hR.yes rfl
      simp only [if_true]; omega
end Go.Proofs.YtemnlcnjpjdoaaaGreatDoor
