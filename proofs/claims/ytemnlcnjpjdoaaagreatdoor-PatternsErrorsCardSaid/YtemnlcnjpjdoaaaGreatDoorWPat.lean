
/-
  Contract of the reference's 'Pattern'.
-/
import Derived.Test.YtemnlcnjpjdoaaaGreatDoorMW4
set_option linter.unusedSimpArgs false
set_option linter.unusedVariables false
namespace Go.Proofs.YtemnlcnjpjdoaaaGreatDoor
open Go.Sl Go
attribute [local irreducible] vc opsW opsD opV opW PureV ReadV Thn Blk
set_option maxRecDepth 8000 in
theorem rPattern_spec {w0 : World} {a b c d va : Value} {vs : List OpV} {t : TTask} {L : List Int} (ht : RTask w0 a b c d vs t) (hp : RS tInt w0 va L) :
    Calls Tryz.prog 33 #[.agg #[a, b, c, d], va] w0 fun e w' => (∃ r, e = .returned (.bool r) ∧ (r = true ↔ PatOk t.vars L)) ∧ Sat w0 w' [] := by
  obtain ⟨ha, hb, hc, hd⟩ := ht
  have hla := ha.big
  have hlp := hp.big
  have hw := Sat.start w0
  refine calls_of_vc (args := [.agg #[a, b, c, d], va]) mixed Tryz.func33 rfl (by kernel_rfl) (Nat.le_of_ble_eq_true rfl) ?_
  repeat (first | refine go_run ?_ | (refine go_newP ?_; clear hw; intro p w hw) | (refine go_newW ?_; clear hw; intro w hw) | (refine go_newS ?_; clear hw; intro s w hw))
  obtain ⟨pt, hpt⟩ : ∃ pt, pt = p := ⟨p, rfl⟩
  subst hpt
  refine vc_loop [4, 5, 6, 9, 10, 11, 12, 13, 14, 15, 16, 17, 18, 19, 20, 21, 22, 23, 24, 25, 26, 27, 28, 29, 30, 31, 32, 33, 34, 35, 36] (G := Nat) (fun k => [(9, .int .i64 k)]) (fun k w => k ≤ L.length ∧ (∀ i, i < k → (0 ≤ L.getD i tInt.dflt ∧ L.getD i tInt.dflt < t.vars.length) ∧ (0 < i → L.getD (i - 1) tInt.dflt < L.getD i tInt.dflt)) ∧ Sat w0 w [Box pt 26 [a, b, c, d]]) (fun k => L.length - k) 0 (fun _ => rfl) ⟨rfl, trivial⟩ ⟨Nat.zero_le _, fun i hi => absurd hi (Nat.not_lt_zero _), hw⟩ ?_
  clear hw
  rintro σ k w ⟨hk1, hpre, hw⟩
  repeat (first | refine go_run ?_ | (refine go_newP ?_; clear hw; intro p w hw) | (refine go_newW ?_; clear hw; intro w hw) | (refine go_newS ?_; clear hw; intro s w hw))
  refine go_if (fun h1 => ?_) (fun h1 => ?_)
  · have hkl : k < L.length := by omega
    have e1 : ((k : Int) - 1).toNat = k - 1 := by omega
    repeat (first | refine go_run ?_ | (refine go_newP ?_; clear hw; intro p w hw) | (refine go_newW ?_; clear hw; intro w hw) | (refine go_newS ?_; clear hw; intro s w hw))
    refine go_if (fun h2 => ?_) (fun h2 => ?_)
    · repeat (first | refine go_run ?_ | (refine go_newP ?_; clear hw; intro p w hw) | (refine go_newW ?_; clear hw; intro w hw) | (refine go_newS ?_; clear hw; intro s w hw))
      refine res_one (v := .bool false) rfl rfl ⟨⟨false, rfl, iffF fun hpk => ?_⟩, hw.tail⟩
      have h3 := hpk k hkl
      rw [e1] at h2
      rcases h2 with (h2 | h2) | ⟨h2, h4⟩
      · omega
      · omega
      · have := h3.2 (by omega); omega
    · rw [e1] at h2
      repeat (first | refine go_run ?_ | (refine go_newP ?_; clear hw; intro p w hw) | (refine go_newW ?_; clear hw; intro w hw) | (refine go_newS ?_; clear hw; intro s w hw))
      refine ⟨k + 1, ⟨rfl, trivial⟩, by repeat (first | exact agree_refl | (apply agree_upd rfl) | (apply agree_mix rfl) | (apply agree_sets rfl)), ⟨by omega, fun i hi => ?_, hw⟩, by omega⟩
      by_cases h : i = k
      · subst h; exact ⟨by omega, fun h0 => by omega⟩
      · exact hpre i (by omega)
  · repeat (first | refine go_run ?_ | (refine go_newP ?_; clear hw; intro p w hw) | (refine go_newW ?_; clear hw; intro w hw) | (refine go_newS ?_; clear hw; intro s w hw))
    refine res_one (v := .bool true) rfl rfl ⟨⟨true, rfl, iffT fun i hi => hpre i (by omega)⟩, hw.tail⟩
end Go.Proofs.YtemnlcnjpjdoaaaGreatDoor
