
/-
  Contracts of the package 'task': 'Proper', 'Facts', 'Holds', 'named', 'conditions', 'large', 'Check'.
-/
import Derived.Test.YtgbijampdkahjaaWTBase
import Derived.Test.YtgbijampdkahjaaMTA
set_option linter.unusedSimpArgs false
set_option linter.unusedVariables false
namespace Go.Proofs.Ytgbijampdkahjaa
open Go.Sl
attribute [local irreducible] vc opsW opsD opV opW PureV ReadV Thn Blk

set_option maxRecDepth 8000 in
theorem tProper_spec {w0 : World} {a b : Value} {vars s : List Int} (ha : RS tInt w0 a vars) (hb : RS tInt w0 b s) :
    Calls Try.prog 39 #[a, b] w0 fun e w' => (∃ r, e = .returned (.bool r) ∧ (r = true ↔ StateOk vars s)) ∧ Sat w0 w' [] := by
  have hla := ha.big
  have hlb := hb.big
  have hw := Sat.start w0
  refine calls_of_vc (args := [a, b]) mixed Try.func39 rfl (by kernel_rfl) (Nat.le_of_ble_eq_true rfl) ?_
  repeat (first | refine go_run ?_ | (refine go_newP ?_; clear hw; intro p w hw) | (refine go_newW ?_; clear hw; intro w hw) | (refine go_newS ?_; clear hw; intro s w hw))
  refine go_if (fun h0 => ?_) (fun h0 => ?_)
  · repeat (first | refine go_run ?_ | (refine go_newP ?_; clear hw; intro p w hw) | (refine go_newW ?_; clear hw; intro w hw) | (refine go_newS ?_; clear hw; intro s w hw))
    refine res_one (v := .bool false) rfl rfl ⟨⟨false, rfl, iffF fun h => ?_⟩, hw⟩
    exact absurd (by have := h.1; omega) h0
  · repeat (first | refine go_run ?_ | (refine go_newP ?_; clear hw; intro p w hw) | (refine go_newW ?_; clear hw; intro w hw) | (refine go_newS ?_; clear hw; intro s w hw))
    refine vc_loop [4, 5, 6, 14, 15, 16, 17, 18, 19, 20, 21, 22, 23, 24, 25, 26, 27, 28, 29] (G := Nat) (fun k => [(14, .int .i64 k)]) (fun k w => k ≤ s.length ∧ (∀ i, i < k → 0 ≤ s.getD i tInt.dflt ∧ s.getD i tInt.dflt < vars.getD i tInt.dflt) ∧ Sat w0 w []) (fun k => s.length - k) 0 (fun _ => rfl) ⟨rfl, trivial⟩ ⟨Nat.zero_le _, fun i hi => absurd hi (Nat.not_lt_zero _), hw⟩ ?_
    clear hw
    rintro σ k w ⟨hk, hpre, hw⟩
    repeat (first | refine go_run ?_ | (refine go_newP ?_; clear hw; intro p w hw) | (refine go_newW ?_; clear hw; intro w hw) | (refine go_newS ?_; clear hw; intro s w hw))
    refine go_if (fun h1 => ?_) (fun h1 => ?_)
    · repeat (first | refine go_run ?_ | (refine go_newP ?_; clear hw; intro p w hw) | (refine go_newW ?_; clear hw; intro w hw) | (refine go_newS ?_; clear hw; intro s w hw))
      refine go_if (fun h2 => ?_) (fun h2 => ?_)
      · repeat (first | refine go_run ?_ | (refine go_newP ?_; clear hw; intro p w hw) | (refine go_newW ?_; clear hw; intro w hw) | (refine go_newS ?_; clear hw; intro s w hw))
        refine res_one (v := .bool false) rfl rfl ⟨⟨false, rfl, iffF fun h => ?_⟩, hw⟩
        have := h.2 k (by omega)
        omega
      · repeat (first | refine go_run ?_ | (refine go_newP ?_; clear hw; intro p w hw) | (refine go_newW ?_; clear hw; intro w hw) | (refine go_newS ?_; clear hw; intro s w hw))
        refine ⟨k + 1, ⟨rfl, trivial⟩, by repeat (first | exact agree_refl | (apply agree_upd rfl) | (apply agree_mix rfl) | (apply agree_sets rfl)), ⟨by omega, fun i hi => ?_, hw⟩, by omega⟩
        by_cases h : i = k
        · subst h; omega
        · exact hpre i (by omega)
    · repeat (first | refine go_run ?_ | (refine go_newP ?_; clear hw; intro p w hw) | (refine go_newW ?_; clear hw; intro w hw) | (refine go_newS ?_; clear hw; intro s w hw))
      exact res_one (v := .bool true) rfl rfl ⟨⟨true, rfl, iffT ⟨by omega, fun i hi => hpre i (by omega)⟩⟩, hw⟩

set_option maxRecDepth 8000 in
set_option maxHeartbeats 1000000 in
theorem tFacts_spec {w0 : World} {a b : Value} {vars : List Int} {f : List Fact} (ha : RS tInt w0 a vars) (hb : RS tFact w0 b f) :
    Calls Try.prog 41 #[a, b] w0 fun e w' => (∃ r, e = .returned (.bool r) ∧ (r = true ↔ FactsOk vars f)) ∧ Sat w0 w' [] := by
  have hla := ha.big
  have hlb := hb.big
  have hw := Sat.start w0
  refine calls_of_vc (args := [a, b]) mixed Try.func41 rfl (by kernel_rfl) (Nat.le_of_ble_eq_true rfl) ?_
  repeat (first | refine go_run ?_ | (refine go_newP ?_; clear hw; intro p w hw) | (refine go_newW ?_; clear hw; intro w hw) | (refine go_newS ?_; clear hw; intro s w hw))
  refine vc_loop2 [4, 5, 7, 10, 11, 12, 13, 14, 15, 16, 17, 18, 19, 20, 21, 22, 23, 24, 25, 26, 27, 28, 29, 30, 31, 32, 33, 34, 35, 36, 37, 38, 39, 40, 41, 42] (G := Nat) (H := Int) (fun k l => [(10, .int .i64 k), (5, .int .i64 l)]) (fun k l w => k ≤ f.length ∧ -1 ≤ l ∧ (l = if k = 0 then -1 else (f.getD (k - 1) tFact.dflt).var) ∧ (∀ i, i < k → FactOk vars (f.getD i tFact.dflt) ∧ (0 < i → (f.getD (i - 1) tFact.dflt).var < (f.getD i tFact.dflt).var)) ∧ Sat w0 w []) (fun k l => f.length - k) 0 (-1) (fun _ _ => rfl) ⟨rfl, rfl, trivial⟩ ⟨Nat.zero_le _, by omega, rfl, fun i hi => absurd hi (Nat.not_lt_zero _), hw⟩ ?_
  clear hw
  rintro σ k l w ⟨hk, hl1, hl2, hpre, hw⟩
  repeat (first | refine go_run ?_ | (refine go_newP ?_; clear hw; intro p w hw) | (refine go_newW ?_; clear hw; intro w hw) | (refine go_newS ?_; clear hw; intro s w hw))
  refine go_if (fun h1 => ?_) (fun h1 => ?_)
  · repeat (first | refine go_run ?_ | (refine go_newP ?_; clear hw; intro p w hw) | (refine go_newW ?_; clear hw; intro w hw) | (refine go_newS ?_; clear hw; intro s w hw))
    refine go_if (fun h2 => ?_) (fun h2 => ?_)
    · repeat (first | refine go_run ?_ | (refine go_newP ?_; clear hw; intro p w hw) | (refine go_newW ?_; clear hw; intro w hw) | (refine go_newS ?_; clear hw; intro s w hw))
      refine res_one (v := .bool false) rfl rfl ⟨⟨false, rfl, iffF fun h => ?_⟩, hw.tail⟩
      have := h k (by omega)
      unfold FactOk at this
      split at hl2 <;> omega
    · repeat (first | refine go_run ?_ | (refine go_newP ?_; clear hw; intro p w hw) | (refine go_newW ?_; clear hw; intro w hw) | (refine go_newS ?_; clear hw; intro s w hw))
      refine ⟨k + 1, _, ⟨rfl, rfl, trivial⟩, by repeat (first | exact agree_refl | (apply agree_upd rfl) | (apply agree_mix rfl) | (apply agree_sets rfl)), ⟨by omega, by omega, by simp, fun i hi => ?_, hw.tail⟩, by omega⟩
      by_cases h : i = k
      · subst h
        unfold FactOk
        split at hl2 <;> omega
      · exact hpre i (by omega)
  · repeat (first | refine go_run ?_ | (refine go_newP ?_; clear hw; intro p w hw) | (refine go_newW ?_; clear hw; intro w hw) | (refine go_newS ?_; clear hw; intro s w hw))
    exact res_one (v := .bool true) rfl rfl ⟨⟨true, rfl, iffT fun i hi => hpre i (by omega)⟩, hw⟩

set_option maxRecDepth 8000 in
set_option maxHeartbeats 1000000 in
theorem tHolds_spec {w0 : World} {a b : Value} {f : List Fact} {s : List Int} (ha : RS tFact w0 a f) (hb : RS tInt w0 b s) :
    Calls Try.prog 55 #[a, b] w0 fun e w' => (∃ r, e = .returned (.bool r) ∧ (r = true ↔ HoldFs s f)) ∧ Sat w0 w' [] := by
  have hla := ha.big
  have hlb := hb.big
  have hw := Sat.start w0
  refine calls_of_vc (args := [a, b]) mixed Try.func55 rfl (by kernel_rfl) (Nat.le_of_ble_eq_true rfl) ?_
  repeat (first | refine go_run ?_ | (refine go_newP ?_; clear hw; intro p w hw) | (refine go_newW ?_; clear hw; intro w hw) | (refine go_newS ?_; clear hw; intro s w hw))
  refine vc_loop [4, 6, 9, 10, 11, 12, 13, 14, 15, 16, 17, 18, 19, 20, 21, 22, 23, 24, 25, 26, 27, 28, 29, 30, 31, 32, 33] (G := Nat) (fun k => [(9, .int .i64 k)]) (fun k w => k ≤ f.length ∧ (∀ i, i < k → HoldF s (f.getD i tFact.dflt)) ∧ Sat w0 w []) (fun k => f.length - k) 0 (fun _ => rfl) ⟨rfl, trivial⟩ ⟨Nat.zero_le _, fun i hi => absurd hi (Nat.not_lt_zero _), hw⟩ ?_
  clear hw
  rintro σ k w ⟨hk, hpre, hw⟩
  repeat (first | refine go_run ?_ | (refine go_newP ?_; clear hw; intro p w hw) | (refine go_newW ?_; clear hw; intro w hw) | (refine go_newS ?_; clear hw; intro s w hw))
  refine go_if (fun h1 => ?_) (fun h1 => ?_)
  · repeat (first | refine go_run ?_ | (refine go_newP ?_; clear hw; intro p w hw) | (refine go_newW ?_; clear hw; intro w hw) | (refine go_newS ?_; clear hw; intro s w hw))
    refine go_if (fun h2 => ?_) (fun h2 => ?_)
    · repeat (first | refine go_run ?_ | (refine go_newP ?_; clear hw; intro p w hw) | (refine go_newW ?_; clear hw; intro w hw) | (refine go_newS ?_; clear hw; intro s w hw))
      refine res_one (v := .bool false) rfl rfl ⟨⟨false, rfl, iffF fun h => ?_⟩, hw.tail⟩
      have := h k (by omega)
      unfold HoldF at this
      omega
    · repeat (first | refine go_run ?_ | (refine go_newP ?_; clear hw; intro p w hw) | (refine go_newW ?_; clear hw; intro w hw) | (refine go_newS ?_; clear hw; intro s w hw))
      refine ⟨k + 1, ⟨rfl, trivial⟩, by repeat (first | exact agree_refl | (apply agree_upd rfl) | (apply agree_mix rfl) | (apply agree_sets rfl)), ⟨by omega, fun i hi => ?_, hw.tail⟩, by omega⟩
      by_cases h : i = k
      · subst h; unfold HoldF; omega
      · exact hpre i (by omega)
  · repeat (first | refine go_run ?_ | (refine go_newP ?_; clear hw; intro p w hw) | (refine go_newW ?_; clear hw; intro w hw) | (refine go_newS ?_; clear hw; intro s w hw))
    exact res_one (v := .bool true) rfl rfl ⟨⟨true, rfl, iffT fun i hi => hpre i (by omega)⟩, hw⟩

set_option maxRecDepth 8000 in
set_option maxHeartbeats 1000000 in
theorem Holds_spec {w0 : World} {a b : Value} {f : List Fact} {s : List Int} (ha : RS tFact w0 a f) (hb : RS tInt w0 b s) :
    Calls Try.prog 53 #[a, b] w0 fun e w' => (∃ r, e = .returned (.bool r) ∧ (r = true ↔ HoldFs s f)) ∧ Sat w0 w' [] := by
  have hla := ha.big
  have hlb := hb.big
  have hw := Sat.start w0
  refine calls_of_vc (args := [a, b]) mixed Try.func53 rfl (by kernel_rfl) (Nat.le_of_ble_eq_true rfl) ?_
  repeat (first | refine go_run ?_ | (refine go_newP ?_; clear hw; intro p w hw) | (refine go_newW ?_; clear hw; intro w hw) | (refine go_newS ?_; clear hw; intro s w hw))
  refine vc_loop [4, 6, 9, 10, 11, 12, 13, 14, 15, 16, 17, 18, 19, 20, 21, 22, 23, 24, 25, 26, 27, 28, 29, 30, 31, 32, 33] (G := Nat) (fun k => [(9, .int .i64 k)]) (fun k w => k ≤ f.length ∧ (∀ i, i < k → HoldF s (f.getD i tFact.dflt)) ∧ Sat w0 w []) (fun k => f.length - k) 0 (fun _ => rfl) ⟨rfl, trivial⟩ ⟨Nat.zero_le _, fun i hi => absurd hi (Nat.not_lt_zero _), hw⟩ ?_
  clear hw
  rintro σ k w ⟨hk, hpre, hw⟩
  repeat (first | refine go_run ?_ | (refine go_newP ?_; clear hw; intro p w hw) | (refine go_newW ?_; clear hw; intro w hw) | (refine go_newS ?_; clear hw; intro s w hw))
  refine go_if (fun h1 => ?_) (fun h1 => ?_)
  · repeat (first | refine go_run ?_ | (refine go_newP ?_; clear hw; intro p w hw) | (refine go_newW ?_; clear hw; intro w hw) | (refine go_newS ?_; clear hw; intro s w hw))
    refine go_if (fun h2 => ?_) (fun h2 => ?_)
    · repeat (first | refine go_run ?_ | (refine go_newP ?_; clear hw; intro p w hw) | (refine go_newW ?_; clear hw; intro w hw) | (refine go_newS ?_; clear hw; intro s w hw))
      refine res_one (v := .bool false) rfl rfl ⟨⟨false, rfl, iffF fun h => ?_⟩, hw.tail⟩
      have := h k (by omega)
      unfold HoldF at this
      omega
    · repeat (first | refine go_run ?_ | (refine go_newP ?_; clear hw; intro p w hw) | (refine go_newW ?_; clear hw; intro w hw) | (refine go_newS ?_; clear hw; intro s w hw))
      refine ⟨k + 1, ⟨rfl, trivial⟩, by repeat (first | exact agree_refl | (apply agree_upd rfl) | (apply agree_mix rfl) | (apply agree_sets rfl)), ⟨by omega, fun i hi => ?_, hw.tail⟩, by omega⟩
      by_cases h : i = k
      · subst h; unfold HoldF; omega
      · exact hpre i (by omega)
  · repeat (first | refine go_run ?_ | (refine go_newP ?_; clear hw; intro p w hw) | (refine go_newW ?_; clear hw; intro w hw) | (refine go_newS ?_; clear hw; intro s w hw))
    exact res_one (v := .bool true) rfl rfl ⟨⟨true, rfl, iffT fun i hi => hpre i (by omega)⟩, hw⟩

set_option maxRecDepth 8000 in
theorem named_spec {w0 : World} {b : ByteArray} (hb : b.size ≤ 9223372036854775807) :
    Calls Try.prog 42 #[.string b] w0 fun e w' => (∃ r, e = .returned (.bool r) ∧ (r = true ↔ NameOk b)) ∧ Sat w0 w' [] := by
  have hw := Sat.start w0
  refine calls_of_vc (args := [.string b]) mixed Try.func42 rfl (by kernel_rfl) (Nat.le_of_ble_eq_true rfl) ?_
  repeat (first | refine go_run ?_ | (refine go_newP ?_; clear hw; intro p w hw) | (refine go_newW ?_; clear hw; intro w hw) | (refine go_newS ?_; clear hw; intro s w hw))
  refine vc_loop [2, 3, 6, 7, 8, 9, 10, 11, 12, 13, 14, 15, 16, 17, 18, 19] (G := Nat) (fun k => [(6, .int .i64 k)]) (fun k w => k ≤ b.size ∧ (∀ i, i < k → 32 ≤ bat b i ∧ bat b i ≤ 126) ∧ Sat w0 w []) (fun k => b.size - k) 0 (fun _ => rfl) ⟨rfl, trivial⟩ ⟨Nat.zero_le _, fun i hi => absurd hi (Nat.not_lt_zero _), hw⟩ ?_
  clear hw
  rintro σ k w ⟨hk, hpre, hw⟩
  repeat (first | refine go_run ?_ | (refine go_newP ?_; clear hw; intro p w hw) | (refine go_newW ?_; clear hw; intro w hw) | (refine go_newS ?_; clear hw; intro s w hw))
  refine go_if (fun h1 => ?_) (fun h1 => ?_)
  · repeat (first | refine go_run ?_ | (refine go_newP ?_; clear hw; intro p w hw) | (refine go_newW ?_; clear hw; intro w hw) | (refine go_newS ?_; clear hw; intro s w hw))
    refine go_if (fun h2 => ?_) (fun h2 => ?_)
    · repeat (first | refine go_run ?_ | (refine go_newP ?_; clear hw; intro p w hw) | (refine go_newW ?_; clear hw; intro w hw) | (refine go_newS ?_; clear hw; intro s w hw))
      refine res_one (v := .bool false) rfl rfl ⟨⟨false, rfl, iffF fun h => ?_⟩, hw⟩
      have := h.2 k (by omega)
      omega
    · repeat (first | refine go_run ?_ | (refine go_newP ?_; clear hw; intro p w hw) | (refine go_newW ?_; clear hw; intro w hw) | (refine go_newS ?_; clear hw; intro s w hw))
      refine ⟨k + 1, ⟨rfl, trivial⟩, by repeat (first | exact agree_refl | (apply agree_upd rfl) | (apply agree_mix rfl) | (apply agree_sets rfl)), ⟨by omega, fun i hi => ?_, hw⟩, by omega⟩
      by_cases h : i = k
      · subst h; omega
      · exact hpre i (by omega)
  · repeat (first | refine go_run ?_ | (refine go_newP ?_; clear hw; intro p w hw) | (refine go_newW ?_; clear hw; intro w hw) | (refine go_newS ?_; clear hw; intro s w hw))
    refine res_one (v := .bool (decide ((b.size : Int) ≤ 256))) rfl rfl ⟨⟨_, rfl, ?_⟩, hw⟩
    rw [decide_eq_true_eq]
    exact ⟨fun h => ⟨by omega, fun i hi => hpre i (by omega)⟩, fun h => by have := h.1; omega⟩
end Go.Proofs.Ytgbijampdkahjaa
