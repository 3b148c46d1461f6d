
/-
  Contract of reference 34's 'Greatest': values by variable.
-/
import Derived.Test.YtkmbenhffledpaaGreatWLr1
import Derived.Test.YtkmbenhffledpaaGreatMSlA
set_option linter.unusedSimpArgs false
set_option linter.unusedVariables false
namespace Go.Proofs.YtkmbenhffledpaaGreat
open Go.Sl Go
attribute [local irreducible] vc opsW opsD opV opW PureV ReadV Thn Blk
/-- Values of the facts, a row for each variable, as they are read. -/
def RVals (w : World) (vv : Value) (vars V : List Int) : Prop := ∃ rows : List Value, RS tVal w vv rows ∧ rows.length = vars.length ∧ ∀ v : Nat, v < vars.length → ∃ r, RS tInt w (vget rows v) r ∧ (r.length : Int) = vars.getD v tInt.dflt ∧ ∀ x : Nat, x < r.length → r.getD x tInt.dflt = dg V (firstV vars v + x)
theorem RVals.at {w0 w : World} {Γ : List HP} {vv : Value} {vars V : List Int} (h : RVals w0 vv vars V) (hw : Sat w0 w Γ) : RVals w vv vars V := by
  obtain ⟨rows, h1, h2, h3⟩ := h
  exact ⟨rows, h1.at hw, h2, fun v hv => by
    obtain ⟨r, k1, k2, k3⟩ := h3 v hv
    exact ⟨r, k1.at hw, k2, k3⟩⟩
set_option maxRecDepth 8000 in
set_option maxHeartbeats 4000000 in
theorem r34Greatest_spec {w0 : World} {vv fv : Value} {vars V : List Int} {l : List Fact} (hv : RVals w0 vv vars V) (hf : RS tFact w0 fv l) (hok : ∀ f ∈ l, FactOk vars f) :
    Calls Tryz.prog 13 #[vv, fv] w0 fun e w' => e = .returned (.int .i64 (maxG vars l V)) ∧ Sat w0 w' [] := by
  obtain ⟨rows, hrr, hrl, hrow⟩ := hv
  have hfb := hf.big
  have hw := Sat.start w0
  refine calls_of_vc (args := [vv, fv]) mixed Tryz.func13 rfl (by kernel_rfl) (Nat.le_of_ble_eq_true rfl) ?_
  repeat (first | refine go_run ?_ | (refine go_newP ?_; clear hw; intro p w hw) | (refine go_newW ?_; clear hw; intro w hw) | (refine go_newS ?_; clear hw; intro s w hw))
  refine vc_loop2 [5, 7, 10, 11, 12, 13, 14, 15, 16, 17, 18, 19, 20, 21, 22, 23, 24, 25] (G := Nat) (H := Int) (fun k m => [(10, .int .i64 k), (5, .int .i64 m)]) (fun k m w => k ≤ l.length ∧ m = maxG vars (l.take k) V ∧ Sat w0 w []) (fun k _ => l.length - k) 0 0 (fun _ _ => rfl) ⟨rfl, rfl, trivial⟩ ⟨Nat.zero_le _, rfl, hw⟩ ?_
  clear hw
  rintro σ k m w ⟨hk, hm, hw⟩
  repeat (first | refine go_run ?_ | (refine go_newP ?_; clear hw; intro p w hw) | (refine go_newW ?_; clear hw; intro w hw) | (refine go_newS ?_; clear hw; intro s w hw))
  refine go_if (fun h1 => ?_) (fun h1 => ?_)
  · have hkl : k < l.length := by omega
    obtain ⟨x0, x1, x2, x3⟩ := hok _ (mem_getD tFact.dflt hkl)
    have hvn : (l.getD k tFact.dflt).var.toNat < vars.length := by omega
    obtain ⟨r, r1, r2, r3⟩ := hrow _ hvn
    have hx := r3 (l.getD k tFact.dflt).val.toNat (by omega)
    rw [Int.toNat_of_nonneg x2] at hx
    have hsn : maxG vars (l.take (k + 1)) V = max m (r.getD (l.getD k tFact.dflt).val.toNat tInt.dflt) := by
      rw [take_snoc tFact.dflt hkl, maxG_snoc, ← hm, hx]; rfl
    repeat (first | refine go_run ?_ | (refine go_newP ?_; clear hw; intro p w hw) | (refine go_newWr ?_; clear hw; intro w hw) | (refine go_newS ?_; clear hw; intro s w hw))
    refine go_draw ?_
    clear hw
    intro w hw
    repeat (first | refine go_run ?_ | (refine go_newP ?_; clear hw; intro p w hw) | (refine go_newWr ?_; clear hw; intro w hw) | (refine go_newS ?_; clear hw; intro s w hw))
    refine ⟨k + 1, _, ⟨rfl, rfl, trivial⟩, by repeat (first | exact agree_refl | (apply agree_upd rfl) | (apply agree_mix rfl) | (apply agree_sets rfl)), ⟨by omega, ?_, hw.tail⟩, by omega⟩
    rw [hsn]
    split <;> omega
  have hke : k = l.length := by omega
  rw [hke, List.take_of_length_le (Nat.le_refl _)] at hm
  repeat (first | refine go_run ?_ | (refine go_newP ?_; clear hw; intro p w hw) | (refine go_newW ?_; clear hw; intro w hw) | (refine go_newS ?_; clear hw; intro s w hw))
  exact res_one (v := .int .i64 m) rfl rfl ⟨by rw [hm], hw⟩
end Go.Proofs.YtkmbenhffledpaaGreat
