
/-
  Finite values of hmax are small, in plain Lean.
-/
import Derived.Test.YtkmbenhffledpaaGreatTAstC
import Derived.Test.YtkmbenhffledpaaGreatMTA
set_option linter.unusedSimpArgs false
set_option linter.unusedVariables false
namespace Go.Proofs.YtkmbenhffledpaaGreat
open Go.Sl
section
variable {t : TTask} {s out : List Int}
theorem hm_pred (hg : GoodT t) (hs : StateOk t.vars s) (h : IsHM t s out) {f v : Int} (hd : Der (unT t) (StF t.vars s) f v) : 0 ≤ f → f < factN t → v = dg out f → 0 < v → v < inf → ∃ g : Int, 0 ≤ g ∧ g < factN t ∧ dg out g < v ∧ v ≤ dg out g + 1048576 := by
  have hU := unT_ok hg
  induction hd with
  | start _ => intro _ _ _ h0; omega
  | @fire i vv m hi hm hn hle ih =>
    intro h0 h1 he hv hlt
    have hc := hU.cost i hi
    have hr := hU.needs i hi
    by_cases hex : ∃ n ∈ (un (unT t) i).needs, dg out n = m
    · obtain ⟨n, hnm, hne⟩ := hex
      have hrn := hr n hnm
      by_cases hc0 : (un (unT t) i).cost = 0
      · have h3 := h.low n (vv n) (hn n hnm) hrn.1 hrn.2
        have h4 := hle n hnm
        obtain ⟨g, g1, g2, g3, g4⟩ := ih n hnm hrn.1 hrn.2 (by omega) (by omega) (by omega)
        exact ⟨g, g1, g2, by omega, by omega⟩
      · exact ⟨n, hrn.1, hrn.2, by omega, by omega⟩
    · have hlt2 : ∀ n ∈ (un (unT t) i).needs, dg out n < m := fun n hnm => by
        have h3 := h.low n (vv n) (hn n hnm) (hr n hnm).1 (hr n hnm).2
        have h4 := hle n hnm
        have h5 : dg out n ≠ m := fun e => hex ⟨n, hnm, e⟩
        omega
      by_cases hm0 : 0 < m
      · have hd2 : Der (unT t) (StF t.vars s) (un (unT t) i).makes ((un (unT t) i).cost + (m - 1)) := .fire (v := fun n => dg out n) hi (by omega) (fun n hnm => h.der n (hr n hnm).1 (hr n hnm).2 (by have := hlt2 n hnm; omega)) (fun n hnm => by have := hlt2 n hnm; show dg out n ≤ m - 1; omega)
        have h3 := h.low _ _ hd2 h0 h1
        omega
      · have hvl : 0 < t.vars.length := by
          refine Nat.pos_of_ne_zero fun e => ?_
          have h5 := factN_eq hg
          rw [e] at h5
          have h6 : firstV t.vars 0 = 0 := firstV_zero _
          omega
        have hst : StF t.vars s (firstV t.vars 0 + s.getD 0 tInt.dflt) := ⟨0, hvl, rfl⟩
        have hsl := hs.1
        have hs0 := hs.2 0 (by omega)
        have hb := numF_bd hg.pos hvl hs0.1 hs0.2
        have h5 := factN_eq hg
        have h6 := h.low _ 0 (.start hst) hb.1 (by omega)
        have h7 := h.rng (firstV t.vars 0 + s.getD 0 tInt.dflt) hb.1 (by omega)
        exact ⟨_, hb.1, by omega, by omega, by omega⟩
def cntH (out : List Int) (N : Nat) (x : Int) : Nat := (List.range N).countP fun (g : Nat) => decide (dg out (g : Int) < x)
theorem hm_small (hg : GoodT t) (hs : StateOk t.vars s) (h : IsHM t s out) : ∀ (m : Nat) (f : Int), 0 ≤ f → f < factN t → dg out f < inf → cntH out (factN t) (dg out f) ≤ m → dg out f ≤ 1048576 * (m : Int) := by
  intro m
  induction m with
  | zero =>
    intro f h0 h1 hlt hc
    refine Int.not_lt.1 fun hp => ?_
    obtain ⟨g, g1, g2, g3, g4⟩ := hm_pred hg hs h (h.der f h0 h1 hlt) h0 h1 rfl (by omega) hlt
    have : 0 < cntH out (factN t) (dg out f) := List.countP_pos_iff.2 ⟨g.toNat, List.mem_range.2 (by omega), by rw [Int.toNat_of_nonneg g1]; exact decide_eq_true g3⟩
    omega
  | succ m ih =>
    intro f h0 h1 hlt hc
    by_cases hp : 0 < dg out f
    · obtain ⟨g, g1, g2, g3, g4⟩ := hm_pred hg hs h (h.der f h0 h1 hlt) h0 h1 rfl hp hlt
      have hcl : cntH out (factN t) (dg out g) < cntH out (factN t) (dg out f) := by
        refine countP_lt (fun x _ hx => ?_) ⟨g.toNat, List.mem_range.2 (by omega), by rw [Int.toNat_of_nonneg g1]; exact decide_eq_true g3, by rw [Int.toNat_of_nonneg g1]; exact decide_eq_false (Int.lt_irrefl _)⟩
        have := of_decide_eq_true hx
        exact decide_eq_true (by omega)
      have := ih g g1 g2 (by omega) (by omega)
      omega
    · omega
theorem cnt_le (out : List Int) (N : Nat) (x : Int) : cntH out N x ≤ N := by
  have h := List.countP_le_length (p := fun g : Nat => decide (dg out (g : Int) < x)) (l := List.range N)
  rw [List.length_range] at h; exact h
end
end Go.Proofs.YtkmbenhffledpaaGreat
