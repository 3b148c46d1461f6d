
/-
  Tasks of independent goals, one variable after the other.
-/
import Derived.Test.YtemnlcnjpjdoaaaGreatDoorTPick
import Derived.Test.YtemnlcnjpjdoaaaGreatDoorWSyst2
set_option linter.unusedSimpArgs false
set_option linter.unusedVariables false
namespace Go.Proofs.YtemnlcnjpjdoaaaGreatDoor
open Go.Sl Go
/-- The task of 'n' independent goals. -/
def indT (n : Nat) (cost : Nat → Int) (pre : Nat → List Fact) : TTask := ⟨List.replicate n 2, List.replicate n 0, (List.range n).map fun (v : Nat) => ⟨(v : Int), 1⟩, (List.range n).map fun (v : Nat) => ⟨ByteArray.empty, cost v, pre v, [⟨[], (v : Int), 1⟩]⟩⟩
theorem rmap_at {α : Type} {f : Nat → α} {n i : Nat} {d : α} (h : i < n) : ((List.range n).map f).getD i d = f i := by simp [List.getD, h]
theorem rep_at {α : Type} {x d : α} {n i : Nat} (h : i < n) : (List.replicate n x).getD i d = x := by simp [List.getD, h]
theorem facts_nil {vars : List Int} : FactsOk vars [] := fun i hi => absurd hi (Nat.not_lt_zero _)
theorem facts_one {vars : List Int} {x : Fact} (h : FactOk vars x) : FactsOk vars [x] := fun i hi => by
  have : i = 0 := by simpa using hi
  subst this
  exact ⟨h, fun h => absurd h (Nat.lt_irrefl 0)⟩
section
variable {n : Nat} {cost : Nat → Int} {pre : Nat → List Fact}
theorem indT_vars : (indT n cost pre).vars.length = n := by simp [indT]
theorem indT_opl : (indT n cost pre).ops.length = n := by simp [indT]
theorem indT_op {v : Nat} (h : v < n) : (indT n cost pre).ops.getD v dOp = ⟨ByteArray.empty, cost v, pre v, [⟨[], (v : Int), 1⟩]⟩ := rmap_at h
theorem indT_fact {v : Nat} (h : v < n) {x : Int} (hx : x = 0 ∨ x = 1) : FactOk (indT n cost pre).vars ⟨(v : Int), x⟩ := by
  have e : (indT n cost pre).vars.getD v tInt.dflt = 2 := rep_at h
  refine ⟨by simp only; omega, by simp only [indT_vars]; omega, by simp only; omega, ?_⟩
  simp only [Int.toNat_natCast]
  rw [e]; omega
theorem indT_ok (hn : n ≤ 32) (hc : ∀ v, v < n → 0 ≤ cost v ∧ cost v ≤ 1048576) (hp : ∀ v, v < n → pre v = [] ∨ pre v = [⟨(v : Int), 0⟩]) : Ind (indT n cost pre) where
  good :=
    { vars := by rw [indT_vars]; omega
      ops := by rw [indT_opl]; omega
      dom := fun i hi => by
        have e : (indT n cost pre).vars.getD i tInt.dflt = 2 := rep_at (by rw [indT_vars] at hi; exact hi)
        omega
      init := ⟨by simp [indT], fun i hi => by
        have hi' : i < n := by simpa [indT] using hi
        have e : (indT n cost pre).vars.getD i tInt.dflt = 2 := rep_at hi'
        have e2 : (indT n cost pre).init.getD i tInt.dflt = 0 := rep_at hi'
        omega⟩
      goal := fun i hi => by
        have hi' : i < n := by simpa [indT] using hi
        have e : (indT n cost pre).goal.getD i tFact.dflt = ⟨(i : Int), 1⟩ := rmap_at hi'
        refine ⟨by rw [e]; exact indT_fact hi' (.inr rfl), fun h0 => ?_⟩
        have e2 : (indT n cost pre).goal.getD (i - 1) tFact.dflt = ⟨((i - 1 : Nat) : Int), 1⟩ := rmap_at (by omega)
        rw [e, e2]
        simp only
        omega
      op := fun i hi => by
        have hi' : i < n := by rw [indT_opl] at hi; exact hi
        rw [indT_op hi']
        refine ⟨(hc i hi').1, (hc i hi').2, by simp, ⟨Nat.le_of_ble_eq_true rfl, fun j hj => absurd hj (Nat.not_lt_zero _)⟩, ?_, fun j hj => ?_⟩
        · rcases hp i hi' with e | e
          · simp only [e]; exact facts_nil
          · simp only [e]; exact facts_one (indT_fact hi' (.inl rfl))
        · have : j = 0 := by simpa using hj
          subst this
          exact ⟨facts_nil, facts_one (indT_fact hi' (.inr rfl))⟩ }
  bit := fun v hv => rep_at (by rw [indT_vars] at hv; exact hv)
  len := by rw [indT_opl, indT_vars]
  effs := fun v hv => by rw [indT_op (by rw [indT_opl] at hv; exact hv)]
  pre := fun v hv f hf => by
    have hv' : v < n := by rw [indT_opl] at hv; exact hv
    rw [indT_op hv'] at hf
    simp only at hf
    rcases hp v hv' with e | e
    · rw [e] at hf; simp at hf
    · rw [e, List.mem_singleton] at hf; subst hf; exact ⟨rfl, rfl⟩
  goal := fun f => by
    rw [indT_vars]
    simp only [indT, List.mem_map, List.mem_range]
    exact ⟨fun ⟨v, hv, e⟩ => ⟨v, hv, e.symm⟩, fun ⟨v, hv, e⟩ => ⟨v, hv, e.symm⟩⟩
theorem indT_small (hI : Ind (indT n cost pre)) (hn : n ≤ 6) : SmallT (indT n cost pre) where
  good := hI.good
  vars := by rw [indT_vars]; omega
  ops := by rw [indT_opl]; omega
  effs := fun i hi => by
    rw [indT_op (by rw [indT_opl] at hi; exact hi)]
    simp
  many := by
    show prodL (List.replicate n 2) ≤ 512
    have : n = 0 ∨ n = 1 ∨ n = 2 ∨ n = 3 ∨ n = 4 ∨ n = 5 ∨ n = 6 := by omega
    rcases this with rfl | rfl | rfl | rfl | rfl | rfl | rfl <;> decide
theorem indT_pats (hI : Ind (indT n cost pre)) (hn : n ≤ 6) : PatsOk (indT n cost pre) (singles n) where
  small := indT_small hI hn
  len := by rw [singles_len]; omega
  inv := fun i hi => by
    have := hI.inV (k := i)
    rw [indT_vars] at this
    exact this hi
  cnt := fun i hi => by
    have := hI.cnt (k := i)
    rw [indT_vars] at this
    rw [this hi]; decide
  full := fun _ => few_not_full (by rw [singles_len]; omega)
theorem indT_sys (hI : Ind (indT n cost pre)) (size : Int) : sysL (indT n cost pre) (clip3 size) = singles n := by
  have h := clip3_rng size
  rw [hI.sys h.1 h.2, indT_vars]
theorem indT_val (hI : Ind (indT n cost pre)) {Ds Cs : List (List Int)} (hC : CanOk (indT n cost pre) (singles n) Ds Cs) {s : List Int} (hs : StateOk (indT n cost pre).vars s) : canV (indT n cost pre) (singles n) Ds Cs s = sumV (fun (v : Nat) => if sg s (v : Int) = 0 then cost v else 0) n := by
  obtain ⟨Cs', h1, h2⟩ := hC.can
  rw [h2]
  have h3 := fun h => hI.can (Ds := Ds) (Cs := Cs') (N := nbA (singles n).length (arcP (indT n cost pre) (singles n) (singles n).length)) h hs
  rw [indT_vars] at h3
  rw [h3 h1]
  exact sumV_congr fun k hk => by
    have e : (costsT (indT n cost pre)).getD k tInt.dflt = cost k := by
      have hk2 : k < (indT n cost pre).ops.length := by rw [indT_opl]; exact hk
      rw [costsT_at hk2, indT_op hk]
    rw [e]
theorem indT_succ_vars : (indT (n + 1) cost pre).vars = (indT n cost pre).vars ++ [2] := List.replicate_succ'
theorem indT_succ_init : (indT (n + 1) cost pre).init = (indT n cost pre).init ++ [0] := List.replicate_succ'
theorem indT_succ_goal : (indT (n + 1) cost pre).goal = (indT n cost pre).goal ++ [⟨(n : Int), 1⟩] := by simp [indT, List.range_succ]
theorem indT_succ_ops : (indT (n + 1) cost pre).ops = (indT n cost pre).ops ++ [⟨ByteArray.empty, cost n, pre n, [⟨[], (n : Int), 1⟩]⟩] := by simp [indT, List.range_succ]
end
end Go.Proofs.YtemnlcnjpjdoaaaGreatDoor
