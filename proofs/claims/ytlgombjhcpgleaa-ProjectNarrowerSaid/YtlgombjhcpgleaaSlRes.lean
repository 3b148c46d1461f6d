/-
  Results that lie in memory.
-/
import Derived.Test.YtlgombjhcpgleaaSlGo
namespace Go.Sl
section
variable {P : Program} {ρ : Fr} {w : World}
theorem run_resCell {p : Addr} {n ty : Nat} {vs : List Value} [A : AggT P ty n] (hn : vs.length = n) (hc : ∀ j v, vs[j]? = some v → w.cell? (p.add j) = some v) : (loadVar ty p).run P w = .ok (.agg vs.toArray) w := by
  subst hn
  have := run_loadCells_list (P := P) (w := w) p vs hc
  simp [loadVar, A.agg.1, A.agg.2, this]
theorem res_cellTmp {fn : Func} {R : Value → World → Prop} {s s' ty n : Nat} {p : Addr} {vs : List Value} {v' : Value} [A : AggT P ty n] (hr : fn.results = #[.cell s ty, .tmp s']) (hv : ρ s = .pointer (some p)) (hv' : ρ s' = v') (hn : vs.length = n) (hc : ∀ j v, vs[j]? = some v → w.cell? (p.add j) = some v)
    (h : R (.tuple #[.agg vs.toArray, v']) w) : postV P fn R .ret ρ w :=
  ⟨.tuple #[.agg vs.toArray, v'], fun a ha => by
    have h1 : a.tmps.getD s undef = .pointer (some p) := by rw [← hv, ← ha]; rfl
    have h2 : a.tmps.getD s' undef = v' := by rw [← hv', ← ha]; rfl
    have h3 := run_resCell (P := P) (A := A) hn hc
    simp only [results, hr, List.mapM_toArray, List.mapM_cons, List.mapM_nil, h1, h2, bind_pure_comp, map_pure]
    simp [asAddr, h3], h⟩
end
end Go.Sl
