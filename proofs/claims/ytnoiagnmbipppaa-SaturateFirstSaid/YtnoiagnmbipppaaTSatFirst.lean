
/-
  More patterns, fewer patterns.
-/
import Derived.Test.YtnoiagnmbipppaaTSatLaw
set_option linter.unusedSimpArgs false
set_option linter.unusedVariables false
namespace Go.Proofs.Ytnoiagnmbipppaa
open Go.Sl Go
theorem Run.init {t : TTask} {Ls : List (List Int)} {M : List Int} {c : List Int} {Ds Ps : List (List Int)} (h : Run t (Ls ++ [M]) c Ds Ps) : Run t Ls c (Ds.take Ls.length) (Ps.take Ls.length) := by
  have hdl := h.dl
  have hpl := h.pl
  simp only [List.length_append, List.length_cons, List.length_nil] at hdl hpl
  have hl : ∀ k, k ≤ Ls.length → leftK c (Ps.take Ls.length) k = leftK c Ps k := fun k hk => by
    unfold leftK; rw [List.take_take, Nat.min_eq_left hk]
  have ht : ∀ (X : List (List Int)) k, k < Ls.length → (X.take Ls.length).getD k [] = X.getD k [] := fun X k hk => by
    simp [List.getD_eq_getElem?_getD, List.getElem?_take, hk]
  refine ⟨by rw [List.length_take]; omega, by rw [List.length_take]; omega, fun k hk => ?_, fun k hk => ?_⟩
  · have := h.dist k (by simp; omega)
    rw [getD_app_l hk] at this
    rw [hl k (by omega), ht Ds k hk]; exact this
  · have := h.part k (by simp; omega)
    rw [getD_app_l hk] at this
    rw [ht Ds k hk, ht Ps k hk]; exact this
section
variable {t : TTask} {Ls Ds Ps : List (List Int)}
/-- One more pattern at the end: no value becomes less. -/
theorem SatC.more {M : List Int} {Ds' Ps' : List (List Int)} (h : SatC t Ls Ds Ps) (h' : SatC t (Ls ++ [M]) Ds' Ps') {s : List Int} (hs : StateOk t.vars s) : valPt t Ls Ds s ≤ valPt t (Ls ++ [M]) Ds' s := by
  obtain ⟨a1, a2, a3, a4⟩ := h.fin hs
  obtain ⟨b1, b2, b3, b4⟩ := h'.fin hs
  obtain ⟨e1, e2⟩ := h.run.unique h'.run.init
  have hl : (Ls ++ [M]).length = Ls.length + 1 := by simp
  have hk : ∀ k, k < Ls.length → valK t (Ls ++ [M]) Ds' s k = valK t Ls Ds s k := fun k hk => by
    unfold valK
    rw [getD_app_l hk, e1]
    have : (Ds'.take Ls.length).getD k [] = Ds'.getD k [] := by simp [List.getD_eq_getElem?_getD, List.getElem?_take, hk]
    rw [this]
  by_cases hf : valPt t (Ls ++ [M]) Ds' s < inf
  · have hb := b1.1 hf
    have ha : valPt t Ls Ds s < inf := a1.2 fun k hkl => by rw [← hk k hkl]; exact hb k (by omega)
    rw [a2 ha, b2 hf, hl, sumV_succ]
    have h1 := sumV_le (n := Ls.length) (f := valK t Ls Ds s) (g := valK t (Ls ++ [M]) Ds' s) fun k hkl => by rw [hk k hkl]; exact Int.le_refl _
    have h2 := (h'.rng hs (k := Ls.length) (by omega)).1
    omega
  · omega
/-- The first table alone. -/
theorem SatC.first (h : SatC t Ls Ds Ps) (h0 : 0 < Ls.length) {s : List Int} (hs : StateOk t.vars s) : valK t Ls Ds s 0 ≤ valPt t Ls Ds s := by
  obtain ⟨a1, a2, a3, a4⟩ := h.fin hs
  by_cases hf : valPt t Ls Ds s < inf
  · rw [a2 hf]
    have key : ∀ n, 0 < n → n ≤ Ls.length → valK t Ls Ds s 0 ≤ sumV (valK t Ls Ds s) n := by
      intro n
      induction n with
      | zero => intro h; omega
      | succ n ih =>
        intro _ hn
        rw [sumV_succ]
        have hr := (h.rng hs (k := n) (by omega)).1
        by_cases e : n = 0
        · subst e; rw [sumV_zero]; omega
        · have := ih (by omega) (by omega); omega
    exact key _ h0 (Nat.le_refl _)
  · have := (h.rng hs h0).2; omega
theorem SatC.one {L : List Int} (h : SatC t [L] Ds Ps) {s : List Int} (hs : StateOk t.vars s) : valPt t [L] Ds s = valK t [L] Ds s 0 := by
  obtain ⟨a1, a2, a3, a4⟩ := h.fin hs
  have hr := h.rng hs (k := 0) (by simp)
  by_cases hf : valPt t [L] Ds s < inf
  · rw [a2 hf]; show sumV _ 1 = _; rw [sumV_succ, sumV_zero]; omega
  · have : ¬ valK t [L] Ds s 0 < inf := fun h => hf (a1.2 fun k hk => by
      have : k = 0 := by simp at hk; omega
      subst this; exact h)
    omega
/-- The first table is the database's with the operators' own costs. -/
theorem SatC.table (h : SatC t Ls Ds Ps) (h0 : 0 < Ls.length) {D : List Int} (hD : DistOk (pEdges t (Ls.getD 0 [])) (costsT t) (GoalPK t (Ls.getD 0 [])) (cntL t.vars (Ls.getD 0 [])).toNat D) : Ds.getD 0 [] = D := (h.run.dist 0 h0).unique hD
end
end Go.Proofs.Ytnoiagnmbipppaa
