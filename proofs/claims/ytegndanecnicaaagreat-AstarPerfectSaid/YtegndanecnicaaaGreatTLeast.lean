
/-
  The least cost of a plan is unique.
-/
import Derived.Test.YtegndanecnicaaaGreatTIda3
set_option linter.unusedSimpArgs false
set_option linter.unusedVariables false
namespace Go.Proofs.YtegndanecnicaaaGreat
open Go.Sl
theorem least_uniq {t : TTask} {s : List Int} {b b' : Int} (h : Least t s b) (h' : Least t s b') : b = b' := by
  have h1 := h.le
  have h2 := h'.le
  by_cases hb : b < inf
  · obtain ⟨p, hp⟩ := h.att hb
    obtain ⟨h3, h4⟩ := h'.low _ _ hp
    obtain ⟨q, hq⟩ := h'.att h4
    have h5 := (h.low _ _ hq).1
    omega
  · by_cases hb' : b' < inf
    · obtain ⟨p, hp⟩ := h'.att hb'
      have := (h.low _ _ hp).2
      omega
    · omega
end Go.Proofs.YtegndanecnicaaaGreat
