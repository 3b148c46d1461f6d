
/-
  The reference's maximal additive sets, in plain Lean: sets of bits in ascending order, each list put at its place.
-/
import Derived.Test.YtemnlcnjpjdoaaaGreatDoorTCanon
import Derived.Test.YtemnlcnjpjdoaaaGreatDoorTPat
set_option linter.unusedSimpArgs false
set_option linter.unusedVariables false
namespace Go.Proofs.YtemnlcnjpjdoaaaGreatDoor
open Go.Sl Go
theorem CliqM.lt {n : Nat} {N : Nat → Nat} {C : Nat} (h : CliqM n N C) : C < 2 ^ n := lt_of_bits h.bd
theorem MaxC.lt {n : Nat} {N : Nat → Nat} {C : Nat} (h : MaxC n N C) : C < 2 ^ n := lt_of_bits h.bd
/-- The graph of additive patterns. -/
structure AddG (t : TTask) (Ls : List (List Int)) (N : Nat → Nat) : Prop where
  gr : Gr Ls.length N
  add : ∀ u v, u < Ls.length → v < Ls.length → (ib (N u) v ↔ u ≠ v ∧ addT t (Ls.getD u []) (Ls.getD v []))
theorem addG (t : TTask) (Ls : List (List Int)) : AddG t Ls (nbA Ls.length (arcP t Ls Ls.length)) :=
  ⟨nbA_gr arcP_ok, fun u v hu hv => by rw [nbA_bit arcP_ok, arcP_adj hu hv]⟩
/-- The greatest cliques among the first sets. -/
def CliqK (n : Nat) (N : Nat → Nat) (k : Nat) (Cs : List (List Int)) : Prop := ∀ l, l ∈ Cs ↔ ∃ C, C < k ∧ MaxC n N C ∧ l = bitsK C n
theorem CliqK.zero {n : Nat} {N : Nat → Nat} : CliqK n N 0 [] := fun l => ⟨fun h => by simp at h, fun ⟨C, h, _⟩ => absurd h (Nat.not_lt_zero _)⟩
theorem CliqK.fin {n : Nat} {N : Nat → Nat} {Cs : List (List Int)} (h : CliqK n N (2 ^ n) Cs) : CliqL n N Cs := fun l => by
  rw [h]
  exact ⟨fun ⟨C, _, hh⟩ => ⟨C, hh⟩, fun ⟨C, h1, h2⟩ => ⟨C, h1.lt, h1, h2⟩⟩
theorem CliqK.new {n : Nat} {N : Nat → Nat} {k : Nat} {Cs : List (List Int)} (h : CliqK n N k Cs) (hm : MaxC n N k) : bitsK k n ∉ Cs := fun hh => by
  obtain ⟨C, h1, h2, h3⟩ := (h _).1 hh
  have := bitsK_inj hm.bd h2.bd h3
  omega
end Go.Proofs.YtemnlcnjpjdoaaaGreatDoor
