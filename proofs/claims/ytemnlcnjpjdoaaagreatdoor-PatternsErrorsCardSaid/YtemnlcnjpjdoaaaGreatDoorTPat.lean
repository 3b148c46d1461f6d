
/-
  The graph of additive patterns, in plain Lean.
-/
import Derived.Test.YtemnlcnjpjdoaaaGreatDoorTCanon
import Derived.Test.YtemnlcnjpjdoaaaGreatDoorMTA
set_option linter.unusedSimpArgs false
set_option linter.unusedVariables false
namespace Go.Proofs.YtemnlcnjpjdoaaaGreatDoor
open Go.Sl Go
open Classical in
/-- The arcs of pattern 'i' to the first 'k' patterns. -/
noncomputable def arcR (t : TTask) (Ls : List (List Int)) (i : Nat) : Nat → List Arc
  | 0 => []
  | k + 1 => arcR t Ls i k ++ if addT t (Ls.getD i []) (Ls.getD k []) then [⟨(k : Int), (i : Int), 1⟩] else []
noncomputable def arcP (t : TTask) (Ls : List (List Int)) : Nat → List Arc
  | 0 => []
  | i + 1 => arcP t Ls i ++ arcR t Ls i i
theorem arcP_succ {t : TTask} {Ls : List (List Int)} {i : Nat} : arcP t Ls i ++ arcR t Ls i i = arcP t Ls (i + 1) := rfl
theorem arcR_in {t : TTask} {Ls : List (List Int)} {i k : Nat} (h : addT t (Ls.getD i []) (Ls.getD k [])) : arcR t Ls i (k + 1) = arcR t Ls i k ++ [⟨(k : Int), (i : Int), 1⟩] := by rw [arcR, if_pos h]
theorem arcR_out {t : TTask} {Ls : List (List Int)} {i k : Nat} (h : ¬ addT t (Ls.getD i []) (Ls.getD k [])) : arcR t Ls i (k + 1) = arcR t Ls i k := by rw [arcR, if_neg h, List.append_nil]
theorem arcR_mem {t : TTask} {Ls : List (List Int)} {i : Nat} {a : Arc} : ∀ {k : Nat}, a ∈ arcR t Ls i k ↔ ∃ j, j < k ∧ addT t (Ls.getD i []) (Ls.getD j []) ∧ a = ⟨(j : Int), (i : Int), 1⟩
  | 0 => by simp [arcR]
  | k + 1 => by
    by_cases h : addT t (Ls.getD i []) (Ls.getD k [])
    · rw [arcR_in h, List.mem_append, arcR_mem, List.mem_singleton]
      constructor
      · rintro (⟨j, hj, hh⟩ | e)
        · exact ⟨j, by omega, hh⟩
        · exact ⟨k, by omega, h, e⟩
      · rintro ⟨j, hj, hh, e⟩
        by_cases hjk : j = k
        · subst hjk; exact .inr e
        · exact .inl ⟨j, by omega, hh, e⟩
    · rw [arcR_out h, arcR_mem]
      constructor
      · rintro ⟨j, hj, hh⟩
        exact ⟨j, by omega, hh⟩
      · rintro ⟨j, hj, hh, e⟩
        by_cases hjk : j = k
        · subst hjk; exact absurd hh h
        · exact ⟨j, by omega, hh, e⟩
theorem arcR_len {t : TTask} {Ls : List (List Int)} {i : Nat} : ∀ k, (arcR t Ls i k).length ≤ k
  | 0 => by simp [arcR]
  | k + 1 => by
    have := arcR_len (t := t) (Ls := Ls) (i := i) k
    by_cases h : addT t (Ls.getD i []) (Ls.getD k [])
    · rw [arcR_in h, List.length_append, List.length_singleton]; omega
    · rw [arcR_out h]; omega
theorem arcP_mem {t : TTask} {Ls : List (List Int)} {a : Arc} : ∀ {n : Nat}, a ∈ arcP t Ls n ↔ ∃ i j, i < n ∧ j < i ∧ addT t (Ls.getD i []) (Ls.getD j []) ∧ a = ⟨(j : Int), (i : Int), 1⟩
  | 0 => by simp [arcP]
  | n + 1 => by
    rw [arcP, List.mem_append, arcP_mem, arcR_mem]
    constructor
    · rintro (⟨i, j, hi, hh⟩ | ⟨j, hj, hh⟩)
      · exact ⟨i, j, by omega, hh⟩
      · exact ⟨n, j, by omega, hj, hh⟩
    · rintro ⟨i, j, hi, hj, hh⟩
      by_cases e : i = n
      · subst e; exact .inr ⟨j, hj, hh⟩
      · exact .inl ⟨i, j, by omega, hj, hh⟩
theorem arcP_len {t : TTask} {Ls : List (List Int)} : ∀ n, n ≤ 32 → (arcP t Ls n).length ≤ n * 32
  | 0, _ => by simp [arcP]
  | n + 1, hn => by
    have h1 := arcP_len (t := t) (Ls := Ls) n (by omega)
    have h2 := arcR_len (t := t) (Ls := Ls) (i := n) n
    rw [arcP, List.length_append]; omega
theorem arcP_ok {t : TTask} {Ls : List (List Int)} {n : Nat} : ∀ a ∈ arcP t Ls n, arcOk n a := fun a ha => by
  obtain ⟨i, j, hi, hj, _, rfl⟩ := arcP_mem.1 ha
  unfold arcOk
  simp only
  omega
theorem arcP_check {t : TTask} {Ls : List (List Int)} {n : Nat} (hn : n ≤ 32) : checkCode n (arcP t Ls n) = 0 := by
  have := arcP_len (t := t) (Ls := Ls) n hn
  exact checkCode_ok (by omega) (by omega) fun i hi => arcP_ok _ (mem_getD tArc.dflt hi)
theorem arcP_adj {t : TTask} {Ls : List (List Int)} {n u v : Nat} (hu : u < n) (hv : v < n) : AdjA (arcP t Ls n) u v ↔ u ≠ v ∧ addT t (Ls.getD u []) (Ls.getD v []) := by
  constructor
  · rintro ⟨hne, a, ha, hh⟩
    obtain ⟨i, j, hi, hj, hadd, rfl⟩ := arcP_mem.1 ha
    refine ⟨hne, ?_⟩
    simp only at hh
    rcases hh with ⟨h1, h2⟩ | ⟨h1, h2⟩
    · obtain rfl : j = u := by omega
      obtain rfl : i = v := by omega
      exact addT_symm hadd
    · obtain rfl : j = v := by omega
      obtain rfl : i = u := by omega
      exact hadd
  · rintro ⟨hne, hadd⟩
    refine ⟨hne, ?_⟩
    rcases Nat.lt_or_gt_of_ne hne with h | h
    · exact ⟨⟨(u : Int), (v : Int), 1⟩, arcP_mem.2 ⟨v, u, hv, h, addT_symm hadd, rfl⟩, .inl ⟨rfl, rfl⟩⟩
    · exact ⟨⟨(v : Int), (u : Int), 1⟩, arcP_mem.2 ⟨u, v, hu, h, hadd, rfl⟩, .inr ⟨rfl, rfl⟩⟩
end Go.Proofs.YtemnlcnjpjdoaaaGreatDoor
