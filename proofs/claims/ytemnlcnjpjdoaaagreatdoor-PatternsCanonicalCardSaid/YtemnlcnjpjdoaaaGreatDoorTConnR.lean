
/-
  The references 'Connected' and 'Systematic', in plain Lean: what is seen from the first variable; lists that grow.
-/
import Derived.Test.YtemnlcnjpjdoaaaGreatDoorTSyst
set_option linter.unusedSimpArgs false
set_option linter.unusedVariables false
namespace Go.Proofs.YtemnlcnjpjdoaaaGreatDoor
open Go.Sl
/-- What is seen. -/
structure SeenK (t : TTask) (p : List Int) (seen : List Bool) (n : Nat) : Prop where
  len : seen.length = p.length
  zero : seen.getD 0 false = true
  cr : ∀ i, i < p.length → seen.getD i false = true → CR t p i
  cnt : n = seen.count true
theorem count_setT {l : List Bool} {i : Nat} (h : i < l.length) (hf : l.getD i false = false) : (l.set i true).count true = l.count true + 1 := by
  rw [List.count_set h]
  rw [getD_at h] at hf
  simp [hf]
theorem SeenK.start {t : TTask} {p : List Int} (h : 0 < p.length) : SeenK t p ((List.replicate p.length false).set 0 true) 1 := by
  have hr : ∀ i, (List.replicate p.length false).getD i false = false := fun i => by
    simp only [List.getD_eq_getElem?_getD, List.getElem?_replicate]
    split <;> rfl
  refine ⟨by simp, ?_, fun i hi hs => ?_, ?_⟩
  · rw [getD_setL, if_pos ⟨rfl, by simpa using h⟩]
  · rw [getD_setL] at hs
    split at hs
    · rename_i e; rw [← e.1]; exact .base
    · rw [hr] at hs; cases hs
  · rw [count_setT (by simpa using h) (hr 0)]
    simp [List.count_replicate]
theorem SeenK.add {t : TTask} {p : List Int} {seen : List Bool} {n : Nat} (h : SeenK t p seen n) {i j : Nat} (hi : i < p.length) (hj : j < p.length) (si : seen.getD i false = true) (sj : seen.getD j false = false) (hn : nearT t (p.getD i tInt.dflt) (p.getD j tInt.dflt)) : SeenK t p (seen.set j true) (n + 1) := by
  have hl := h.len
  refine ⟨by simp [hl], ?_, fun k hk hs => ?_, ?_⟩
  · rw [getD_setL]
    split
    · rfl
    · exact h.zero
  · rw [getD_setL] at hs
    split at hs
    · rename_i e; rw [← e.1]; exact .step (h.cr i hi si) hi hj hn
    · exact h.cr k hk hs
  · rw [count_setT (by omega) sj, h.cnt]
theorem SeenK.le {t : TTask} {p : List Int} {seen : List Bool} {n : Nat} (h : SeenK t p seen n) : n ≤ p.length := by
  rw [h.cnt, ← h.len]; exact List.count_le_length
/-- The pairs that were looked at. -/
def ClosK (t : TTask) (p : List Int) (seen : List Bool) (i j : Nat) : Prop := ∀ a b, a < p.length → b < p.length → (a < i ∨ (a = i ∧ b < j)) → seen.getD a false = true → nearT t (p.getD a tInt.dflt) (p.getD b tInt.dflt) → seen.getD b false = true
theorem ClosK.zero {t : TTask} {p : List Int} {seen : List Bool} : ClosK t p seen 0 0 := fun a b _ _ h => by omega
theorem ClosK.next {t : TTask} {p : List Int} {seen : List Bool} {i : Nat} (h : ClosK t p seen i p.length) : ClosK t p seen (i + 1) 0 := fun a b ha hb hh => h a b ha hb (by omega)
theorem ClosK.step {t : TTask} {p : List Int} {seen : List Bool} {i j : Nat} (h : ClosK t p seen i j) (hs : seen.getD i false = true → nearT t (p.getD i tInt.dflt) (p.getD j tInt.dflt) → seen.getD j false = true) : ClosK t p seen i (j + 1) := fun a b ha hb hh => by
  by_cases e : a = i ∧ b = j
  · obtain ⟨rfl, rfl⟩ := e; exact hs
  · exact h a b ha hb (by omega)
theorem SeenK.fin {t : TTask} {p : List Int} {seen : List Bool} {n : Nat} (h : SeenK t p seen n) (hp : 0 < p.length) (hc : ClosK t p seen p.length 0) : n = p.length ↔ connP t p := by
  have hl := h.len
  constructor
  · intro e i hi
    refine h.cr i hi ?_
    have h1 : seen.count true = seen.length := by rw [← h.cnt, e, hl]
    have h2 := List.count_eq_length.1 h1
    have := h2 (seen.getD i false) (mem_getD false (by omega))
    exact this.symm
  · intro hcp
    have key : ∀ j, CR t p j → j < p.length → seen.getD j false = true := by
      intro j hj
      induction hj with
      | base => exact fun _ => h.zero
      | @step i j _ hi hj hn ih => exact fun _ => hc i j hi hj (.inl hi) (ih hi) hn
    have h2 : seen.count true = seen.length := List.count_eq_length.2 fun b hb => by
      obtain ⟨i, hi, e⟩ := List.getElem_of_mem hb
      have := key i (hcp i (by omega)) (by omega)
      rw [getD_at hi, e] at this
      exact this.symm
    rw [h.cnt, h2, hl]
/-- A round of the closure. -/
structure RndK (t : TTask) (p : List Int) (n0 : Nat) (seen : List Bool) (n : Nat) (ch : Bool) (i j : Nat) : Prop where
  sk : SeenK t p seen n
  no : ch = false → n = n0 ∧ ClosK t p seen i j
  yes : ch = true → n0 < n
theorem RndK.start {t : TTask} {p : List Int} {seen : List Bool} {n : Nat} (h : SeenK t p seen n) : RndK t p n seen n false 0 0 := ⟨h, fun _ => ⟨rfl, .zero⟩, fun h => by cases h⟩
theorem RndK.next {t : TTask} {p : List Int} {n0 : Nat} {seen : List Bool} {n : Nat} {ch : Bool} {i : Nat} (h : RndK t p n0 seen n ch i p.length) : RndK t p n0 seen n ch (i + 1) 0 := ⟨h.sk, fun e => ⟨(h.no e).1, (h.no e).2.next⟩, h.yes⟩
theorem RndK.skip {t : TTask} {p : List Int} {n0 : Nat} {seen : List Bool} {n : Nat} {ch : Bool} {i j : Nat} (h : RndK t p n0 seen n ch i j) (hs : seen.getD i false = true → nearT t (p.getD i tInt.dflt) (p.getD j tInt.dflt) → seen.getD j false = true) : RndK t p n0 seen n ch i (j + 1) := ⟨h.sk, fun e => ⟨(h.no e).1, (h.no e).2.step hs⟩, h.yes⟩
theorem RndK.add {t : TTask} {p : List Int} {n0 : Nat} {seen : List Bool} {n : Nat} {ch : Bool} {i j : Nat} (h : RndK t p n0 seen n ch i j) (hi : i < p.length) (hj : j < p.length) (si : seen.getD i false = true) (sj : seen.getD j false = false) (hn : nearT t (p.getD i tInt.dflt) (p.getD j tInt.dflt)) : RndK t p n0 (seen.set j true) (n + 1) true i (j + 1) := ⟨h.sk.add hi hj si sj hn, fun e => (by cases e), fun _ => (by
    cases ch
    · have := (h.no rfl).1; omega
    · have := h.yes rfl; omega)⟩

/-! ### Lists that grow -/
end Go.Proofs.YtemnlcnjpjdoaaaGreatDoor
