
/-
  The canonical value of more patterns, and of patterns in another order, in plain Lean.
-/
import Derived.Test.YtemnlcnjpjdoaaaGreatDoorTCanon
set_option linter.unusedSimpArgs false
set_option linter.unusedVariables false
namespace Go.Proofs.YtemnlcnjpjdoaaaGreatDoor
open Go.Sl Go
theorem sumM_congr {f g : Nat → Int} {C D : Nat} : ∀ {n : Nat}, (∀ k, k < n → (ib C k ↔ ib D k) ∧ (ib C k → f k = g k)) → sumM f C n = sumM g D n
  | 0, _ => rfl
  | n + 1, h => by
    have ih := sumM_congr (n := n) fun k hk => h k (by omega)
    have hn := h n (by omega)
    by_cases hb : ib C n
    · rw [sumM_in hb, sumM_in (hn.1.1 hb), ih, hn.2 hb]
    · rw [sumM_out hb, sumM_out (fun hh => hb (hn.1.2 hh)), ih]
theorem sumM_or {f : Nat → Int} {C v : Nat} (hv : ¬ ib C v) : ∀ {n : Nat}, v < n → sumM f (C ||| 2 ^ v) n = sumM f C n + f v
  | 0, h => absurd h (Nat.not_lt_zero _)
  | n + 1, h => by
    by_cases e : v = n
    · subst e
      rw [sumM_in (ib_or.2 (.inr rfl)), sumM_out hv]
      congr 1
      refine sumM_congr fun k hk => ⟨?_, fun _ => rfl⟩
      rw [ib_or]
      exact ⟨fun hh => hh.elim id fun e => by omega, .inl⟩
    · have ih := sumM_or (f := f) hv (n := n) (by omega)
      by_cases hb : ib C n
      · rw [sumM_in (ib_or.2 (.inl hb)), sumM_in hb, ih]; omega
      · rw [sumM_out (fun hh => (ib_or.1 hh).elim hb fun e2 => e e2.symm), sumM_out hb, ih]
/-- The image of a set. -/
theorem sumM_image {f f' : Nat → Int} {C m : Nat} {φ : Nat → Nat} : ∀ {n : Nat}, (∀ k, k < n → φ k < m) → (∀ j k, j < n → k < n → φ j = φ k → j = k) → (∀ k, k < n → f' (φ k) = f k) →
    ∃ C', (∀ v, ib C' v ↔ ∃ k, k < n ∧ ib C k ∧ φ k = v) ∧ sumM f' C' m = sumM f C n
  | 0, _, _, _ => by
    refine ⟨0, fun v => ⟨fun h => by simp [ib] at h, fun ⟨k, hk, _⟩ => absurd hk (Nat.not_lt_zero _)⟩, ?_⟩
    have h1 : ∀ m, sumM f' 0 m = 0 := fun m => by
      induction m with
      | zero => rfl
      | succ m ih => rw [sumM_out (by simp [ib]), ih]
    rw [h1]; rfl
  | n + 1, hm, hi, hf => by
    obtain ⟨C', h1, h2⟩ := sumM_image (f := f) (f' := f') (C := C) (m := m) (φ := φ) (n := n) (fun k hk => hm k (by omega)) (fun j k hj hk => hi j k (by omega) (by omega)) fun k hk => hf k (by omega)
    by_cases hb : ib C n
    · have hno : ¬ ib C' (φ n) := fun hh => by
        obtain ⟨k, hk, _, e⟩ := (h1 _).1 hh
        have := hi k n (by omega) (by omega) e
        omega
      refine ⟨C' ||| 2 ^ φ n, fun v => ?_, ?_⟩
      · rw [ib_or, h1]
        constructor
        · rintro (⟨k, hk, hh⟩ | e)
          · exact ⟨k, by omega, hh⟩
          · exact ⟨n, by omega, hb, e.symm⟩
        · rintro ⟨k, hk, hh, e⟩
          by_cases e2 : k = n
          · subst e2; exact .inr e.symm
          · exact .inl ⟨k, by omega, hh, e⟩
      · rw [sumM_or hno (hm n (by omega)), sumM_in hb, h2, hf n (by omega)]
    · refine ⟨C', fun v => ?_, by rw [sumM_out hb]; exact h2⟩
      rw [h1]
      constructor
      · rintro ⟨k, hk, hh⟩
        exact ⟨k, by omega, hh⟩
      · rintro ⟨k, hk, hh, e⟩
        by_cases e2 : k = n
        · subst e2; exact absurd hh hb
        · exact ⟨k, by omega, hh, e⟩
section
variable {t : TTask} {Ls Ds Cs Ls' Ds' Cs' : List (List Int)} {N N' : Nat → Nat}
theorem CanC.val_eq (h : CanC t Ls Ds N Cs) (h' : CanC t Ls' Ds' N' Cs') {s : List Int} {j k : Nat} (hj : j < Ls.length) (hk : k < Ls'.length) (e : Ls'.getD k [] = Ls.getD j []) : valK t Ls' Ds' s k = valK t Ls Ds s j := by
  have h1 := h.dist j hj
  have h2 := h'.dist k hk
  rw [e] at h2
  unfold valK
  rw [e, h2.unique h1]
/-- Among more patterns the value is not less. -/
theorem CanC.le (h : CanC t Ls Ds N Cs) (h' : CanC t Ls' Ds' N' Cs') {s : List Int} (hs : StateOk t.vars s) (φ : Nat → Nat) (hm : ∀ k, k < Ls.length → φ k < Ls'.length) (hi : ∀ j k, j < Ls.length → k < Ls.length → φ j = φ k → j = k) (he : ∀ k, k < Ls.length → Ls'.getD (φ k) [] = Ls.getD k []) :
    canV t Ls Ds Cs s ≤ canV t Ls' Ds' Cs' s := by
  obtain ⟨C, hC, e⟩ := best_att h.cl (f := valK t Ls Ds s) fun k hk => (h.rng hs hk).1
  obtain ⟨C', h1, h2⟩ := sumM_image (f := valK t Ls Ds s) (f' := valK t Ls' Ds' s) (C := C) (m := Ls'.length) (φ := φ) hm hi fun k hk => h.val_eq h' hk (hm k hk) (he k hk)
  have hC' : CliqM Ls'.length N' C' := ⟨fun v hv => by
      obtain ⟨k, hk, _, rfl⟩ := (h1 v).1 hv
      exact hm k hk, fun u v hu hv huv => by
      obtain ⟨j, hj, bj, rfl⟩ := (h1 u).1 hu
      obtain ⟨k, hk, bk, rfl⟩ := (h1 v).1 hv
      have hjk : j ≠ k := fun e => huv (by rw [e])
      refine (h'.add _ _ (hm j hj) (hm k hk)).2 ⟨huv, ?_⟩
      rw [he j hj, he k hk]
      exact ((h.add j k hj hk).1 (hC.clq j k bj bk hjk)).2⟩
  have h3 := best_ge h'.gr h'.cl (f := valK t Ls' Ds' s) (fun k hk => (h'.rng hs hk).1) hC'
  unfold canV
  rw [e]
  omega
theorem CanC.more (h : CanC t Ls Ds N Cs) {p : List Int} (h' : CanC t (Ls ++ [p]) Ds' N' Cs') {s : List Int} (hs : StateOk t.vars s) : canV t Ls Ds Cs s ≤ canV t (Ls ++ [p]) Ds' Cs' s :=
  h.le h' hs id (fun k hk => by simp only [id, List.length_append, List.length_singleton]; omega) (fun j k _ _ e => e) fun k hk => by
    simp only [id, List.getD_eq_getElem?_getD]
    rw [List.getElem?_append_left hk]
theorem CanC.one (h : CanC t Ls Ds N Cs) {s : List Int} (hs : StateOk t.vars s) {k : Nat} (hk : k < Ls.length) : valK t Ls Ds s k ≤ canV t Ls Ds Cs s :=
  best_one h.gr h.cl (fun k hk => (h.rng hs hk).1) hk (h.rng hs hk).2
end
end Go.Proofs.YtemnlcnjpjdoaaaGreatDoor
