
/-
  The reference's maximal additive sets, in plain Lean: sets of bits in ascending order, each list put at its place.
-/
import Derived.Test.YtemnlcnjpjdoaaaGreatDoorTCanon
import Derived.Test.YtemnlcnjpjdoaaaGreatDoorTPat
set_option linter.unusedSimpArgs false
set_option linter.unusedVariables false
namespace Go.Proofs.YtemnlcnjpjdoaaaGreatDoor
open Go.Sl Go
theorem ib_lt {C n v : Nat} (h : C < 2 ^ n) (hv : ib C v) : v < n := Nat.lt_of_not_le fun hle => by
  have : C < 2 ^ v := Nat.lt_of_lt_of_le h (Nat.pow_le_pow_right (by decide) hle)
  have := Nat.testBit_lt_two_pow this
  simp [ib, this] at hv
theorem ib_div {C i : Nat} : ib C i ↔ C / 2 ^ i % 2 = 1 := by
  unfold ib
  rw [Nat.testBit_eq_decide_div_mod_eq, decide_eq_true_eq]
theorem CliqM.lt {n : Nat} {N : Nat → Nat} {C : Nat} (h : CliqM n N C) : C < 2 ^ n := lt_of_bits h.bd
theorem MaxC.lt {n : Nat} {N : Nat → Nat} {C : Nat} (h : MaxC n N C) : C < 2 ^ n := lt_of_bits h.bd
theorem or_lt2 {C n v : Nat} (h : C < 2 ^ n) (hv : v < n) : C ||| 2 ^ v < 2 ^ n := Nat.or_lt_two_pow h (Nat.pow_lt_pow_right (by decide) hv)
/-- A clique is greatest if no node can be added. -/
theorem maxC_iff {n : Nat} {N : Nat → Nat} {C : Nat} (hG : Gr n N) (hC : CliqM n N C) : MaxC n N C ↔ ∀ v, v < n → ¬ ib C v → ¬ CliqM n N (C ||| 2 ^ v) := by
  constructor
  · intro h v hv hn hc
    obtain ⟨w, hw, hno⟩ := h.max v hv hn
    exact hno (hc.clq v w (ib_or.2 (.inr rfl)) (ib_or.2 (.inl hw)) fun e => hn (by rw [e]; exact hw))
  · intro h
    refine ⟨hC.bd, hC.clq, fun u hu hn => Classical.byContradiction fun hno => h u hu hn ?_⟩
    have hall : ∀ v, ib C v → ib (N u) v := fun v hv => Classical.byContradiction fun hh => hno ⟨v, hv, hh⟩
    refine ⟨fun v hv => ?_, fun a b ha hb hab => ?_⟩
    · rcases ib_or.1 hv with hv | rfl
      · exact hC.bd v hv
      · exact hu
    · rcases ib_or.1 ha with ha' | ea
      · rcases ib_or.1 hb with hb' | eb
        · exact hC.clq a b ha' hb' hab
        · rw [eb]; exact hG.sym _ _ (hall a ha')
      · rcases ib_or.1 hb with hb' | eb
        · rw [ea]; exact hall b hb'
        · exact absurd (ea.trans eb.symm) hab
/-- The pairs that were looked at are additive. -/
def PairK (t : TTask) (Ls : List (List Int)) (C i j : Nat) : Prop := ∀ a b, b < a → (a < i ∨ (a = i ∧ b < j)) → ib C a → ib C b → addT t (Ls.getD a []) (Ls.getD b [])
theorem pair_zero (t : TTask) (Ls : List (List Int)) (C : Nat) : PairK t Ls C 0 0 := fun a b hb h => by omega
theorem pair_next {t : TTask} {Ls : List (List Int)} {C i : Nat} : PairK t Ls C i i ↔ PairK t Ls C (i + 1) 0 :=
  ⟨fun h a b hb hh => h a b hb (by omega), fun h a b hb hh => h a b hb (by omega)⟩
theorem pair_step {t : TTask} {Ls : List (List Int)} {C i j : Nat} (hj : j < i) : PairK t Ls C i (j + 1) ↔ PairK t Ls C i j ∧ (ib C i → ib C j → addT t (Ls.getD i []) (Ls.getD j [])) := by
  constructor
  · intro h
    exact ⟨fun a b hb hh => h a b hb (by omega), h i j hj (.inr ⟨rfl, by omega⟩)⟩
  · rintro ⟨h1, h2⟩ a b hb hh
    by_cases e : a = i ∧ b = j
    · obtain ⟨rfl, rfl⟩ := e; exact h2
    · exact h1 a b hb (by omega)
/-- The graph of additive patterns. -/
structure AddG (t : TTask) (Ls : List (List Int)) (N : Nat → Nat) : Prop where
  gr : Gr Ls.length N
  add : ∀ u v, u < Ls.length → v < Ls.length → (ib (N u) v ↔ u ≠ v ∧ addT t (Ls.getD u []) (Ls.getD v []))
theorem addG (t : TTask) (Ls : List (List Int)) : AddG t Ls (nbA Ls.length (arcP t Ls Ls.length)) :=
  ⟨nbA_gr arcP_ok, fun u v hu hv => by rw [nbA_bit arcP_ok, arcP_adj hu hv]⟩
theorem pair_clq {t : TTask} {Ls : List (List Int)} {N : Nat → Nat} (hA : AddG t Ls N) {C : Nat} (hC : C < 2 ^ Ls.length) : PairK t Ls C Ls.length 0 ↔ CliqM Ls.length N C := by
  constructor
  · intro h
    refine ⟨fun v hv => ib_lt hC hv, fun u v hu hv huv => ?_⟩
    have h1 := ib_lt hC hu
    have h2 := ib_lt hC hv
    refine (hA.add u v h1 h2).2 ⟨huv, ?_⟩
    by_cases e : v < u
    · exact h u v e (.inl h1) hu hv
    · exact addT_symm (h v u (by omega) (.inl h2) hv hu)
  · intro h a b hb hh ha hb'
    exact ((hA.add a b (ib_lt hC ha) (ib_lt hC hb')).1 (h.clq a b ha hb' (by omega))).2
/-- The greatest cliques among the first sets. -/
def CliqK (n : Nat) (N : Nat → Nat) (k : Nat) (Cs : List (List Int)) : Prop := ∀ l, l ∈ Cs ↔ ∃ C, C < k ∧ MaxC n N C ∧ l = bitsK C n
theorem CliqK.zero {n : Nat} {N : Nat → Nat} : CliqK n N 0 [] := fun l => ⟨fun h => by simp at h, fun ⟨C, h, _⟩ => absurd h (Nat.not_lt_zero _)⟩
theorem CliqK.no {n : Nat} {N : Nat → Nat} {k : Nat} {Cs : List (List Int)} (h : CliqK n N k Cs) (hn : ¬ MaxC n N k) : CliqK n N (k + 1) Cs := fun l => by
  rw [h]
  constructor
  · rintro ⟨C, h1, hh⟩; exact ⟨C, by omega, hh⟩
  · rintro ⟨C, h1, h2, h3⟩
    by_cases e : C = k
    · subst e; exact absurd h2 hn
    · exact ⟨C, by omega, h2, h3⟩
theorem CliqK.yes {n : Nat} {N : Nat → Nat} {k at' : Nat} {Cs : List (List Int)} (h : CliqK n N k Cs) (hm : MaxC n N k) : CliqK n N (k + 1) (Cs.take at' ++ [bitsK k n] ++ Cs.drop at') := fun l => by
  have e : l ∈ Cs.take at' ++ [bitsK k n] ++ Cs.drop at' ↔ l ∈ Cs ∨ l = bitsK k n := by
    rw [List.mem_append, List.mem_append, List.mem_singleton]
    have : l ∈ Cs ↔ l ∈ Cs.take at' ∨ l ∈ Cs.drop at' := by
      rw [← List.mem_append, List.take_append_drop]
    rw [this]
    constructor
    · rintro ((h | h) | h)
      · exact .inl (.inl h)
      · exact .inr h
      · exact .inl (.inr h)
    · rintro ((h | h) | h)
      · exact .inl (.inl h)
      · exact .inr h
      · exact .inl (.inr h)
  rw [e, h]
  constructor
  · rintro (⟨C, h1, hh⟩ | rfl)
    · exact ⟨C, by omega, hh⟩
    · exact ⟨k, by omega, hm, rfl⟩
  · rintro ⟨C, h1, h2, h3⟩
    by_cases e : C = k
    · subst e; exact .inr h3
    · exact .inl ⟨C, by omega, h2, h3⟩
theorem CliqK.fin {n : Nat} {N : Nat → Nat} {Cs : List (List Int)} (h : CliqK n N (2 ^ n) Cs) : CliqL n N Cs := fun l => by
  rw [h]
  exact ⟨fun ⟨C, _, hh⟩ => ⟨C, hh⟩, fun ⟨C, h1, h2⟩ => ⟨C, h1.lt, h1, h2⟩⟩
theorem CliqK.new {n : Nat} {N : Nat → Nat} {k : Nat} {Cs : List (List Int)} (h : CliqK n N k Cs) (hm : MaxC n N k) : bitsK k n ∉ Cs := fun hh => by
  obtain ⟨C, h1, h2, h3⟩ := (h _).1 hh
  have := bitsK_inj hm.bd h2.bd h3
  omega
/-- A list put at its place. -/
theorem LexS.insert {L : List (List Int)} {p : List Int} {k : Nat} (h : LexS L) (hk : k ≤ L.length) (hn : p ∉ L) (hhi : ∀ i, k ≤ i → i < L.length → lexC p (L.getD i []) < 0) (hlo : k = 0 ∨ ¬ lexC p (L.getD (k - 1) []) < 0) : LexS (L.take k ++ [p] ++ L.drop k) := by
  have hlt : ∀ a ∈ L.take k, lexC a p < 0 := by
    intro a ha
    rcases hlo with rfl | hlo
    · simp at ha
    by_cases hk0 : k = 0
    · subst hk0; simp at ha
    have hmem : L.getD (k - 1) [] ∈ L := mem_getD [] (by omega)
    have h1 : lexC (L.getD (k - 1) []) p < 0 := by
      have h2 := lexC_swap (L.getD (k - 1) []) p
      have h3 := lexC_rng (L.getD (k - 1) []) p
      have h4 : lexC (L.getD (k - 1) []) p ≠ 0 := fun e => hn (by rw [← lexC_zero e]; exact hmem)
      omega
    obtain ⟨i, hi, rfl⟩ := List.getElem_of_mem ha
    rw [List.length_take] at hi
    rw [List.getElem_take]
    by_cases e : i = k - 1
    · subst e
      rwa [getD_at (by omega)] at h1
    · refine lexC_trans ?_ h1
      rw [getD_at (by omega)]
      exact List.pairwise_iff_getElem.1 h i (k - 1) (by omega) (by omega) (by omega)
  have hgt : ∀ b ∈ L.drop k, lexC p b < 0 := by
    intro b hb
    obtain ⟨i, hi, rfl⟩ := List.getElem_of_mem hb
    rw [List.length_drop] at hi
    rw [List.getElem_drop]
    have := hhi (k + i) (by omega) (by omega)
    rwa [getD_at (by omega)] at this
  have h0 : LexS (L.take k ++ L.drop k) := by rw [List.take_append_drop]; exact h
  obtain ⟨h1, h2, h3⟩ := List.pairwise_append.1 h0
  refine List.pairwise_append.2 ⟨List.pairwise_append.2 ⟨h1, List.pairwise_singleton _ _, fun a ha b hb => ?_⟩, h2, fun a ha b hb => ?_⟩
  · rw [List.mem_singleton.1 hb]; exact hlt a ha
  · rcases List.mem_append.1 ha with ha | ha
    · exact h3 a ha b hb
    · rw [List.mem_singleton.1 ha]; exact hgt b hb
end Go.Proofs.YtemnlcnjpjdoaaaGreatDoor
