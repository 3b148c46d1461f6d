/-
  The plain law of a binary heap of numbers: 'up' and 'down' restore the heap, and the first number is the least.
-/
import Derived.Test.YtlfhflgafeblnaaGReach
namespace Go.Proofs.Ytlfhflgafeblnaa
open Go.Sl

abbrev gt0 (xs : List Int) (i : Nat) : Int := xs.getD i tInt.dflt
def IsHeap (xs : List Int) : Prop := ∀ i, 0 < i → i < xs.length → gt0 xs ((i - 1) / 2) ≤ gt0 xs i
def sw (xs : List Int) (i j : Nat) : List Int := (xs.set i (gt0 xs j)).set j (gt0 xs i)
theorem sw_len (xs : List Int) (i j : Nat) : (sw xs i j).length = xs.length := by simp [sw]
theorem gt0_set {xs : List Int} {i k : Nat} {x : Int} (hi : i < xs.length) : gt0 (xs.set i x) k = if k = i then x else gt0 xs k := by
  simp only [gt0, List.getD_eq_getElem?_getD, List.getElem?_set]
  by_cases h : i = k
  · subst h; simp [hi]
  · rw [if_neg h, if_neg (Ne.symm h)]
theorem sw_get {xs : List Int} {i j k : Nat} (hi : i < xs.length) (hj : j < xs.length) : gt0 (sw xs i j) k = if k = j then gt0 xs i else if k = i then gt0 xs j else gt0 xs k := by
  unfold sw
  rw [gt0_set (by simpa using hj), gt0_set hi]
theorem sw_perm {xs : List Int} {i j : Nat} (hi : i < xs.length) (hj : j < xs.length) : (sw xs i j).Perm xs := by
  have h1 : gt0 xs i = xs[i] := getD_at hi
  have h2 : gt0 xs j = xs[j] := getD_at hj
  unfold sw
  rw [h1, h2]
  exact List.set_set_perm hi hj

structure UpI (xs : List Int) (j : Nat) : Prop where
  lt : j < xs.length
  rest : ∀ i, 0 < i → i < xs.length → i ≠ j → gt0 xs ((i - 1) / 2) ≤ gt0 xs i
  over : ∀ i, 0 < i → i < xs.length → (i - 1) / 2 = j → 0 < j → gt0 xs ((j - 1) / 2) ≤ gt0 xs i
theorem UpI.done {xs : List Int} {j : Nat} (h : UpI xs j) (hd : (j - 1) / 2 = j ∨ gt0 xs ((j - 1) / 2) ≤ gt0 xs j) : IsHeap xs := by
  intro i h0 h1
  by_cases hij : i = j
  · subst hij
    rcases hd with hd | hd
    · omega
    · exact hd
  · exact h.rest i h0 h1 hij
theorem UpI.step {xs : List Int} {j : Nat} (h : UpI xs j) (hj : (j - 1) / 2 ≠ j) (hl : gt0 xs j < gt0 xs ((j - 1) / 2)) : UpI (sw xs ((j - 1) / 2) j) ((j - 1) / 2) := by
  have hlt := h.lt
  have hp : (j - 1) / 2 < xs.length := by omega
  have h0j : 0 < j := by omega
  refine ⟨by rw [sw_len]; exact hp, fun i h0 h1 hne => ?_, fun i h0 h1 he hpos => ?_⟩
  · rw [sw_len] at h1
    rw [sw_get hp hlt, sw_get hp hlt]
    by_cases hij : i = j
    · subst hij
      have e1 : ¬ (i - 1) / 2 = i := by omega
      rw [if_neg e1, if_pos rfl, if_pos rfl]
      omega
    · rw [if_neg hij, if_neg hne]
      by_cases hpj : (i - 1) / 2 = j
      · rw [if_pos hpj]
        exact h.over i h0 h1 hpj h0j
      · rw [if_neg hpj]
        by_cases hpp : (i - 1) / 2 = (j - 1) / 2
        · rw [if_pos hpp]
          have := h.rest i h0 h1 hij
          rw [hpp] at this
          omega
        · rw [if_neg hpp]
          exact h.rest i h0 h1 hij
  · rw [sw_len] at h1
    rw [sw_get hp hlt, sw_get hp hlt]
    have hr := h.rest ((j - 1) / 2) hpos hp (by omega)
    have e1 : ¬ ((j - 1) / 2 - 1) / 2 = j := by omega
    have e2 : ¬ ((j - 1) / 2 - 1) / 2 = (j - 1) / 2 := by omega
    rw [if_neg e1, if_neg e2]
    by_cases hij : i = j
    · rw [if_pos hij]; exact hr
    · rw [if_neg hij]
      by_cases hip : i = (j - 1) / 2
      · omega
      · rw [if_neg hip]
        have := h.rest i h0 h1 hij
        rw [he] at this
        omega
theorem upI_push {xs : List Int} {x : Int} (h : IsHeap xs) : UpI (xs ++ [x]) xs.length := by
  have hg : ∀ k, k < xs.length → gt0 (xs ++ [x]) k = gt0 xs k := fun k hk => by simp [gt0, List.getD_eq_getElem?_getD, List.getElem?_append_left hk]
  refine ⟨by simp, fun i h0 h1 hne => ?_, fun i h0 h1 he hp => ?_⟩
  · simp only [List.length_append, List.length_cons, List.length_nil] at h1
    rw [hg _ (by omega), hg _ (by omega)]
    exact h i h0 (by omega)
  · simp only [List.length_append, List.length_cons, List.length_nil] at h1
    omega

/-- 'n' numbers are looked at; only the number 'i' may be greater than its children. -/
structure DnI (xs : List Int) (n i : Nat) : Prop where
  le : n ≤ xs.length
  rest : ∀ c, 0 < c → c < n → (c - 1) / 2 ≠ i → gt0 xs ((c - 1) / 2) ≤ gt0 xs c
  over : ∀ c, 0 < c → c < n → (c - 1) / 2 = i → 0 < i → gt0 xs ((i - 1) / 2) ≤ gt0 xs c
def HeapN (xs : List Int) (n : Nat) : Prop := ∀ c, 0 < c → c < n → gt0 xs ((c - 1) / 2) ≤ gt0 xs c
theorem DnI.leaf {xs : List Int} {n i : Nat} (h : DnI xs n i) (hl : n ≤ 2 * i + 1) : HeapN xs n := fun c h0 h1 => h.rest c h0 h1 (by omega)
theorem DnI.done {xs : List Int} {n i j : Nat} (h : DnI xs n i) (_hj : j = 2 * i + 1 ∨ j = 2 * i + 2) (hmin : ∀ c, 0 < c → c < n → (c - 1) / 2 = i → gt0 xs j ≤ gt0 xs c) (hle : gt0 xs i ≤ gt0 xs j) : HeapN xs n := by
  intro c h0 h1
  by_cases hc : (c - 1) / 2 = i
  · have := hmin c h0 h1 hc
    rw [hc]; omega
  · exact h.rest c h0 h1 hc
theorem DnI.step {xs : List Int} {n i j : Nat} (h : DnI xs n i) (hj : j = 2 * i + 1 ∨ j = 2 * i + 2) (hjn : j < n) (hmin : ∀ c, 0 < c → c < n → (c - 1) / 2 = i → gt0 xs j ≤ gt0 xs c) (hlt : gt0 xs j < gt0 xs i) : DnI (sw xs i j) n j := by
  have hle := h.le
  have hi : i < xs.length := by omega
  have hjl : j < xs.length := by omega
  refine ⟨by rw [sw_len]; exact hle, fun c h0 h1 hne => ?_, fun c h0 h1 he hp => ?_⟩
  · rw [sw_get hi hjl, sw_get hi hjl, if_neg hne]
    by_cases hci : (c - 1) / 2 = i
    · rw [if_pos hci]
      by_cases hcj : c = j
      · rw [if_pos hcj]; omega
      · rw [if_neg hcj, if_neg (by omega)]
        exact hmin c h0 h1 hci
    · rw [if_neg hci]
      by_cases hcj : c = j
      · omega
      · rw [if_neg hcj]
        by_cases hc : c = i
        · subst hc
          rw [if_pos rfl]
          exact h.over j (by omega) hjn (by omega) h0
        · rw [if_neg hc]
          exact h.rest c h0 h1 hci
  · rw [sw_get hi hjl, sw_get hi hjl]
    have e1 : (j - 1) / 2 = i := by omega
    rw [e1, if_neg (show ¬ i = j by omega), if_pos rfl, if_neg (show ¬ c = j by omega), if_neg (show ¬ c = i by omega)]
    have := h.rest c h0 h1 (by omega)
    rw [he] at this
    exact this
theorem dnI_pop {xs : List Int} (h : IsHeap xs) (hl : 0 < xs.length) : DnI (sw xs 0 (xs.length - 1)) (xs.length - 1) 0 := by
  refine ⟨by rw [sw_len]; omega, fun c h0 h1 hne => ?_, fun c _ _ _ h0 => absurd h0 (by omega)⟩
  rw [sw_get hl (by omega), sw_get hl (by omega), if_neg (by omega), if_neg (by omega), if_neg (by omega), if_neg (by omega)]
  exact h c h0 (by omega)
theorem root_min {xs : List Int} (h : IsHeap xs) : ∀ i, i < xs.length → gt0 xs 0 ≤ gt0 xs i := by
  intro i
  induction i using Nat.strongRecOn with
  | _ i ih =>
    intro hi
    rcases Nat.eq_zero_or_pos i with h0 | h0
    · subst h0; exact Int.le_refl _
    · have := ih ((i - 1) / 2) (by omega) (by omega)
      have := h i h0 hi
      omega
theorem root_mem {xs : List Int} (h : IsHeap xs) {x : Int} (hx : x ∈ xs) : gt0 xs 0 ≤ x := by
  obtain ⟨i, hi, rfl⟩ := List.getElem_of_mem hx
  have := root_min h i hi
  rwa [show gt0 xs i = xs[i] from getD_at hi] at this
/-- What is left when the last number is taken off. -/
theorem pop_rest {xs ys : List Int} (hl : 0 < xs.length) (hp : ys.Perm xs) (hh : HeapN ys (xs.length - 1)) (hlast : gt0 ys (xs.length - 1) = gt0 xs 0) :
    IsHeap (ys.take (xs.length - 1)) ∧ xs.Perm (gt0 xs 0 :: ys.take (xs.length - 1)) := by
  have hyl := hp.length_eq
  refine ⟨fun i h0 h1 => ?_, ?_⟩
  · simp only [List.length_take] at h1
    have hg : ∀ k, k < xs.length - 1 → gt0 (ys.take (xs.length - 1)) k = gt0 ys k := fun k hk => by simp [gt0, List.getElem?_take, hk]
    rw [hg _ (by omega), hg _ (by omega)]
    exact hh i h0 (by omega)
  · have e : ys = ys.take (xs.length - 1) ++ [gt0 xs 0] := by
      have h1 : ys.drop (xs.length - 1) = [gt0 xs 0] := by
        rw [List.drop_eq_getElem_cons (by omega), List.drop_eq_nil_of_le (by omega), ← hlast]
        rw [show gt0 ys (xs.length - 1) = ys[xs.length - 1] from getD_at (by omega)]
      rw [← h1, List.take_append_drop]
    refine hp.symm.trans ?_
    have := List.perm_append_comm (l₁ := ys.take (xs.length - 1)) (l₂ := [gt0 xs 0])
    rw [← e] at this
    exact this
theorem tdiv_half (j : Nat) : Int.tdiv ((j : Int) - 1) 2 = (((j - 1) / 2 : Nat) : Int) := by
  rcases Nat.eq_zero_or_pos j with h | h
  · subst h; rfl
  · rw [Int.tdiv_eq_ediv_of_nonneg (by omega)]; omega
end Go.Proofs.Ytlfhflgafeblnaa
