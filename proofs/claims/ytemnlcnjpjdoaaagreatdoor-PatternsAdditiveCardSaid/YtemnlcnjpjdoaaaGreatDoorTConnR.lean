
/-
  The references 'Connected' and 'Systematic', in plain Lean: what is seen from the first variable; lists that grow.
-/
import Derived.Test.YtemnlcnjpjdoaaaGreatDoorTSyst
set_option linter.unusedSimpArgs false
set_option linter.unusedVariables false
namespace Go.Proofs.YtemnlcnjpjdoaaaGreatDoor
open Go.Sl
/-- What is seen. -/
structure SeenK (t : TTask) (p : List Int) (seen : List Bool) (n : Nat) : Prop where
  len : seen.length = p.length
  zero : seen.getD 0 false = true
  cr : ∀ i, i < p.length → seen.getD i false = true → CR t p i
  cnt : n = seen.count true
theorem count_setT {l : List Bool} {i : Nat} (h : i < l.length) (hf : l.getD i false = false) : (l.set i true).count true = l.count true + 1 := by
  rw [List.count_set h]
  rw [getD_at h] at hf
  simp [hf]
theorem SeenK.start {t : TTask} {p : List Int} (h : 0 < p.length) : SeenK t p ((List.replicate p.length false).set 0 true) 1 := by
  have hr : ∀ i, (List.replicate p.length false).getD i false = false := fun i => by
    simp only [List.getD_eq_getElem?_getD, List.getElem?_replicate]
    split <;> rfl
  refine ⟨by simp, ?_, fun i hi hs => ?_, ?_⟩
  · rw [getD_setL, if_pos ⟨rfl, by simpa using h⟩]
  · rw [getD_setL] at hs
    split at hs
    · rename_i e; rw [← e.1]; exact .base
    · rw [hr] at hs; cases hs
  · rw [count_setT (by simpa using h) (hr 0)]
    simp [List.count_replicate]
theorem SeenK.add {t : TTask} {p : List Int} {seen : List Bool} {n : Nat} (h : SeenK t p seen n) {i j : Nat} (hi : i < p.length) (hj : j < p.length) (si : seen.getD i false = true) (sj : seen.getD j false = false) (hn : nearT t (p.getD i tInt.dflt) (p.getD j tInt.dflt)) : SeenK t p (seen.set j true) (n + 1) := by
  have hl := h.len
  refine ⟨by simp [hl], ?_, fun k hk hs => ?_, ?_⟩
  · rw [getD_setL]
    split
    · rfl
    · exact h.zero
  · rw [getD_setL] at hs
    split at hs
    · rename_i e; rw [← e.1]; exact .step (h.cr i hi si) hi hj hn
    · exact h.cr k hk hs
  · rw [count_setT (by omega) sj, h.cnt]
theorem SeenK.le {t : TTask} {p : List Int} {seen : List Bool} {n : Nat} (h : SeenK t p seen n) : n ≤ p.length := by
  rw [h.cnt, ← h.len]; exact List.count_le_length
/-- The pairs that were looked at. -/
def ClosK (t : TTask) (p : List Int) (seen : List Bool) (i j : Nat) : Prop := ∀ a b, a < p.length → b < p.length → (a < i ∨ (a = i ∧ b < j)) → seen.getD a false = true → nearT t (p.getD a tInt.dflt) (p.getD b tInt.dflt) → seen.getD b false = true
theorem ClosK.zero {t : TTask} {p : List Int} {seen : List Bool} : ClosK t p seen 0 0 := fun a b _ _ h => by omega
theorem ClosK.next {t : TTask} {p : List Int} {seen : List Bool} {i : Nat} (h : ClosK t p seen i p.length) : ClosK t p seen (i + 1) 0 := fun a b ha hb hh => h a b ha hb (by omega)
theorem ClosK.step {t : TTask} {p : List Int} {seen : List Bool} {i j : Nat} (h : ClosK t p seen i j) (hs : seen.getD i false = true → nearT t (p.getD i tInt.dflt) (p.getD j tInt.dflt) → seen.getD j false = true) : ClosK t p seen i (j + 1) := fun a b ha hb hh => by
  by_cases e : a = i ∧ b = j
  · obtain ⟨rfl, rfl⟩ := e; exact hs
  · exact h a b ha hb (by omega)
theorem SeenK.fin {t : TTask} {p : List Int} {seen : List Bool} {n : Nat} (h : SeenK t p seen n) (hp : 0 < p.length) (hc : ClosK t p seen p.length 0) : n = p.length ↔ connP t p := by
  have hl := h.len
  constructor
  · intro e i hi
    refine h.cr i hi ?_
    have h1 : seen.count true = seen.length := by rw [← h.cnt, e, hl]
    have h2 := List.count_eq_length.1 h1
    have := h2 (seen.getD i false) (mem_getD false (by omega))
    exact this.symm
  · intro hcp
    have key : ∀ j, CR t p j → j < p.length → seen.getD j false = true := by
      intro j hj
      induction hj with
      | base => exact fun _ => h.zero
      | @step i j _ hi hj hn ih => exact fun _ => hc i j hi hj (.inl hi) (ih hi) hn
    have h2 : seen.count true = seen.length := List.count_eq_length.2 fun b hb => by
      obtain ⟨i, hi, e⟩ := List.getElem_of_mem hb
      have := key i (hcp i (by omega)) (by omega)
      rw [getD_at hi, e] at this
      exact this.symm
    rw [h.cnt, h2, hl]
theorem conn_nil {t : TTask} : connP t [] := fun i hi => absurd hi (Nat.not_lt_zero _)
/-- A round of the closure. -/
structure RndK (t : TTask) (p : List Int) (n0 : Nat) (seen : List Bool) (n : Nat) (ch : Bool) (i j : Nat) : Prop where
  sk : SeenK t p seen n
  no : ch = false → n = n0 ∧ ClosK t p seen i j
  yes : ch = true → n0 < n
theorem RndK.start {t : TTask} {p : List Int} {seen : List Bool} {n : Nat} (h : SeenK t p seen n) : RndK t p n seen n false 0 0 := ⟨h, fun _ => ⟨rfl, .zero⟩, fun h => by cases h⟩
theorem RndK.next {t : TTask} {p : List Int} {n0 : Nat} {seen : List Bool} {n : Nat} {ch : Bool} {i : Nat} (h : RndK t p n0 seen n ch i p.length) : RndK t p n0 seen n ch (i + 1) 0 := ⟨h.sk, fun e => ⟨(h.no e).1, (h.no e).2.next⟩, h.yes⟩
theorem RndK.skip {t : TTask} {p : List Int} {n0 : Nat} {seen : List Bool} {n : Nat} {ch : Bool} {i j : Nat} (h : RndK t p n0 seen n ch i j) (hs : seen.getD i false = true → nearT t (p.getD i tInt.dflt) (p.getD j tInt.dflt) → seen.getD j false = true) : RndK t p n0 seen n ch i (j + 1) := ⟨h.sk, fun e => ⟨(h.no e).1, (h.no e).2.step hs⟩, h.yes⟩
theorem RndK.add {t : TTask} {p : List Int} {n0 : Nat} {seen : List Bool} {n : Nat} {ch : Bool} {i j : Nat} (h : RndK t p n0 seen n ch i j) (hi : i < p.length) (hj : j < p.length) (si : seen.getD i false = true) (sj : seen.getD j false = false) (hn : nearT t (p.getD i tInt.dflt) (p.getD j tInt.dflt)) : RndK t p n0 (seen.set j true) (n + 1) true i (j + 1) := ⟨h.sk.add hi hj si sj hn, fun e => (by cases e), fun _ => (by
    cases ch
    · have := (h.no rfl).1; omega
    · have := h.yes rfl; omega)⟩

/-! ### Lists that grow -/
theorem grL_mem {n : Nat} : ∀ {m : Nat} {p : List Int}, p ∈ grL n m → p.length = m ∧ ∀ x ∈ p, 0 ≤ x ∧ x < n
  | 0, p, h => by
    have : p = [] := by simpa [grL] using h
    subst this; exact ⟨rfl, fun x hx => by simp at hx⟩
  | m + 1, p, h => by
    obtain ⟨q, hq, hp⟩ := List.mem_flatMap.1 h
    obtain ⟨v, _, hv, hp⟩ := mem_seg.1 hp
    obtain ⟨h1, h2⟩ := grL_mem hq
    rw [List.mem_singleton] at hp
    subst hp
    refine ⟨by simp [h1], fun x hx => ?_⟩
    rcases List.mem_append.1 hx with hx | hx
    · exact h2 x hx
    · rw [List.mem_singleton.1 hx]; omega
theorem firstV_nil : firstV [] = 0 := rfl
theorem firstV_at {p : List Int} (h : 0 < p.length) : firstV p = (p.getD (p.length - 1) tInt.dflt + 1).toNat := by
  rcases List.eq_nil_or_concat p with e | ⟨l, x, e⟩
  · rw [e] at h; exact absurd h (Nat.not_lt_zero _)
  · subst e
    rw [List.concat_eq_append]
    unfold firstV
    rw [List.getLastD_concat]
    simp [List.getD]
/-- The lists that grew out of the first ones. -/
def grK (n m k : Nat) : List (List Int) := ((grL n m).take k).flatMap fun p => grR n p n
theorem grK_zero (n m : Nat) : grK n m 0 = [] := rfl
theorem grK_succ {n m k : Nat} (h : k < (grL n m).length) : grK n m (k + 1) = grK n m k ++ grR n ((grL n m).getD k []) n := by
  unfold grK
  rw [take_snoc [] h, List.flatMap_append, List.flatMap_cons, List.flatMap_nil, List.append_nil]
theorem grK_end (n m : Nat) : grK n m (grL n m).length = grL n (m + 1) := by
  unfold grK
  rw [List.take_length]; rfl
theorem gr_part {n m k j : Nat} (hk : k < (grL n m).length) (hj : j ≤ n) : (grK n m k).length + (grR n ((grL n m).getD k []) j).length ≤ (grL n (m + 1)).length := by
  have e : grL n (m + 1) = grK n m (k + 1) ++ ((grL n m).drop (k + 1)).flatMap fun p => grR n p n := by
    unfold grK
    rw [← List.flatMap_append, List.take_append_drop]; rfl
  have h1 := seg_mono (g := fun v => [(grL n m).getD k [] ++ [(v : Int)]]) (lo := firstV ((grL n m).getD k [])) hj
  rw [e, grK_succ hk, List.length_append, List.length_append]
  unfold grR at *
  omega
theorem grR_nil {n : Nat} {p : List Int} {j : Nat} (h : j ≤ firstV p) : grR n p j = [] := seg_nil h
theorem grR_succ {n : Nat} {p : List Int} {j : Nat} (h : firstV p ≤ j) : grR n p (j + 1) = grR n p j ++ [p ++ [(j : Int)]] := seg_succ h
theorem grL_bd {n m : Nat} (hn : n ≤ 12) (hm : m ≤ 3) : (grL n m).length ≤ 220 := by
  have h := grL_len n (by omega)
  have : m = 0 ∨ m = 1 ∨ m = 2 ∨ m = 3 := by omega
  rcases this with rfl | rfl | rfl | rfl
  · simp [grL]
  · omega
  · omega
  · omega
open Classical in
/-- The systematic patterns of the first lists. -/
noncomputable def sysF (t : TTask) (m k : Nat) : List (List Int) := ((grL t.vars.length m).take k).filter fun p => decide (sysP t p)
theorem sysF_zero (t : TTask) (m : Nat) : sysF t m 0 = [] := rfl
open Classical in
theorem sysF_in {t : TTask} {m k : Nat} (h : k < (grL t.vars.length m).length) (hs : sysP t ((grL t.vars.length m).getD k [])) : sysF t m (k + 1) = sysF t m k ++ [(grL t.vars.length m).getD k []] := by
  unfold sysF
  rw [take_snoc [] h, List.filter_append, List.filter_cons_of_pos (p := fun p => decide (sysP t p)) (decide_eq_true hs), List.filter_nil]
open Classical in
theorem sysF_out {t : TTask} {m k : Nat} (h : k < (grL t.vars.length m).length) (hs : ¬ sysP t ((grL t.vars.length m).getD k [])) : sysF t m (k + 1) = sysF t m k := by
  unfold sysF
  rw [take_snoc [] h, List.filter_append, List.filter_cons_of_neg (p := fun p => decide (sysP t p)) (by rw [decide_eq_true_eq]; exact hs), List.filter_nil, List.append_nil]
theorem sysF_end (t : TTask) (m : Nat) : sysF t m (grL t.vars.length m).length = sysK t m := by
  unfold sysF sysK
  rw [List.take_length]
theorem sysF_len {t : TTask} {m k : Nat} (hn : t.vars.length ≤ 12) (hm : m ≤ 3) : (sysF t m k).length ≤ 220 := by
  have h1 := List.length_filter_le (fun p => open Classical in decide (sysP t p)) ((grL t.vars.length m).take k)
  have h2 := grL_bd hn hm
  rw [List.length_take] at h1
  unfold sysF
  omega
theorem sysL_zero (t : TTask) : sysL t 0 = [] := seg_nil (by omega)
theorem sysL_succ (t : TTask) (m : Nat) : sysL t (m + 1) = sysL t m ++ sysK t (m + 1) := by
  unfold sysL; rw [seg_succ (by omega)]
theorem sysL_len {t : TTask} (hn : t.vars.length ≤ 12) : ∀ {m : Nat}, m ≤ 3 → (sysL t m).length ≤ m * 220
  | 0, _ => by rw [sysL_zero]; exact Nat.le_refl _
  | m + 1, h => by
    have ih := sysL_len hn (m := m) (by omega)
    have h1 := sysK_len (t := t) (m + 1)
    have h2 := grL_bd hn (m := m + 1) (by omega)
    rw [sysL_succ, List.length_append]
    omega
end Go.Proofs.YtemnlcnjpjdoaaaGreatDoor
