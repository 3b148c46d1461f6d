/-
  The plain law of 'Floyd': the stages of the matrix, that its last stage has the least weights of walks, and what 'Shortest' answers then.
-/
import Derived.Test.YtlfhflgafeblnaaGTight
namespace Go.Proofs.Ytlfhflgafeblnaa
open Go.Sl

/-! ### Matrices -/
def mat (n : Nat) (f : Nat → Nat → Int) : List (List Int) := (List.range n).map fun i => (List.range n).map (f i)
theorem mat_len (n : Nat) (f : Nat → Nat → Int) : (mat n f).length = n := by simp [mat]
theorem mat_row {n : Nat} {f : Nat → Nat → Int} {i : Nat} (h : i < n) : (mat n f).getD i [] = (List.range n).map (f i) := by simp [mat, List.getD, h]
theorem row_get {n : Nat} {g : Nat → Int} {j : Nat} (d : Int) (h : j < n) : ((List.range n).map g).getD j d = g j := by simp [List.getD, h]
theorem mat_congr {n : Nat} {f g : Nat → Nat → Int} (h : ∀ i j, i < n → j < n → f i j = g i j) : mat n f = mat n g := by
  unfold mat
  apply List.map_congr_left
  intro i hi
  apply List.map_congr_left
  intro j hj
  exact h i j (List.mem_range.1 hi) (List.mem_range.1 hj)
theorem mat_set {n : Nat} {f g : Nat → Nat → Int} {i j : Nat} {x : Int} (hi : i < n) (hg : ∀ a b, a < n → b < n → g a b = if a = i ∧ b = j then x else f a b) : (mat n f).set i (((mat n f).getD i []).set j x) = mat n g := by
  rw [mat_row hi]
  apply List.ext_getElem
  · simp [mat]
  · intro a h1 h2
    simp only [mat, List.length_map, List.length_range] at h2
    simp only [mat, List.getElem_set, List.getElem_map, List.getElem_range]
    split
    · rename_i hia
      subst hia
      apply List.ext_getElem
      · simp
      · intro b h3 h4
        simp only [List.length_map, List.length_range] at h4
        simp only [List.getElem_set, List.getElem_map, List.getElem_range, hg i b hi h4]
        by_cases hb : b = j
        · subst hb; simp
        · rw [if_neg (fun h => hb h.symm), if_neg (fun h => hb h.2)]
    · rename_i hia
      apply List.map_congr_left
      intro b hb
      rw [hg a b h2 (List.mem_range.1 hb), if_neg (fun h => hia h.1.symm)]

/-! ### The stages -/
def fwB (i j : Nat) : Int := if i = j then 0 else 1125899906842624
def fwS (i j : Nat) (x : Int) (a : Arc) : Int := if a.src.toNat = i ∧ a.dst.toNat = j then min x a.wt else x
def fwA (l : List Arc) (i j : Nat) : Int := l.foldl (fwS i j) (fwB i j)
def fw (arcs : List Arc) : Nat → Nat → Nat → Int
  | 0, i, j => fwA arcs i j
  | k + 1, i, j => if fw arcs k i k < 1125899906842624 ∧ fw arcs k k j < 1125899906842624 then min (fw arcs k i j) (fw arcs k i k + fw arcs k k j) else fw arcs k i j

theorem fold_le_acc {i j : Nat} : ∀ (l : List Arc) (x : Int), l.foldl (fwS i j) x ≤ x
  | [], _ => Int.le_refl _
  | a :: l, x => by
    rw [List.foldl_cons]
    refine Int.le_trans (fold_le_acc l _) ?_
    unfold fwS; split <;> omega
theorem fold_le_arc {i j : Nat} : ∀ (l : List Arc) (x : Int) {a : Arc}, a ∈ l → a.src.toNat = i → a.dst.toNat = j → l.foldl (fwS i j) x ≤ a.wt
  | b :: l, x, a, h, h1, h2 => by
    rw [List.foldl_cons]
    rcases List.mem_cons.1 h with rfl | h
    · refine Int.le_trans (fold_le_acc l _) ?_
      unfold fwS; rw [if_pos ⟨h1, h2⟩]; omega
    · exact fold_le_arc l _ h h1 h2
theorem fold_val {i j : Nat} : ∀ (l : List Arc) (x : Int), l.foldl (fwS i j) x = x ∨ ∃ a ∈ l, a.src.toNat = i ∧ a.dst.toNat = j ∧ l.foldl (fwS i j) x = a.wt
  | [], _ => .inl rfl
  | a :: l, x => by
    rw [List.foldl_cons]
    rcases fold_val l (fwS i j x a) with h | ⟨b, hb, h1, h2, h3⟩
    · rw [h]
      unfold fwS
      split
      · rename_i hh
        by_cases hx : x ≤ a.wt
        · left; omega
        · right; exact ⟨a, List.mem_cons_self, hh.1, hh.2, by omega⟩
      · exact .inl rfl
    · exact .inr ⟨b, List.mem_cons_of_mem _ hb, h1, h2, h3⟩
theorem fwA_snoc (l : List Arc) (a : Arc) (i j : Nat) : fwA (l ++ [a]) i j = fwS i j (fwA l i j) a := by simp [fwA]

def cnt (S : Nat → Bool) : Nat → Nat
  | 0 => 0
  | k + 1 => cnt S k + if S k = true then 1 else 0
theorem cnt_le (S : Nat → Bool) : ∀ k, cnt S k ≤ k
  | 0 => Nat.le_refl _
  | k + 1 => by have := cnt_le S k; simp only [cnt]; split <;> omega
theorem cnt_congr {S T : Nat → Bool} : ∀ (k : Nat), (∀ l, l < k → S l = T l) → cnt S k = cnt T k
  | 0, _ => rfl
  | k + 1, h => by simp only [cnt]; rw [cnt_congr k fun l hl => h l (by omega), h k (by omega)]
theorem cnt_or {S T : Nat → Bool} : ∀ (k : Nat), (∀ l, l < k → S l = true → T l = true → False) → cnt (fun l => S l || T l) k = cnt S k + cnt T k
  | 0, _ => rfl
  | k + 1, h => by
    have ih := cnt_or k fun l hl => h l (by omega)
    have hk := h k (by omega)
    simp only [cnt, ih]
    have : ∀ (a b : Bool), (a = true → b = true → False) → (if (a || b) = true then 1 else 0) = (if a = true then 1 else 0) + (if b = true then (1 : Nat) else 0) := by decide
    have := this (S k) (T k) hk
    omega

theorem Wk.trans {arcs : List Arc} {s u v x y : Int} (h : Wk arcs s u x) (k : Wk arcs u v y) : Wk arcs s v (x + y) := by
  induction k with
  | nil => simpa using h
  | step ha _ ih => rw [← Int.add_assoc]; exact .step ha ih

structure FG (n : Nat) (arcs : List Arc) (k : Nat) : Prop where
  fin : ∀ i j, i < n → j < n → fw arcs k i j = 1125899906842624 ∨ (Wk arcs (i : Int) (j : Int) (fw arcs k i j) ∧ ∃ S : Nat → Bool, -(1099511627776 * ((cnt S k : Int) + 1)) ≤ fw arcs k i j ∧ fw arcs k i j ≤ 1099511627776 * ((cnt S k : Int) + 1) ∧
    ∀ l, l < k → S l = true → fw arcs k i l < 1125899906842624 ∧ fw arcs k l j < 1125899906842624 ∧ fw arcs k i j = fw arcs k i l + fw arcs k l j)
  tri : ∀ i j l, i < n → j < n → l < k → fw arcs k i l < 1125899906842624 → fw arcs k l j < 1125899906842624 → fw arcs k i j ≤ fw arcs k i l + fw arcs k l j
  diag : ∀ i, i < n → fw arcs k i i ≤ 0
theorem FG.bd {n k : Nat} {arcs : List Arc} (G : FG n arcs k) (hk : k ≤ 64) {i j : Nat} (hi : i < n) (hj : j < n) : fw arcs k i j = 1125899906842624 ∨ (-71468255805440 ≤ fw arcs k i j ∧ fw arcs k i j ≤ 71468255805440) := by
  rcases G.fin i j hi hj with h | ⟨_, S, h1, h2, _⟩
  · exact .inl h
  · have := cnt_le S k
    right; omega

theorem FG_zero {n : Nat} {arcs : List Arc} (hok : ∀ a ∈ arcs, arcOk n a) : FG n arcs 0 := by
  refine ⟨fun i j hi hj => ?_, fun i j l _ _ hl => absurd hl (Nat.not_lt_zero _), fun i hi => ?_⟩
  · rcases fold_val (i := i) (j := j) arcs (fwB i j) with h | ⟨a, ha, h1, h2, h3⟩
    · have he : fw arcs 0 i j = fwB i j := h
      by_cases hij : i = j
      · subst hij
        right
        have : fw arcs 0 i i = 0 := by rw [he]; simp [fwB]
        rw [this]
        exact ⟨.nil, fun _ => false, by simp [cnt], by simp [cnt], fun l hl => absurd hl (Nat.not_lt_zero _)⟩
      · left; rw [he]; simp [fwB, hij]
    · right
      have he : fw arcs 0 i j = a.wt := h3
      have hak := hok a ha
      unfold arcOk at hak
      rw [he]
      refine ⟨?_, fun _ => false, by simp only [cnt]; omega, by simp only [cnt]; omega, fun l hl => absurd hl (Nat.not_lt_zero _)⟩
      have e1 : (i : Int) = a.src := by omega
      have e2 : (j : Int) = a.dst := by omega
      rw [e1, e2]
      simpa using Wk.step ha (Wk.nil (arcs := arcs) (src := a.src))
  · have := fold_le_acc (i := i) (j := i) arcs (fwB i i)
    simpa [fw, fwA, fwB] using this

theorem fw_cases (arcs : List Arc) (k i j : Nat) :
    (fw arcs (k + 1) i j = fw arcs k i j ∧ (1125899906842624 ≤ fw arcs k i k ∨ 1125899906842624 ≤ fw arcs k k j ∨ fw arcs k i j ≤ fw arcs k i k + fw arcs k k j)) ∨
    (fw arcs k i k < 1125899906842624 ∧ fw arcs k k j < 1125899906842624 ∧ fw arcs (k + 1) i j = fw arcs k i k + fw arcs k k j ∧ fw arcs k i k + fw arcs k k j < fw arcs k i j) := by
  simp only [fw]
  split <;> omega
theorem fw_le (arcs : List Arc) (k i j : Nat) : fw arcs (k + 1) i j ≤ fw arcs k i j := by
  rcases fw_cases arcs k i j with h | h <;> omega
theorem fw_le0 (arcs : List Arc) (i j : Nat) : ∀ k, fw arcs k i j ≤ fw arcs 0 i j
  | 0 => Int.le_refl _
  | k + 1 => Int.le_trans (fw_le arcs k i j) (fw_le0 arcs i j k)
theorem fw_le2 {arcs : List Arc} {k i j : Nat} (h1 : fw arcs k i k < 1125899906842624) (h2 : fw arcs k k j < 1125899906842624) : fw arcs (k + 1) i j ≤ fw arcs k i k + fw arcs k k j := by
  rcases fw_cases arcs k i j with h | h <;> omega
/-- Before the checks of a stage: each entry is a walk's weight, of a bounded size. -/
theorem FG.next {n k : Nat} {arcs : List Arc} (G : FG n arcs k) (hk : k < n) (hn : n ≤ 64) {i j : Nat} (hi : i < n) (hj : j < n) : fw arcs (k + 1) i j = 1125899906842624 ∨ (Wk arcs (i : Int) (j : Int) (fw arcs (k + 1) i j) ∧ -142936511610880 ≤ fw arcs (k + 1) i j ∧ fw arcs (k + 1) i j ≤ 142936511610880) := by
  rcases fw_cases arcs k i j with ⟨h, _⟩ | ⟨h1, h2, h3, _⟩
  · rw [h]
    rcases G.fin i j hi hj with h' | ⟨hW, _⟩
    · exact .inl h'
    · rcases G.bd (by omega) hi hj with h' | h'
      · exact .inl h'
      · exact .inr ⟨hW, by omega, by omega⟩
  · right
    have b1 := G.bd (by omega) hi hk
    have b2 := G.bd (by omega) hk hj
    rcases G.fin i k hi hk with h' | ⟨hW1, _⟩
    · omega
    rcases G.fin k j hk hj with h' | ⟨hW2, _⟩
    · omega
    rw [h3]
    exact ⟨hW1.trans hW2, by omega, by omega⟩

theorem fw_col {n k : Nat} {arcs : List Arc} (G : FG n arcs k) (hk : k < n) (h0 : 0 ≤ fw arcs k k k) (i : Nat) : fw arcs (k + 1) i k = fw arcs k i k := by
  have := G.diag k hk
  rcases fw_cases arcs k i k with h | h <;> omega
theorem fw_row {n k : Nat} {arcs : List Arc} (G : FG n arcs k) (hk : k < n) (h0 : 0 ≤ fw arcs k k k) (j : Nat) : fw arcs (k + 1) k j = fw arcs k k j := by
  have := G.diag k hk
  rcases fw_cases arcs k k j with h | h <;> omega

theorem FG_step {n k : Nat} {arcs : List Arc} (hk : k < n) (hn : n ≤ 64) (G : FG n arcs k) (h0 : 0 ≤ fw arcs k k k) (hd : ∀ i, i < n → 0 ≤ fw arcs (k + 1) i i) : FG n arcs (k + 1) := by
  have tri : ∀ i j l, i < n → j < n → l < k + 1 → fw arcs (k + 1) i l < 1125899906842624 → fw arcs (k + 1) l j < 1125899906842624 → fw arcs (k + 1) i j ≤ fw arcs (k + 1) i l + fw arcs (k + 1) l j := by
    intro i j l hi hj hl h1 h2
    by_cases hlk : l = k
    · subst hlk
      rw [fw_col G hk h0] at h1 ⊢
      rw [fw_row G hk h0] at h2 ⊢
      exact fw_le2 h1 h2
    · have hl' : l < k := by omega
      have hln : l < n := by omega
      rcases fw_cases arcs k i l with ⟨e1, _⟩ | ⟨a1, a2, e1, _⟩
      · rcases fw_cases arcs k l j with ⟨e2, _⟩ | ⟨b1, b2, e2, _⟩
        · have := G.tri i j l hi hj hl' (by omega) (by omega)
          have := fw_le arcs k i j
          omega
        · have h3 := G.tri i k l hi hk hl' (by omega) (by omega)
          have h4 : fw arcs k i k < 1125899906842624 := by
            have := G.bd (by omega) hi hln
            have := G.bd (by omega) hln hk
            omega
          have := fw_le2 h4 b2
          omega
      · rcases fw_cases arcs k l j with ⟨e2, _⟩ | ⟨b1, b2, e2, _⟩
        · have h3 := G.tri k j l hk hj hl' (by omega) (by omega)
          have h4 : fw arcs k k j < 1125899906842624 := by
            have := G.bd (by omega) hk hln
            have := G.bd (by omega) hln hj
            omega
          have := fw_le2 a1 h4
          omega
        · have h3 := G.tri k k l hk hk hl' (by omega) (by omega)
          have := fw_le2 a1 b2
          omega
  refine ⟨fun i j hi hj => ?_, tri, fun i hi => Int.le_trans (fw_le arcs k i i) (G.diag i hi)⟩
  rcases G.next hk hn hi hj with hx | ⟨hW, hb1, hb2⟩
  · exact .inl hx
  right
  refine ⟨hW, ?_⟩
  rcases fw_cases arcs k i j with ⟨e, _⟩ | ⟨a1, a2, e, hlt⟩
  · rcases G.fin i j hi hj with hx | ⟨_, S, s1, s2, s3⟩
    · omega
    refine ⟨fun l => S l && !(l == k), ?_, ?_, fun l hl hS => ?_⟩
    · have : cnt (fun l => S l && !(l == k)) (k + 1) = cnt S k := by
        simp only [cnt]
        rw [cnt_congr (T := S) k fun l hl => by
          have : (l == k) = false := by simpa using Nat.ne_of_lt hl
          simp [this]]
        simp
      rw [this, e]; exact s1
    · have : cnt (fun l => S l && !(l == k)) (k + 1) = cnt S k := by
        simp only [cnt]
        rw [cnt_congr (T := S) k fun l hl => by
          have : (l == k) = false := by simpa using Nat.ne_of_lt hl
          simp [this]]
        simp
      rw [this, e]; exact s2
    · simp only [Bool.and_eq_true, Bool.not_eq_true', beq_eq_false_iff_ne, ne_eq] at hS
      obtain ⟨q1, q2, q3⟩ := s3 l (by omega) hS.1
      have l1 := fw_le arcs k i l
      have l2 := fw_le arcs k l j
      have := tri i j l hi hj (by omega) (by omega) (by omega)
      exact ⟨by omega, by omega, by omega⟩
  · rcases G.fin i k hi hk with hx | ⟨_, S, s1, s2, s3⟩
    · omega
    rcases G.fin k j hk hj with hx | ⟨_, T, t1, t2, t3⟩
    · omega
    have hdis : ∀ l, l < k → S l = true → T l = true → False := by
      intro l hl hS hT
      obtain ⟨q1, q2, q3⟩ := s3 l hl hS
      obtain ⟨r1, r2, r3⟩ := t3 l hl hT
      have := hd l (by omega)
      have := fw_le2 q2 r1
      have := G.tri i j l hi hj hl q1 r2
      omega
    have hc : cnt (fun l => (S l || T l) || l == k) (k + 1) = cnt S k + cnt T k + 1 := by
      simp only [cnt]
      rw [cnt_congr (T := fun l => S l || T l) k fun l hl => by
        have : (l == k) = false := by simpa using Nat.ne_of_lt hl
        simp [this], cnt_or k hdis]
      simp
    refine ⟨fun l => (S l || T l) || l == k, ?_, ?_, fun l hl hS => ?_⟩
    · rw [hc, e]; omega
    · rw [hc, e]; omega
    · by_cases hlk : l = k
      · subst hlk
        rw [fw_col G hk h0, fw_row G hk h0]
        exact ⟨a1, a2, e⟩
      · have hlk' : (l == k) = false := by simpa using hlk
        simp only [hlk', Bool.or_false, Bool.or_eq_true] at hS
        have hbl := G.bd (by omega) hi hk
        have hbl' := G.bd (by omega) hk hj
        rcases hS with hS | hS
        · obtain ⟨q1, q2, q3⟩ := s3 l (by omega) hS
          have l1 := fw_le arcs k i l
          have l2 := fw_le2 q2 a2
          have hq := G.bd (by omega) (show l < n by omega) hk
          have := tri i j l hi hj (by omega) (by omega) (by omega)
          exact ⟨by omega, by omega, by omega⟩
        · obtain ⟨q1, q2, q3⟩ := t3 l (by omega) hS
          have l1 := fw_le arcs k l j
          have l2 := fw_le2 a1 q1
          have hq := G.bd (by omega) hk (show l < n by omega)
          have := tri i j l hi hj (by omega) (by omega) (by omega)
          exact ⟨by omega, by omega, by omega⟩

/-! ### In the middle of a stage -/
def mid (arcs : List Arc) (k i j a b : Nat) : Int := if a < i ∨ (a = i ∧ b < j) then fw arcs (k + 1) a b else fw arcs k a b
theorem mid_start (arcs : List Arc) (n k : Nat) : mat n (fw arcs k) = mat n (mid arcs k 0 0) := mat_congr fun a b _ _ => by simp [mid]
theorem mid_row (arcs : List Arc) (n k i : Nat) : mat n (mid arcs k i n) = mat n (mid arcs k (i + 1) 0) := mat_congr fun a b _ hb => by
  simp only [mid]
  by_cases h : a < i ∨ (a = i ∧ b < n)
  · rw [if_pos h, if_pos (by omega)]
  · rw [if_neg h, if_neg (by omega)]
theorem mid_end (arcs : List Arc) (n k : Nat) : mat n (mid arcs k n 0) = mat n (fw arcs (k + 1)) := mat_congr fun a b ha _ => by
  simp only [mid]; rw [if_pos (.inl ha)]
theorem mid_set {arcs : List Arc} {n k i j : Nat} {x : Int} (hi : i < n) (hx : x = fw arcs (k + 1) i j) : (mat n (mid arcs k i j)).set i (((mat n (mid arcs k i j)).getD i []).set j x) = mat n (mid arcs k i (j + 1)) := by
  refine mat_set hi fun a b _ _ => ?_
  by_cases h : a = i ∧ b = j
  · obtain ⟨rfl, rfl⟩ := h
    simp [mid, hx]
  · rw [if_neg h]
    simp only [mid]
    by_cases h2 : a < i ∨ (a = i ∧ b < j)
    · rw [if_pos h2, if_pos (by omega)]
    · rw [if_neg h2, if_neg (by omega)]
theorem mid_same {arcs : List Arc} {n k i j : Nat} (hx : fw arcs (k + 1) i j = fw arcs k i j) : mat n (mid arcs k i j) = mat n (mid arcs k i (j + 1)) := by
  refine mat_congr fun a b _ _ => ?_
  simp only [mid]
  by_cases h2 : a < i ∨ (a = i ∧ b < j)
  · rw [if_pos h2, if_pos (by omega)]
  · rw [if_neg h2]
    by_cases h3 : a = i ∧ b = j
    · obtain ⟨rfl, rfl⟩ := h3; rw [if_pos (by omega), hx]
    · rw [if_neg (by omega)]
theorem mid_ij (arcs : List Arc) (k i j : Nat) : mid arcs k i j i j = fw arcs k i j := by simp [mid]
theorem mid_col {n k : Nat} {arcs : List Arc} (G : FG n arcs k) (hk : k < n) (h0 : 0 ≤ fw arcs k k k) (i j : Nat) : mid arcs k i j i k = fw arcs k i k := by
  simp only [mid]; rw [fw_col G hk h0]; split <;> rfl
theorem mid_rowk {n k : Nat} {arcs : List Arc} (G : FG n arcs k) (hk : k < n) (h0 : 0 ≤ fw arcs k k k) (i j : Nat) : mid arcs k i j k j = fw arcs k k j := by
  simp only [mid]; rw [fw_row G hk h0]; split <;> rfl

/-! ### What 'Shortest' answers then -/
theorem bf_cycle {n f : Nat} {arcs : List Arc} {src x : Int} (hf : ∀ a ∈ arcs, Fits n a) (h0 : 0 ≤ src) (h1 : src < n) (hw : Wk arcs src src x) (hx : x < 0) : bf arcs f (d0 n src.toNat) = none := by
  cases hb : bf arcs f (d0 n src.toNat) with
  | none => rfl
  | some d =>
    exfalso
    have T := tight_of hf h0 h1 hb
    have hpot : ∀ v x, Wk arcs src v x → ∃ y, gd d v = some y ∧ y ≤ x := by
      intro v x hw
      induction hw with
      | nil => exact ⟨0, T.zero, Int.le_refl _⟩
      | step ha _ ih =>
        obtain ⟨y, hy, hyx⟩ := ih
        obtain ⟨z, hz, hzy⟩ := T.rest _ ha y hy
        exact ⟨z, hz, by omega⟩
    obtain ⟨y, hy, hyx⟩ := hpot src x hw
    rw [T.zero] at hy; cases hy; omega

/-- A list of distances, shifted by a lower bound. -/
def shift (n : Nat) (F : Nat → Int) (d : Ds) : Ds := (List.range n).map fun i => (d.getD i none).map (· - F i)
theorem shift_get {n : Nat} {F : Nat → Int} {d : Ds} {i : Nat} (h : i < n) : (shift n F d).getD i none = (d.getD i none).map (· - F i) := by simp [shift, List.getD, h]
theorem rests {n : Nat} {arcs : List Arc} {src : Int} {F : Nat → Int} (hf : ∀ a ∈ arcs, Fits n a) (hF : ∀ (v : Nat) x, v < n → Wk arcs src v x → F v ≤ x) : ∀ (c s : Nat) (d : Ds), d.length = n → WI n arcs src d → nones (shift n F d) = c → total (shift n F d) = s → ∃ m, ∀ a ∈ arcs, relaxV (iter arcs m d) a = none := by
  intro c
  induction c using Nat.strongRecOn with
  | _ c ihc =>
    intro s
    induction s using Nat.strongRecOn with
    | _ s ihs =>
      intro d hd hn hc hs
      cases hp : (pass arcs d).2 with
      | false => exact ⟨0, (rest_of_flag arcs d hp).1⟩
      | true =>
        have hmv := moved_of_flag arcs d hd hf hp
        have hn' := WI_run hf arcs d (fun a ha => ha) hd hn
        have hl' : (runD arcs d).length = n := by rw [runD_len, hd]
        have hle := runD_le arcs d hd hf
        have : ∃ m, ∀ a ∈ arcs, relaxV (iter arcs m (runD arcs d)) a = none := by
          rcases le_cases (d := shift n F (runD arcs d)) (e := shift n F d) (by simp [shift]) (fun i hi => by
              have hi' : i < n := by simpa [shift] using hi
              rw [shift_get hi', shift_get hi']
              have := hle (i : Int)
              simp only [gd, Int.toNat_natCast] at this
              cases h1 : d.getD i none with
              | none => trivial
              | some y =>
                rw [h1] at this
                obtain ⟨x, hx, hxy⟩ := this
                rw [hx]
                exact ⟨x - F i, rfl, by simp only; omega⟩) (fun i x hx => by
              rcases Nat.lt_or_ge i n with hi | hi
              · rw [shift_get hi] at hx
                cases h1 : (runD arcs d).getD i none with
                | none => rw [h1] at hx; cases hx
                | some y =>
                  rw [h1] at hx
                  cases hx
                  have := hF i y hi (hn' (i : Int) y (by omega) (by omega) (by simpa [gd] using h1))
                  simp only
                  omega
              · rw [List.getD_eq_getElem?_getD, List.getElem?_eq_none (by simpa [shift] using hi)] at hx; cases hx) with h | h | ⟨h1, h2⟩
          · refine absurd ?_ hmv
            apply List.ext_getElem (by omega)
            intro i h1 h2
            have e : (shift n F (runD arcs d)).getD i none = (shift n F d).getD i none := by rw [h]
            rw [shift_get (by omega), shift_get (by omega)] at e
            rw [getD_at h1, getD_at h2] at e
            cases ha : (runD arcs d)[i] <;> cases hb : d[i] <;> rw [ha, hb] at e <;> simp at e ⊢
            omega
          · exact ihc _ (by omega) _ _ hl' hn' rfl rfl
          · exact ihs _ (by omega) _ hl' hn' (by omega) rfl
        obtain ⟨m, hm⟩ := this
        exact ⟨m + 1, hm⟩

structure FEnd (n : Nat) (arcs : List Arc) (F : Nat → Nat → Int) : Prop where
  walk : ∀ i j, i < n → j < n → F i j = 1125899906842624 ∨ (Wk arcs (i : Int) (j : Int) (F i j) ∧ F i j < 1125899906842624)
  low : ∀ i j x, i < n → j < n → Wk arcs (i : Int) (j : Int) x → F i j < 1125899906842624 ∧ F i j ≤ x
theorem FG.done {n : Nat} {arcs : List Arc} (G : FG n arcs n) (hn : n ≤ 64) (hok : ∀ a ∈ arcs, arcOk n a) : FEnd n arcs (fw arcs n) := by
  refine ⟨fun i j hi hj => ?_, fun i j x hi hj hw => ?_⟩
  · rcases G.fin i j hi hj with h | ⟨h, _⟩
    · exact .inl h
    · rcases G.bd hn hi hj with h' | h'
      · exact .inl h'
      · exact .inr ⟨h, by omega⟩
  · have key : ∀ v x, Wk arcs (i : Int) v x → v.toNat < n ∧ fw arcs n i v.toNat < 1125899906842624 ∧ fw arcs n i v.toNat ≤ x := by
      intro v x hw
      induction hw with
      | nil =>
        have := G.diag i hi
        refine ⟨by omega, ?_, ?_⟩ <;> rw [Int.toNat_natCast] <;> omega
      | step ha _ ih =>
        rename_i a _ _
        obtain ⟨h1, h2, h3⟩ := ih
        have hak := hok a ha
        unfold arcOk at hak
        have h4 : fw arcs n a.src.toNat a.dst.toNat ≤ a.wt := Int.le_trans (fw_le0 arcs _ _ n) (fold_le_arc arcs _ ha rfl rfl)
        have h5 := G.tri i a.dst.toNat a.src.toNat hi (by omega) h1 h2 (by omega)
        have h6 := G.bd hn hi h1
        exact ⟨by omega, by omega, by omega⟩
    have := key _ _ hw
    rw [Int.toNat_natCast] at this
    exact this.2
/-- No entry of a row is beyond the limit. -/
def rowOk (l : List Int) : Prop := ∀ x ∈ l, x = 1125899906842624 ∨ (-1099511627776 ≤ x ∧ x ≤ 1099511627776)
instance (l : List Int) : Decidable (rowOk l) := by unfold rowOk; infer_instance
theorem floyd_short {n : Int} {arcs : List Arc} {F : Nat → Nat → Int} (hc : checkCode n arcs = 0) (E : FEnd n.toNat arcs F) {i : Nat} (hi : i < n.toNat) :
    shortR n arcs i n.toNat = if rowOk ((List.range n.toNat).map (F i)) then (0, (List.range n.toNat).map (F i)) else (5, []) := by
  obtain ⟨hn0, hn1, harcs⟩ := of_checkCode hc
  have hf : ∀ a ∈ arcs, Fits n.toNat a := fun ar har => by have := harcs ar har; unfold arcOk at this; exact ⟨by omega, by omega, by omega, by omega⟩
  have hWI : WI n.toNat arcs (i : Int) (d0 n.toNat i) := by
    intro v x hv0 hv1 hx
    unfold d0 at hx
    rw [show i = ((i : Int)).toNat from by simp, gd_set _ (i : Int) v _ (by omega) hv0 (by simp only [List.length_replicate]; omega), gd_replicate] at hx
    split at hx
    · rename_i e; cases hx; rw [e]; simpa using Wk.nil (arcs := arcs) (src := (i : Int))
    · cases hx
  have hb : bf arcs n.toNat (d0 n.toNat i) ≠ none := by
    obtain ⟨m, hm⟩ := rests (F := F i) hf (fun v x hv hw => (E.low i v x hi hv hw).2) _ _ (d0 n.toNat i) (d0_len _ _) hWI rfl rfl
    exact bf_of_rest hf (d0_len _ _) hm
  cases hd : bf arcs n.toNat (d0 n.toNat i) with
  | none => exact absurd hd hb
  | some d =>
    have T := tight_of (src := (i : Int)) hf (by omega) (by omega) (by simpa using hd)
    have hl := T.len
    have hW : WI n.toNat arcs (i : Int) d := by
      obtain ⟨m, he, _⟩ := bf_end _ _ _ hd
      obtain ⟨l, hlm, hit⟩ := iter_run arcs m (d0 n.toNat i)
      rw [he, hit]
      exact WI_run hf l _ hlm (d0_len _ _) hWI
    have hpot : ∀ v x, Wk arcs (i : Int) v x → ∃ y, gd d v = some y ∧ y ≤ x := by
      intro v x hw
      induction hw with
      | nil => exact ⟨0, T.zero, Int.le_refl _⟩
      | step ha _ ih =>
        obtain ⟨y, hy, hyx⟩ := ih
        obtain ⟨z, hz, hzy⟩ := T.rest _ ha y hy
        exact ⟨z, hz, by omega⟩
    have hval : ∀ j, j < n.toNat → encF 1125899906842624 (d.getD j none) = F i j ∧ (finB (d.getD j none) = true ↔ (F i j = 1125899906842624 ∨ (-1099511627776 ≤ F i j ∧ F i j ≤ 1099511627776))) := by
      intro j hj
      have hg : gd d (j : Int) = d.getD j none := by simp [gd]
      rcases E.walk i j hi hj with h | ⟨h, hlt⟩
      · cases hx : d.getD j none with
        | none => exact ⟨h.symm, by simp [finB, h]⟩
        | some y =>
          have := E.low i j y hi hj (hW (j : Int) y (by omega) (by omega) (by rw [hg, hx]))
          omega
      · obtain ⟨y, hy, hyx⟩ := hpot _ _ h
        have h2 := E.low i j y hi hj (hW (j : Int) y (by omega) (by omega) hy)
        rw [hg] at hy
        have : y = F i j := by omega
        subst this
        rw [hy]
        refine ⟨rfl, ?_⟩
        simp only [finB, Bool.and_eq_true, decide_eq_true_eq]
        omega
    have hmap : d.map (encF 1125899906842624) = (List.range n.toNat).map (F i) := by
      apply List.ext_getElem
      · simp [hl]
      · intro j h1 h2
        simp only [List.length_map] at h1
        have := (hval j (by omega)).1
        rw [getD_at h1] at this
        simpa using this
    have hfin : finOk d ↔ rowOk ((List.range n.toNat).map (F i)) := by
      constructor
      · intro h x hx
        obtain ⟨j, hj, rfl⟩ := List.mem_map.1 hx
        have hj := List.mem_range.1 hj
        exact (hval j hj).2.1 (List.all_eq_true.1 h _ (mem_getD none (by omega)))
      · intro h
        refine List.all_eq_true.2 fun x hx => ?_
        obtain ⟨j, hj, rfl⟩ := List.getElem_of_mem hx
        have := (hval j (by omega)).2.2 (h _ (List.mem_map.2 ⟨j, List.mem_range.2 (by omega), rfl⟩))
        rwa [getD_at hj] at this
    rw [shortR_some hc (by omega) (by simpa using hd), hmap]
    by_cases h : finOk d
    · rw [if_pos h, if_pos (hfin.1 h)]
    · rw [if_neg h, if_neg fun hh => h (hfin.2 hh)]
theorem floyd_cycle {n : Int} {arcs : List Arc} (hc : checkCode n arcs = 0) {i : Nat} (hi : i < n.toNat) {x : Int} (hw : Wk arcs (i : Int) (i : Int) x) (hx : x < 0) (f : Nat) : shortR n arcs i f = (21, []) := by
  obtain ⟨hn0, hn1, harcs⟩ := of_checkCode hc
  have hf : ∀ a ∈ arcs, Fits n.toNat a := fun ar har => by have := harcs ar har; unfold arcOk at this; exact ⟨by omega, by omega, by omega, by omega⟩
  exact shortR_none hc (by omega) (bf_cycle hf (by omega) (by omega) hw hx)

/-! ### What 'Floyd' answers -/
def floydC (n : Int) (arcs : List Arc) : Int :=
  if checkCode n arcs ≠ 0 then checkCode n arcs else if 64 < n then 5 else
  if ((List.range n.toNat).any fun i => (shortR n arcs i n.toNat).1 == 21) = true then 21 else
  if ((List.range n.toNat).any fun i => !((shortR n arcs i n.toNat).1 == 0)) = true then 5 else 0
def floydR (n : Int) (arcs : List Arc) : Int × List (List Int) := (floydC n arcs, if floydC n arcs = 0 then (List.range n.toNat).map fun (i : Nat) => (shortR n arcs i n.toNat).2 else [])
theorem floydR_of {n : Int} {arcs : List Arc} {c : Int} (h : floydC n arcs = c) (hc : c ≠ 0) : floydR n arcs = (c, []) := by simp [floydR, h, hc]
theorem floydC_bad {n : Int} {arcs : List Arc} (h : checkCode n arcs ≠ 0) : floydC n arcs = checkCode n arcs := by simp [floydC, h]
theorem floydC_large {n : Int} {arcs : List Arc} (h : checkCode n arcs = 0) (h1 : 64 < n) : floydC n arcs = 5 := by simp [floydC, h, h1]
theorem floydC_cycle {n : Int} {arcs : List Arc} (h : checkCode n arcs = 0) (h1 : n ≤ 64) {i : Nat} (hi : i < n.toNat) (h2 : (shortR n arcs i n.toNat).1 = 21) : floydC n arcs = 21 := by
  have ha : ((List.range n.toNat).any fun i => (shortR n arcs i n.toNat).1 == 21) = true := List.any_eq_true.2 ⟨i, List.mem_range.2 hi, by rw [h2]; rfl⟩
  simp only [floydC, h, ne_eq, not_true, if_false, show ¬ 64 < n from by omega, ha, if_true]
theorem floydC_5 {n : Int} {arcs : List Arc} (h : checkCode n arcs = 0) (h1 : n ≤ 64) (h2 : ∀ i : Nat, i < n.toNat → (shortR n arcs i n.toNat).1 ≠ 21) {i : Nat} (hi : i < n.toNat) (h3 : (shortR n arcs i n.toNat).1 ≠ 0) : floydC n arcs = 5 := by
  have ha : ¬ ((List.range n.toNat).any fun i => (shortR n arcs i n.toNat).1 == 21) = true := fun hh => by
    obtain ⟨j, hj, he⟩ := List.any_eq_true.1 hh
    exact h2 j (List.mem_range.1 hj) (by simpa using he)
  have hb : ((List.range n.toNat).any fun i => !((shortR n arcs i n.toNat).1 == 0)) = true := List.any_eq_true.2 ⟨i, List.mem_range.2 hi, by simpa using h3⟩
  simp only [floydC, h, ne_eq, not_true, if_false, show ¬ 64 < n from by omega, ha, hb, if_true, Bool.false_eq_true]
theorem floydC_0 {n : Int} {arcs : List Arc} (h : checkCode n arcs = 0) (h1 : n ≤ 64) (h2 : ∀ i : Nat, i < n.toNat → (shortR n arcs i n.toNat).1 = 0) : floydC n arcs = 0 := by
  have ha : ¬ ((List.range n.toNat).any fun i => (shortR n arcs i n.toNat).1 == 21) = true := fun hh => by
    obtain ⟨j, hj, he⟩ := List.any_eq_true.1 hh
    have := h2 j (List.mem_range.1 hj)
    simp [this] at he
  have hb : ¬ ((List.range n.toNat).any fun i => !((shortR n arcs i n.toNat).1 == 0)) = true := fun hh => by
    obtain ⟨j, hj, he⟩ := List.any_eq_true.1 hh
    have := h2 j (List.mem_range.1 hj)
    simp [this] at he
  simp only [floydC, h, ne_eq, not_true, if_false, show ¬ 64 < n from by omega, ha, hb, if_false, Bool.false_eq_true]
theorem floydC_zero {n : Int} {arcs : List Arc} (h : floydC n arcs = 0) : checkCode n arcs = 0 ∧ n ≤ 64 ∧ ∀ i : Nat, i < n.toNat → (shortR n arcs i n.toNat).1 = 0 := by
  unfold floydC at h
  split at h
  · rename_i hc; exact absurd h hc
  · rename_i hc
    split at h
    · cases h
    · split at h
      · cases h
      · split at h
        · cases h
        · rename_i h1 h2 h3
          refine ⟨by simpa using hc, by omega, fun i hi => ?_⟩
          simp only [List.any_eq_true, List.mem_range, Bool.not_eq_true', beq_eq_false_iff_ne, ne_eq, not_exists, not_and, Decidable.not_not] at h3
          exact h3 i hi
theorem floyd_large {n : Int} {arcs : List Arc} {F : Nat → Nat → Int} (hc : checkCode n arcs = 0) (hn : n ≤ 64) (E : FEnd n.toNat arcs F) {i : Nat} (hi : i < n.toNat) (hb : ¬ rowOk ((List.range n.toNat).map (F i))) : floydR n arcs = (5, []) := by
  refine floydR_of (floydC_5 hc hn (fun j hj => ?_) hi ?_) (by decide)
  · rw [floyd_short hc E hj]; split <;> simp
  · rw [floyd_short hc E hi, if_neg hb]; simp
theorem floyd_fine {n : Int} {arcs : List Arc} {F : Nat → Nat → Int} (hc : checkCode n arcs = 0) (hn : n ≤ 64) (E : FEnd n.toNat arcs F) (hb : ∀ i, i < n.toNat → rowOk ((List.range n.toNat).map (F i))) : floydR n arcs = (0, mat n.toNat F) := by
  have h0 : floydC n arcs = 0 := floydC_0 hc hn fun j hj => by rw [floyd_short hc E hj, if_pos (hb j hj)]
  simp only [floydR, h0, if_true, mat]
  congr 1
  apply List.map_congr_left
  intro i hi
  rw [floyd_short hc E (List.mem_range.1 hi), if_pos (hb i (List.mem_range.1 hi))]

/-! ### The matrix at the start -/
def initR (n i : Nat) (r : List Int) : List (List Int) := (List.range n).map fun a => if a < i then (List.range n).map (fwB a) else if a = i then r else []
def initJ (n i j : Nat) : List Int := (List.range n).map fun b => if b < j then fwB i b else 0
theorem initR_len (n i : Nat) (r : List Int) : (initR n i r).length = n := by simp [initR]
theorem initR_get {n i : Nat} {r : List Int} (h : i < n) : (initR n i r).getD i [] = r := by simp [initR, List.getD, h]
theorem initR_set {n i : Nat} {r r' : List Int} : (initR n i r).set i r' = initR n i r' := by
  apply List.ext_getElem
  · simp [initR]
  · intro a h1 h2
    simp only [initR, List.getElem_set, List.getElem_map, List.getElem_range]
    by_cases h : i = a
    · subst h; simp
    · rw [if_neg h]
      have : ¬ a = i := fun e => h e.symm
      simp only [this, if_false]
theorem initR_start (n : Nat) : List.replicate n [] = initR n 0 [] := by
  apply List.ext_getElem
  · simp [initR]
  · intro a h1 h2; simp [initR]
theorem initR_next (n i : Nat) : initR n i (initJ n i n) = initR n (i + 1) [] := by
  unfold initR
  apply List.map_congr_left
  intro a ha
  by_cases h : a < i
  · rw [if_pos h, if_pos (by omega)]
  · by_cases h2 : a = i
    · subst h2
      rw [if_neg h, if_pos rfl, if_pos (by omega)]
      unfold initJ
      apply List.map_congr_left
      intro b hb
      rw [if_pos (List.mem_range.1 hb)]
    · rw [if_neg h, if_neg h2, if_neg (by omega)]; simp
theorem initR_end (n : Nat) : initR n n [] = mat n (fwA []) := by
  unfold initR mat
  apply List.map_congr_left
  intro a ha
  rw [if_pos (List.mem_range.1 ha)]; rfl
theorem initJ_start (n i : Nat) : List.replicate n 0 = initJ n i 0 := by
  apply List.ext_getElem
  · simp [initJ]
  · intro a h1 h2; simp [initJ]
theorem initJ_len (n i j : Nat) : (initJ n i j).length = n := by simp [initJ]
theorem initJ_set {n i j : Nat} (h : i ≠ j) : (initJ n i j).set j 1125899906842624 = initJ n i (j + 1) := by
  apply List.ext_getElem
  · simp [initJ]
  · intro b h1 h2
    simp only [initJ, List.getElem_set, List.getElem_map, List.getElem_range]
    by_cases hb : j = b
    · subst hb
      rw [if_pos rfl, if_pos (by omega)]; simp [fwB, h]
    · rw [if_neg hb]
      by_cases hlt : b < j
      · rw [if_pos hlt, if_pos (by omega)]
      · rw [if_neg hlt, if_neg (by omega)]
theorem initJ_same {n i j : Nat} (h : i = j) : initJ n i j = initJ n i (j + 1) := by
  unfold initJ
  apply List.map_congr_left
  intro b hb
  by_cases hlt : b < j
  · rw [if_pos hlt, if_pos (by omega)]
  · rw [if_neg hlt]
    by_cases hbj : b = j
    · rw [if_pos (by omega)]; subst hbj; simp [fwB, h]
    · rw [if_neg (by omega)]
theorem fwA_step {n : Nat} {l : List Arc} {a : Arc} {x : Int} (h1 : a.src.toNat < n) (hx : x = min (fwA l a.src.toNat a.dst.toNat) a.wt) : (mat n (fwA l)).set a.src.toNat (((mat n (fwA l)).getD a.src.toNat []).set a.dst.toNat x) = mat n (fwA (l ++ [a])) := by
  refine mat_set h1 fun i j _ _ => ?_
  rw [fwA_snoc]
  simp only [fwS]
  by_cases h : i = a.src.toNat ∧ j = a.dst.toNat
  · obtain ⟨rfl, rfl⟩ := h
    rw [if_pos ⟨rfl, rfl⟩, if_pos ⟨rfl, rfl⟩, hx]
  · rw [if_neg (fun hh => h ⟨hh.1.symm, hh.2.symm⟩), if_neg h]
theorem fwA_bd {n : Nat} {l : List Arc} (hok : ∀ a ∈ l, arcOk n a) (i j : Nat) : -1099511627776 ≤ fwA l i j ∧ fwA l i j ≤ 1125899906842624 := by
  rcases fold_val (i := i) (j := j) l (fwB i j) with h | ⟨a, ha, _, _, h⟩
  · have : fwA l i j = fwB i j := h
    rw [this]; unfold fwB; split <;> omega
  · have : fwA l i j = a.wt := h
    have := hok a ha
    unfold arcOk at this
    omega
end Go.Proofs.Ytlfhflgafeblnaa
