/-
  The plain law of the least topological order: runs, and the degrees that count the arcs from nodes that have not come yet.
-/
import Derived.Test.YtlfhflgafeblnaaGReach
namespace Go.Proofs.Ytlfhflgafeblnaa
open Go.Sl

/-- A node that may come next. -/
def Free (arcs : List Arc) (L out : List Int) (v : Int) : Prop := v ∈ L ∧ v ∉ out ∧ ∀ a ∈ arcs, a.dst = v → a.src ∈ out
/-- What the greedy order has put down so far. -/
inductive Run (arcs : List Arc) (L : List Int) : List Int → Prop
  | nil : Run arcs L []
  | snoc {out : List Int} {v : Int} : Run arcs L out → Free arcs L out v → (∀ u, Free arcs L out u → v ≤ u) → Run arcs L (out ++ [v])
variable {arcs : List Arc} {L out o1 o2 : List Int}
theorem Run.at (h : Run arcs L out) : ∀ k (hk : k < out.length), Free arcs L (out.take k) out[k] ∧ ∀ u, Free arcs L (out.take k) u → out[k] ≤ u := by
  induction h with
  | nil => intro k hk; simp at hk
  | @snoc out v _ hf hm ih =>
    intro k hk
    simp only [List.length_append, List.length_cons, List.length_nil] at hk
    by_cases hkl : k < out.length
    · rw [List.take_append_of_le_length (by omega), List.getElem_append_left hkl]
      exact ih k hkl
    · have : k = out.length := by omega
      subst this
      rw [List.take_left, List.getElem_append_right (Nat.le_refl _)]
      simpa using ⟨hf, hm⟩
theorem Run.same (h1 : Run arcs L o1) (h2 : Run arcs L o2) : ∀ k, k ≤ o1.length → k ≤ o2.length → o1.take k = o2.take k
  | 0, _, _ => rfl
  | k + 1, l1, l2 => by
    have ih := Run.same h1 h2 k (by omega) (by omega)
    obtain ⟨f1, m1⟩ := h1.at k (by omega)
    obtain ⟨f2, m2⟩ := h2.at k (by omega)
    rw [ih] at f1 m1
    have e : o1[k] = o2[k] := by
      have := m1 _ f2
      have := m2 _ f1
      omega
    rw [List.take_succ_eq_append_getElem (by omega), List.take_succ_eq_append_getElem (by omega), ih, e]
theorem Run.le (h1 : Run arcs L o1) (h2 : Run arcs L o2) (hm : ∀ u, ¬ Free arcs L o1 u) : o2.length ≤ o1.length := by
  rcases Nat.lt_or_ge o1.length o2.length with h | h
  · exfalso
    have e := Run.same h1 h2 o1.length (Nat.le_refl _) (by omega)
    rw [List.take_length] at e
    have := (h2.at o1.length h).1
    rw [← e] at this
    exact hm _ this
  · exact h
theorem Run.unique (h1 : Run arcs L o1) (h2 : Run arcs L o2) (hl : o1.length = o2.length) : o1 = o2 := by
  have := Run.same h1 h2 o1.length (Nat.le_refl _) (by omega)
  rwa [List.take_length, hl, List.take_length] at this
theorem Run.nodup (h : Run arcs L out) : out.Nodup := by
  induction h with
  | nil => exact List.nodup_nil
  | snoc _ hf _ ih =>
    rw [List.nodup_append]
    refine ⟨ih, List.nodup_cons.2 ⟨by simp, List.nodup_nil⟩, fun a ha b hb => ?_⟩
    rw [List.mem_singleton.1 hb]
    exact fun e => hf.2.1 (e ▸ ha)
theorem Run.sub (h : Run arcs L out) : ∀ v ∈ out, v ∈ L := by
  induction h with
  | nil => intro v hv; cases hv
  | snoc _ hf _ ih =>
    intro v hv
    rcases List.mem_append.1 hv with hv | hv
    · exact ih v hv
    · rw [List.mem_singleton.1 hv]; exact hf.1
theorem Run.done (h : Run arcs L out) : ∀ u ∈ out, ∀ a ∈ arcs, a.dst = u → a.src ∈ out := by
  induction h with
  | nil => intro v hv; cases hv
  | snoc _ hf _ ih =>
    intro u hu a ha hd
    rcases List.mem_append.1 hu with hu | hu
    · exact List.mem_append_left _ (ih u hu a ha hd)
    · rw [List.mem_singleton.1 hu] at hd
      exact List.mem_append_left _ (hf.2.2 a ha hd)
theorem nodup_len : ∀ (n : Nat) (l : List Int), l.Nodup → (∀ v ∈ l, 0 ≤ v ∧ v < n) → l.length ≤ n
  | 0, l, _, h => by
    cases l with
    | nil => exact Nat.le_refl _
    | cons a l => have := h a List.mem_cons_self; omega
  | n + 1, l, hn, h => by
    by_cases hm : (n : Int) ∈ l
    · have h1 := nodup_len n (l.erase n) (hn.erase _) fun v hv => by
        have hv' := (hn.mem_erase_iff).1 hv
        have := h v hv'.2
        have := hv'.1
        omega
      rw [List.length_erase_of_mem hm] at h1
      omega
    · have := nodup_len n l hn fun v hv => by
        have := h v hv
        have : v ≠ n := fun e => hm (e ▸ hv)
        omega
      omega

/-! ### Degrees -/
def dg (arcs : List Arc) (out : List Int) (u : Int) : Nat := arcs.countP fun a => a.dst == u && !out.contains a.src
theorem dg_zero {u : Int} : dg arcs out u = 0 ↔ ∀ a ∈ arcs, a.dst = u → a.src ∈ out := by
  simp only [dg, List.countP_eq_zero, Bool.and_eq_true, beq_iff_eq, Bool.not_eq_true', not_and, Bool.not_eq_false, List.contains_iff_mem]
theorem free_iff {u : Int} : Free arcs L out u ↔ u ∈ L ∧ u ∉ out ∧ dg arcs out u = 0 := by rw [dg_zero]; rfl
theorem dg_pop {v u : Int} (hv : v ∉ out) (hv0 : 0 ≤ v) (hs : ∀ a ∈ arcs, 0 ≤ a.src) : dg arcs out u = dg arcs (out ++ [v]) u + (succL arcs v.toNat).count u := by
  unfold dg succL
  induction arcs with
  | nil => simp
  | cons a l ih =>
    have ih := ih fun b hb => hs b (List.mem_cons_of_mem _ hb)
    have h0 := hs a List.mem_cons_self
    rw [List.countP_cons, List.countP_cons, List.filter_cons, ih]
    by_cases hav : a.src = v
    · have e1 : (a.src.toNat == v.toNat) = true := by simp [hav]
      have e2 : out.contains a.src = false := by simpa [hav] using hv
      have e3 : (out ++ [v]).contains a.src = true := by simp [hav]
      rw [if_pos e1, List.map_cons, List.count_cons]
      simp only [e2, e3, Bool.not_false, Bool.not_true, Bool.and_true, Bool.and_false, Bool.false_eq_true, if_false]
      omega
    · have e1 : (a.src.toNat == v.toNat) = false := by simp; omega
      have e3 : (out ++ [v]).contains a.src = out.contains a.src := by simp [hav]
      have e4 : (if (a.src.toNat == v.toNat) = true then a :: List.filter (fun a => a.src.toNat == v.toNat) l else List.filter (fun a => a.src.toNat == v.toNat) l) = List.filter (fun a => a.src.toNat == v.toNat) l := by rw [e1]; rfl
      rw [e4, e3]
      omega
def degL (n : Nat) (f : Int → Nat) : List Int := (List.range n).map fun (u : Nat) => ((f (u : Int) : Nat) : Int)
theorem degL_len (n : Nat) (f : Int → Nat) : (degL n f).length = n := by simp [degL]
theorem degL_get {n : Nat} {f : Int → Nat} {u : Int} (h0 : 0 ≤ u) (h1 : u < n) : (degL n f).getD u.toNat tInt.dflt = f u := by
  have : u.toNat < n := by omega
  have e : ((u.toNat : Nat) : Int) = u := Int.toNat_of_nonneg h0
  simp [degL, List.getD, this, e]
theorem degL_set {n : Nat} {f g : Int → Nat} {u x : Int} (h0 : 0 ≤ u) (hx : x = g u) (hg : ∀ v, v ≠ u → g v = f v) : (degL n f).set u.toNat x = degL n g := by
  apply List.ext_getElem
  · simp [degL]
  · intro k h1 h2
    simp only [degL, List.getElem_set, List.getElem_map, List.getElem_range]
    by_cases hk : u.toNat = k
    · rw [if_pos hk, hx]
      have : u = (k : Int) := by omega
      rw [this]
    · rw [if_neg hk, hg (k : Int) (by omega)]
theorem degL_congr {n : Nat} {f g : Int → Nat} (h : ∀ u, f u = g u) : degL n f = degL n g := by
  have : f = g := funext h
  rw [this]
def cd (arcs : List Arc) (k : Nat) (u : Int) : Nat := (arcs.take k).countP fun a => a.dst == u
theorem cd_zero (n : Nat) : List.replicate n 0 = degL n (cd arcs 0) := by
  apply List.ext_getElem
  · simp [degL]
  · intro k h1 h2; simp [degL, cd]
theorem cd_succ {k : Nat} (hk : k < arcs.length) (u : Int) : cd arcs (k + 1) u = cd arcs k u + if (arcs.getD k tArc.dflt).dst = u then 1 else 0 := by
  have : arcs.take (k + 1) = arcs.take k ++ [arcs.getD k tArc.dflt] := by
    rw [List.take_succ_eq_append_getElem hk]; simp [List.getD, hk]
  simp only [cd, this, List.countP_append, List.countP_singleton, beq_iff_eq]
theorem cd_all {k : Nat} (hk : arcs.length ≤ k) (u : Int) : cd arcs k u = dg arcs [] u := by
  simp only [cd, dg, List.take_of_length_le hk, List.contains_nil, Bool.not_false, Bool.and_true]
theorem cd_le (k : Nat) (u : Int) : cd arcs k u ≤ arcs.length := by
  refine Nat.le_trans List.countP_le_length ?_
  simp only [List.length_take]; omega

/-- In the middle: 'rest' are the successors of the last node that have not been looked at. -/
def md (arcs : List Arc) (out rest : List Int) (u : Int) : Nat := dg arcs out u + rest.count u
theorem md_le (arcs : List Arc) (out rest : List Int) (u : Int) : md arcs out rest u ≤ arcs.length + rest.length := by
  have h1 : dg arcs out u ≤ arcs.length := List.countP_le_length
  have h2 : rest.count u ≤ rest.length := List.count_le_length
  unfold md; omega
structure OM (arcs : List Arc) (L : List Int) (n : Nat) (out rest hs : List Int) : Prop where
  run : Run arcs L out
  zero : ∀ u ∈ out, md arcs out rest u = 0
  nd : hs.Nodup
  mem : ∀ u, u ∈ hs ↔ (u ∈ L ∧ u ∉ out ∧ md arcs out rest u = 0)
theorem OM.pop {n : Nat} {hs ys : List Int} {v : Int} (hr : Run arcs L out) (hnd : hs.Nodup) (hmem : ∀ u, u ∈ hs ↔ Free arcs L out u) (hp : hs.Perm (v :: ys)) (hmin : ∀ x ∈ hs, v ≤ x) (hL : ∀ v ∈ L, 0 ≤ v ∧ v < n) (hs0 : ∀ a ∈ arcs, 0 ≤ a.src) :
    OM arcs L n (out ++ [v]) (succL arcs v.toNat) ys := by
  have hv : v ∈ hs := hp.mem_iff.2 List.mem_cons_self
  have hf := (hmem v).1 hv
  have hnd' := hp.nodup_iff.1 hnd
  have hv0 := (hL v hf.1).1
  have key : ∀ u, md arcs (out ++ [v]) (succL arcs v.toNat) u = dg arcs out u := fun u => (dg_pop hf.2.1 hv0 hs0).symm
  refine ⟨.snoc hr hf fun u hu => hmin u ((hmem u).2 hu), fun u hu => ?_, (List.nodup_cons.1 hnd').2, fun u => ?_⟩
  · rw [key]
    rcases List.mem_append.1 hu with hu | hu
    · exact dg_zero.2 (hr.done u hu)
    · rw [List.mem_singleton.1 hu]; exact dg_zero.2 hf.2.2
  · rw [key]
    constructor
    · intro hu
      have h1 := (hmem u).1 (hp.mem_iff.2 (List.mem_cons_of_mem _ hu))
      refine ⟨h1.1, fun hm => ?_, dg_zero.2 h1.2.2⟩
      rcases List.mem_append.1 hm with hm | hm
      · exact h1.2.1 hm
      · rw [List.mem_singleton.1 hm] at hu; exact (List.nodup_cons.1 hnd').1 hu
    · rintro ⟨h1, h2, h3⟩
      have hu : u ∈ hs := (hmem u).2 ⟨h1, fun hm => h2 (List.mem_append_left _ hm), dg_zero.1 h3⟩
      rcases List.mem_cons.1 (hp.mem_iff.1 hu) with e | hu
      · exact absurd (List.mem_append_right _ (by rw [e]; exact List.mem_singleton.2 rfl)) h2
      · exact hu
theorem md_cons {w u : Int} {rest : List Int} : md arcs out (w :: rest) u = md arcs out rest u + if w = u then 1 else 0 := by
  simp only [md, List.count_cons, beq_iff_eq]; omega
theorem OM.keep {n : Nat} {rest hs : List Int} {w : Int} (h : OM arcs L n out (w :: rest) hs) (hne : md arcs out rest w ≠ 0) : OM arcs L n out rest hs := by
  refine ⟨h.run, fun u hu => ?_, h.nd, fun u => ?_⟩
  · have := h.zero u hu; rw [md_cons] at this; omega
  · rw [h.mem u, md_cons]
    by_cases hw : w = u
    · subst hw; simp [hne]
    · rw [if_neg hw, Nat.add_zero]
theorem OM.fresh {n : Nat} {rest hs : List Int} {w : Int} (h : OM arcs L n out (w :: rest) hs) : w ∉ out ∧ w ∉ hs := by
  constructor
  · intro hm; have := h.zero w hm; rw [md_cons, if_pos rfl] at this; omega
  · intro hm; have := ((h.mem w).1 hm).2.2; rw [md_cons, if_pos rfl] at this; omega
theorem OM.push {n : Nat} {rest hs ys : List Int} {w : Int} (h : OM arcs L n out (w :: rest) hs) (hw : w ∈ L) (h0 : md arcs out rest w = 0) (hp : ys.Perm (w :: hs)) : OM arcs L n out rest ys := by
  obtain ⟨h1, h2⟩ := h.fresh
  refine ⟨h.run, fun u hu => ?_, hp.nodup_iff.2 (List.nodup_cons.2 ⟨h2, h.nd⟩), fun u => ?_⟩
  · have := h.zero u hu; rw [md_cons] at this; omega
  · rw [hp.mem_iff, List.mem_cons, h.mem u, md_cons]
    by_cases hwu : w = u
    · subst hwu; simp [hw, h1, h0]
    · rw [if_neg hwu, Nat.add_zero]
      constructor
      · rintro (e | e)
        · exact absurd e.symm hwu
        · exact e
      · exact .inr
theorem OM.end {n : Nat} {hs : List Int} (h : OM arcs L n out [] hs) : ∀ u, u ∈ hs ↔ Free arcs L out u := fun u => by
  rw [h.mem u, free_iff]; simp [md]
theorem OM.len {n : Nat} {rest hs : List Int} (h : OM arcs L n out rest hs) (hL : ∀ v ∈ L, 0 ≤ v ∧ v < n) : hs.length ≤ n := nodup_len n hs h.nd fun v hv => hL v ((h.mem v).1 hv).1
theorem Run.len {n : Nat} (h : Run arcs L out) (hL : ∀ v ∈ L, 0 ≤ v ∧ v < n) : out.length ≤ n := nodup_len n out h.nodup fun v hv => hL v (h.sub v hv)

/-! ### All nodes -/
def idL (n : Nat) : List Int := (List.range n).map fun (i : Nat) => (i : Int)
theorem mem_idL {n : Nat} {v : Int} : v ∈ idL n ↔ 0 ≤ v ∧ v < n := by
  simp only [idL, List.mem_map, List.mem_range]
  constructor
  · rintro ⟨i, hi, rfl⟩; omega
  · rintro ⟨h0, h1⟩; exact ⟨v.toNat, by omega, by omega⟩
theorem idL_nodup (n : Nat) : (idL n).Nodup := by
  unfold idL
  refine List.Pairwise.map _ (fun a b (h : a ≠ b) => ?_) (List.nodup_range (n := n))
  exact fun e => h (by omega)
def fillL (n k : Nat) : List Int := (List.range n).map fun (i : Nat) => if i < k then (i : Int) else 0
theorem fillL_len (n k : Nat) : (fillL n k).length = n := by simp [fillL]
theorem fillL_zero (n : Nat) : List.replicate n 0 = fillL n 0 := by
  apply List.ext_getElem
  · simp [fillL]
  · intro i h1 h2; simp [fillL]
theorem fillL_set (n k : Nat) : (fillL n k).set k (k : Int) = fillL n (k + 1) := by
  apply List.ext_getElem
  · simp [fillL]
  · intro i h1 h2
    simp only [fillL, List.getElem_set, List.getElem_map, List.getElem_range]
    by_cases h : k = i
    · subst h; rw [if_pos rfl, if_pos (by omega)]
    · rw [if_neg h]
      by_cases hl : i < k
      · rw [if_pos hl, if_pos (by omega)]
      · rw [if_neg hl, if_neg (by omega)]
theorem fillL_all (n : Nat) : fillL n n = idL n := by
  unfold fillL idL
  apply List.map_congr_left
  intro i hi
  rw [if_pos (List.mem_range.1 hi)]
/-- What 'Order' answers. -/
def OrdRes (n : Int) (arcs : List Arc) (c : Int) (l : List Int) : Prop :=
  if checkCode n arcs = 0 then ∃ out, Run arcs (idL n.toNat) out ∧ (∀ u, ¬ Free arcs (idL n.toNat) out u) ∧ (c, l) = if out.length < n.toNat then (21, []) else (0, out)
  else (c, l) = (checkCode n arcs, [])
theorem OrdRes.fn {n : Int} {arcs : List Arc} {c c' : Int} {l l' : List Int} (h : OrdRes n arcs c l) (h' : OrdRes n arcs c' l') : c = c' ∧ l = l' := by
  unfold OrdRes at h h'
  split at h
  · rename_i hc
    rw [if_pos hc] at h'
    obtain ⟨o, r, m, e⟩ := h
    obtain ⟨o', r', m', e'⟩ := h'
    have l1 := r.le r' m
    have l2 := r'.le r m'
    have := r.unique r' (by omega)
    subst this
    rw [← e'] at e
    cases e; exact ⟨rfl, rfl⟩
  · rename_i hc
    rw [if_neg hc] at h'
    rw [← h'] at h
    cases h; exact ⟨rfl, rfl⟩
theorem full_max {n : Nat} {arcs : List Arc} {out : List Int} (h : Run arcs (idL n) out) (hl : n ≤ out.length) : ∀ u, ¬ Free arcs (idL n) out u := by
  intro u hu
  have hn : (out ++ [u]).Nodup := by
    rw [List.nodup_append]
    refine ⟨h.nodup, List.nodup_cons.2 ⟨by simp, List.nodup_nil⟩, fun a ha b hb => ?_⟩
    rw [List.mem_singleton.1 hb]
    exact fun e => hu.2.1 (e ▸ ha)
  have := nodup_len n _ hn fun v hv => by
    rcases List.mem_append.1 hv with hv | hv
    · exact mem_idL.1 (h.sub v hv)
    · rw [List.mem_singleton.1 hv]; exact mem_idL.1 hu.1
  simp at this
  omega
/-- The least free node from m on, or -1. -/
def Cho (F : Int → Prop) (m : Nat) (c : Int) : Prop := (c = -1 ∧ ∀ u, (m : Int) ≤ u → ¬ F u) ∨ (F c ∧ (m : Int) ≤ c ∧ ∀ u, (m : Int) ≤ u → F u → c ≤ u)
theorem Cho.skip {F : Int → Prop} {m : Nat} {c : Int} (h : Cho F (m + 1) c) (hn : ¬ F m) : Cho F m c := by
  rcases h with ⟨h1, h2⟩ | ⟨h1, h2, h3⟩
  · refine .inl ⟨h1, fun u hu hf => ?_⟩
    by_cases e : u = m
    · subst e; exact hn hf
    · exact h2 u (by omega) hf
  · refine .inr ⟨h1, by omega, fun u hu hf => ?_⟩
    by_cases e : u = m
    · subst e; exact absurd hf hn
    · exact h3 u (by omega) hf
theorem Cho.take {F : Int → Prop} {m : Nat} (hf : F m) : Cho F m m := .inr ⟨hf, Int.le_refl _, fun _ hu _ => hu⟩
end Go.Proofs.Ytlfhflgafeblnaa
