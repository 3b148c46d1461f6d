/-
  Which nodes can be reached, in plain Lean.
-/
import Derived.Test.YtlfhflgafeblnaaGMath
import Derived.Test.YtlfhflgafeblnaaSlApp
namespace Go.Proofs.Ytlfhflgafeblnaa
open Go.Sl

inductive Rch (arcs : List Arc) (fr : List Int) : Int → Prop
  | start {v : Int} : v ∈ fr → Rch arcs fr v
  | step {a : Arc} : a ∈ arcs → Rch arcs fr a.src → Rch arcs fr a.dst
open Classical in
noncomputable def reachL (n : Int) (arcs : List Arc) (fr : List Int) : List Bool := (List.range n.toNat).map fun (v : Nat) => decide (Rch arcs fr v)
def frOk (n : Int) (fr : List Int) : Prop := ∀ v ∈ fr, 0 ≤ v ∧ v < n
instance (n : Int) (fr : List Int) : Decidable (frOk n fr) := by unfold frOk; infer_instance
/-- The code and the nodes. -/
noncomputable def reachR (n : Int) (arcs : List Arc) (fr : List Int) : Int × List Bool :=
  if checkCode n arcs ≠ 0 then (checkCode n arcs, []) else if frOk n fr then (0, reachL n arcs fr) else (1, [])
theorem reachR_bad {n : Int} {arcs : List Arc} {fr : List Int} (h : checkCode n arcs ≠ 0) : reachR n arcs fr = (checkCode n arcs, []) := by simp [reachR, h]
theorem reachR_fr {n : Int} {arcs : List Arc} {fr : List Int} (h : checkCode n arcs = 0) {k : Nat} (hk : k < fr.length) (hb : fr.getD k tInt.dflt < 0 ∨ n ≤ fr.getD k tInt.dflt) : reachR n arcs fr = (1, []) := by
  have : ¬ frOk n fr := fun hh => by
    have := hh _ (mem_getD tInt.dflt hk)
    omega
  simp [reachR, h, this]
theorem reachR_ok {n : Int} {arcs : List Arc} {fr : List Int} (h : checkCode n arcs = 0) (hf : frOk n fr) : reachR n arcs fr = (0, reachL n arcs fr) := by simp [reachR, h, hf]
theorem frOk_of {n : Int} {fr : List Int} (h : ∀ i, i < fr.length → 0 ≤ fr.getD i tInt.dflt ∧ fr.getD i tInt.dflt < n) : frOk n fr := fun v hv => by
  obtain ⟨i, hi, rfl⟩ := List.getElem_of_mem hv
  have := h i hi
  simpa [List.getD, hi] using this

theorem checkCode_arcs {n : Int} {arcs : List Arc} (h : checkCode n arcs = 0) : arcs.length ≤ 65536 := by
  unfold checkCode at h
  split at h
  · cases h
  · split at h
    · cases h
    · omega
theorem getD_at {α : Type} {l : List α} {d : α} {i : Nat} (h : i < l.length) : l.getD i d = l[i] := by simp [List.getD, h]
def sb (seen : List Bool) (v : Int) : Bool := seen.getD v.toNat false
theorem sb_set {seen : List Bool} {v u : Int} (hv : v.toNat < seen.length) : sb (seen.set v.toNat true) u = true ↔ u.toNat = v.toNat ∨ sb seen u = true := by
  simp only [sb, List.getD_eq_getElem?_getD, List.getElem?_set]
  by_cases h : v.toNat = u.toNat
  · simp [h, show u.toNat < seen.length by omega]
  · have h' : u.toNat ≠ v.toNat := fun e => h e.symm
    simp [h, h']
def unseen (seen : List Bool) : Nat := seen.count false
theorem unseen_set {seen : List Bool} {v : Int} (hv : v.toNat < seen.length) (h : sb seen v = false) : unseen (seen.set v.toNat true) + 1 = unseen seen := by
  simp only [sb, List.getD_eq_getElem?_getD, List.getElem?_eq_getElem hv, Option.getD_some] at h
  have hm : false ∈ seen := h ▸ List.getElem_mem hv
  have hp : 0 < seen.count false := List.count_pos_iff.2 hm
  simp only [unseen, List.count_set hv, h]
  simp; omega
theorem unseen_le (seen : List Bool) : unseen seen ≤ seen.length := List.count_le_length

theorem reach_eq {n : Int} {arcs : List Arc} {fr : List Int} {seen : List Bool} (hl : seen.length = n.toNat) (hs : ∀ v : Int, 0 ≤ v → v < n → (sb seen v = true ↔ Rch arcs fr v)) : seen = reachL n arcs fr := by
  apply List.ext_getElem
  · simp [reachL, hl]
  · intro i h1 h2
    simp only [reachL, List.getElem_map, List.getElem_range]
    have := hs (i : Int) (by omega) (by omega)
    simp only [sb, Int.toNat_natCast, List.getD_eq_getElem?_getD, List.getElem?_eq_getElem h1, Option.getD_some] at this
    rw [Bool.eq_iff_iff, this]
    simp
/-- Sound, with the starts, and closed: these are the nodes. -/
theorem reach_of {n : Int} {arcs : List Arc} {fr : List Int} {seen : List Bool} (hl : seen.length = n.toNat) (hs : ∀ v : Int, 0 ≤ v → v < n → sb seen v = true → Rch arcs fr v) (hf : ∀ v ∈ fr, sb seen v = true) (hc : ∀ a ∈ arcs, sb seen a.src = true → sb seen a.dst = true) : seen = reachL n arcs fr := by
  refine reach_eq hl fun v h0 h1 => ⟨hs v h0 h1, fun hr => ?_⟩
  induction hr with
  | start hv => exact hf _ hv
  | step ha hr ih =>
    rename_i a
    by_cases h : 0 ≤ a.src ∧ a.src < n
    · exact hc a ha (ih h.1 h.2)
    · -- a source outside is the starts' or an arc's end: both are seen all the same
      refine hc a ha ?_
      have : ∀ {u : Int}, Rch arcs fr u → sb seen u = true := by
        intro u hu
        induction hu with
        | start hv => exact hf _ hv
        | step ha _ ih => exact hc _ ha ih
      exact this hr

/-! ### The stack -/
def pushV (p : List Bool × List Int) (v : Int) : List Bool × List Int := if sb p.1 v = true then p else (p.1.set v.toNat true, p.2 ++ [v])
structure SInv (n : Int) (arcs : List Arc) (fr : List Int) (m : Nat) (p : List Bool × List Int) : Prop where
  len : p.1.length = n.toNat
  sound : ∀ v : Int, 0 ≤ v → v < n → sb p.1 v = true → Rch arcs fr v
  todo : ∀ v ∈ p.2, 0 ≤ v ∧ v < n ∧ sb p.1 v = true
  starts : ∀ i, i < m → sb p.1 (fr.getD i tInt.dflt) = true
  room : p.2.length + unseen p.1 ≤ n.toNat
theorem SInv.start {n : Int} {arcs : List Arc} {fr : List Int} : SInv n arcs fr 0 (List.replicate n.toNat false, []) := by
  refine ⟨by simp, fun v _ _ h => ?_, by simp, by simp, by simp [unseen]⟩
  simp only [sb, List.getD_eq_getElem?_getD, List.getElem?_replicate] at h
  split at h <;> simp at h
theorem pushV_yes {p : List Bool × List Int} {v : Int} (h : sb p.1 v = true) : pushV p v = p := by simp [pushV, h]
theorem pushV_no {p : List Bool × List Int} {v : Int} (h : sb p.1 v = false) : pushV p v = (p.1.set v.toNat true, p.2 ++ [v]) := by simp [pushV, h]
theorem SInv.push {n : Int} {arcs : List Arc} {fr : List Int} {m : Nat} {p : List Bool × List Int} (h : SInv n arcs fr m p) {v : Int} (h0 : 0 ≤ v) (h1 : v < n) (hr : Rch arcs fr v) : SInv n arcs fr m (pushV p v) ∧ sb (pushV p v).1 v = true ∧ (∀ u, sb p.1 u = true → sb (pushV p v).1 u = true) ∧
    (∀ u, 0 ≤ u → u < n → sb (pushV p v).1 u = true → u ∉ (pushV p v).2 → sb p.1 u = true ∧ u ∉ p.2) ∧ 2 * unseen (pushV p v).1 + (pushV p v).2.length ≤ 2 * unseen p.1 + p.2.length := by
  by_cases hs : sb p.1 v = true
  · rw [pushV_yes hs]; exact ⟨h, hs, fun _ h => h, fun _ _ _ h1 h2 => ⟨h1, h2⟩, Nat.le_refl _⟩
  · have hs : sb p.1 v = false := by simpa using hs
    rw [pushV_no hs]
    have hv : v.toNat < p.1.length := by rw [h.len]; omega
    have hu := unseen_set hv hs
    refine ⟨⟨by simp [h.len], fun u hu0 hu1 hq => ?_, fun u hu => ?_, fun i hi => (sb_set hv).2 (.inr (h.starts i hi)), ?_⟩, (sb_set hv).2 (.inl rfl), fun u hq => (sb_set hv).2 (.inr hq), fun u hu0 hu1 hq hn => ?_, ?_⟩
    · rcases (sb_set hv).1 hq with he | hq
      · have : u = v := by omega
        subst this; exact hr
      · exact h.sound u hu0 hu1 hq
    · rcases List.mem_append.1 hu with hu | hu
      · obtain ⟨a, b, c⟩ := h.todo u hu; exact ⟨a, b, (sb_set hv).2 (.inr c)⟩
      · rw [List.mem_singleton.1 hu]; exact ⟨h0, h1, (sb_set hv).2 (.inl rfl)⟩
    · have := h.room
      simp only [List.length_append, List.length_singleton]; omega
    · simp only [List.mem_append, List.mem_singleton, not_or] at hn
      rcases (sb_set hv).1 hq with he | hq
      · exact absurd (show u = v by omega) hn.2
      · exact ⟨hq, hn.1⟩
    · simp only [List.length_append, List.length_singleton]; omega
theorem SInv.pop {n : Int} {arcs : List Arc} {fr : List Int} {m : Nat} {seen : List Bool} {todo : List Int} (h : SInv n arcs fr m (seen, todo)) (k : Nat) : SInv n arcs fr m (seen, cut todo 0 k) := by
  have hsub : ∀ v ∈ cut todo 0 k, v ∈ todo := fun v hv => by simp only [cut, List.drop_zero] at hv; exact List.mem_of_mem_take hv
  refine ⟨h.len, h.sound, fun v hv => h.todo v (hsub v hv), h.starts, ?_⟩
  have := h.room
  have : (cut todo 0 k).length ≤ todo.length := by simp [cut]; omega
  simp only at *; omega
/-- All arcs out of u lead to nodes that were seen. -/
def clo (arcs : List Arc) (seen : List Bool) (u : Int) : Prop := ∀ a ∈ arcs, a.src = u → sb seen a.dst = true
theorem clo_mono {arcs : List Arc} {s s' : List Bool} {u : Int} (h : ∀ v, sb s v = true → sb s' v = true) (hc : clo arcs s u) : clo arcs s' u := fun a ha he => h _ (hc a ha he)

/-! ### Rows of successors -/
def succL (arcs : List Arc) (u : Nat) : List Int := (arcs.filter fun a => a.src.toNat == u).map (·.dst)
def nextL (n : Nat) (arcs : List Arc) : List (List Int) := (List.range n).map (succL arcs)
theorem nextL_len (n : Nat) (arcs : List Arc) : (nextL n arcs).length = n := by simp [nextL]
theorem nextL_get {n : Nat} (arcs : List Arc) {u : Nat} (h : u < n) : (nextL n arcs).getD u [] = succL arcs u := by simp [nextL, List.getD, h]
theorem nextL_nil (n : Nat) : nextL n [] = List.replicate n [] := by
  apply List.ext_getElem
  · simp [nextL]
  · intro i h1 h2; simp [nextL, succL]
theorem nextL_snoc {n : Nat} (arcs : List Arc) (a : Arc) (h : a.src.toNat < n) : (nextL n arcs).set a.src.toNat ((nextL n arcs).getD a.src.toNat [] ++ [a.dst]) = nextL n (arcs ++ [a]) := by
  rw [nextL_get arcs h]
  apply List.ext_getElem
  · simp [nextL]
  · intro i h1 h2
    simp only [nextL, List.getElem_set, List.getElem_map, List.getElem_range, succL, List.filter_append, List.map_append, List.filter_cons, List.filter_nil]
    split
    · rename_i he; subst he; simp
    · rename_i he
      have : (a.src.toNat == i) = false := by simpa using he
      simp [this]
theorem succL_len (arcs : List Arc) (u : Nat) : (succL arcs u).length ≤ arcs.length := by
  simp only [succL, List.length_map]; exact List.length_filter_le _ _
theorem mem_succL {arcs : List Arc} {u : Nat} {v : Int} : v ∈ succL arcs u ↔ ∃ a ∈ arcs, a.src.toNat = u ∧ a.dst = v := by
  simp [succL, and_assoc]
end Go.Proofs.Ytlfhflgafeblnaa
