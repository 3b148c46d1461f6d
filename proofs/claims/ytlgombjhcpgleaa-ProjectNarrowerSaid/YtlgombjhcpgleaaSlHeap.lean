/-
  Assertions over memory: what a call owns ('Sat w0 w Γ': since w0 nothing that was there has changed, and the new blocks hold what the list Γ says, each part its own blocks), and what it reads ('RSl').
-/
import Derived.Test.YtlgombjhcpgleaaSlCore
import Derived.Below
namespace Go.Sl
open Go.RowKit (Below)

abbrev PH := Nat → Option Obj
abbrev HP := PH → Prop
def Disj (h1 h2 : PH) : Prop := ∀ b, h1 b = none ∨ h2 b = none
def Sub (h1 h : PH) : Prop := ∀ b o, h1 b = some o → h b = some o
def SatL : List HP → PH → Prop
  | [], _ => True
  | A :: Γ, h => ∃ h1 h2, Disj h1 h2 ∧ Sub h1 h ∧ Sub h2 h ∧ A h1 ∧ SatL Γ h2
def hpU (h1 h2 : PH) : PH := fun b => match h1 b with | some o => some o | none => h2 b
def hpS (h : PH) (b : Nat) (o : Obj) : PH := fun b' => if b' = b then some o else h b'

theorem Disj.symm {h1 h2 : PH} (h : Disj h1 h2) : Disj h2 h1 := fun b => (h b).symm
theorem Disj.sub {h1 h2 h3 : PH} (h : Disj h1 h2) (hs : Sub h3 h2) : Disj h1 h3 := fun b => by
  rcases h b with h' | h'
  · exact .inl h'
  · right; cases h3b : h3 b with
    | none => rfl
    | some o => rw [hs b o h3b] at h'; cases h'
theorem Sub.trans {a b c : PH} (h : Sub a b) (k : Sub b c) : Sub a c := fun x o hx => k x o (h x o hx)
theorem Sub.refl (h : PH) : Sub h h := fun _ _ h => h
theorem SatL.sub {Γ : List HP} {h h' : PH} (hs : Sub h h') (hh : SatL Γ h) : SatL Γ h' := by
  cases Γ with
  | nil => trivial
  | cons A Γ => obtain ⟨h1, h2, d, s1, s2, ha, hg⟩ := hh; exact ⟨h1, h2, d, s1.trans hs, s2.trans hs, ha, hg⟩
theorem SatL.swap {A B : HP} {Γ : List HP} {h : PH} (hh : SatL (A :: B :: Γ) h) : SatL (B :: A :: Γ) h := by
  obtain ⟨h1, h2, d, s1, s2, ha, h3, h4, d2, s3, s4, hb, hg⟩ := hh
  refine ⟨h3, hpU h1 h4, fun b => ?_, s3.trans s2, fun b o hb' => ?_, hb, h1, h4, d.sub s4, fun b o hb' => by simp [hpU, hb'], fun b o hb' => ?_, ha, hg⟩
  · rcases d b with hn | hn
    · rcases d2 b with hm | hm
      · exact .inl hm
      · right; simp [hpU, hn, hm]
    · left; cases h3b : h3 b with
      | none => rfl
      | some o => rw [s3 b o h3b] at hn; cases hn
  · simp only [hpU] at hb'
    split at hb'
    · rename_i o' ho'; cases hb'; exact s1 b _ ho'
    · exact s2 b o (s4 b o hb')
  · simp only [hpU]
    rcases d b with hn | hn
    · rw [hn]; exact hb'
    · rw [s4 b o hb'] at hn; cases hn
theorem SatL.tail {A : HP} {Γ : List HP} {h : PH} (hh : SatL (A :: Γ) h) : SatL Γ h := by
  obtain ⟨h1, h2, d, s1, s2, ha, hg⟩ := hh; exact hg.sub s2
theorem SatL.cons_mono {A A' : HP} {Γ Γ' : List HP} {h : PH} (ha : ∀ h, A h → A' h) (hg : ∀ h, SatL Γ h → SatL Γ' h) (hh : SatL (A :: Γ) h) : SatL (A' :: Γ') h := by
  obtain ⟨h1, h2, d, s1, s2, a, g⟩ := hh; exact ⟨h1, h2, d, s1, s2, ha _ a, hg _ g⟩
/-- Bring part number i to the front. -/
theorem SatL.focus {Γ : List HP} : ∀ (i : Nat) {A : HP} {h : PH}, Γ[i]? = some A → SatL Γ h → SatL (A :: Γ.eraseIdx i) h := by
  induction Γ with
  | nil => intro i A h hi; simp at hi
  | cons B Γ ih =>
    intro i A h hi hh
    cases i with
    | zero => simp only [List.getElem?_cons_zero, Option.some.injEq] at hi; subst hi; exact hh
    | succ i =>
      simp only [List.getElem?_cons_succ] at hi
      exact (SatL.cons_mono (fun _ h => h) (fun _ h => ih i hi h) hh).swap
theorem SatL.back {Γ : List HP} : ∀ (i : Nat) {A A' : HP} {h : PH}, Γ[i]? = some A → SatL (A' :: Γ.eraseIdx i) h → SatL (Γ.set i A') h := by
  induction Γ with
  | nil => intro i A A' h hi; simp at hi
  | cons B Γ ih =>
    intro i A A' h hi hh
    cases i with
    | zero => exact hh
    | succ i =>
      simp only [List.getElem?_cons_succ] at hi
      exact SatL.cons_mono (fun _ h => h) (fun _ h => ih i hi h) (SatL.swap hh)
theorem SatL.write {A A' : HP} {Γ : List HP} {h : PH} {b : Nat} {o' : Obj} (hh : SatL (A :: Γ) h) (hw : ∀ h1, Sub h1 h → A h1 → (∃ o, h1 b = some o) ∧ A' (hpS h1 b o')) : SatL (A' :: Γ) (hpS h b o') := by
  obtain ⟨h1, h2, d, s1, s2, a, g⟩ := hh
  obtain ⟨⟨o, ho⟩, ha'⟩ := hw h1 s1 a
  have hb2 : h2 b = none := (d b).resolve_left (by rw [ho]; simp)
  refine ⟨hpS h1 b o', h2, fun x => ?_, fun x y hx => ?_, fun x y hx => ?_, ha', g⟩
  · by_cases hxb : x = b
    · subst hxb; exact .inr hb2
    · simpa [hpS, hxb] using d x
  · simp only [hpS] at hx ⊢
    split
    · rename_i hxb; rw [if_pos hxb] at hx; exact hx
    · rename_i hxb; rw [if_neg hxb] at hx; exact s1 x y hx
  · have hxb : x ≠ b := fun e => by subst e; rw [hb2] at hx; cases hx
    simp only [hpS, if_neg hxb]; exact s2 x y hx
theorem SatL.new {A : HP} {Γ : List HP} {h : PH} {b : Nat} {o : Obj} (hb : h b = none) (hh : SatL Γ h) (ha : A (fun x => if x = b then some o else none)) : SatL (A :: Γ) (hpS h b o) := by
  refine ⟨_, h, fun x => ?_, fun x y hx => ?_, fun x y hx => ?_, ha, hh⟩
  · by_cases hxb : x = b
    · subst hxb; exact .inr hb
    · left; simp [hxb]
  · by_cases hxb : x = b
    · simp only [hxb, if_true] at hx; simpa [hpS, hxb] using hx
    · simp [hxb] at hx
  · have hxb : x ≠ b := fun e => by subst e; rw [hb] at hx; cases hx
    simp only [hpS, if_neg hxb]; exact hx

/-- The blocks that are new since w0. -/
def newH (w0 w : World) : PH := fun b => if b < w0.heap.size then none else w.heap[b]?
structure Sat (w0 w : World) (Γ : List HP) : Prop where
  below : Below w0.heap.size w0 w
  sat : SatL Γ (newH w0 w)

theorem Sat.start (w : World) : Sat w w [] := ⟨Below.refl _ _, trivial⟩
theorem Sat.drew {w0 w : World} {Γ : List HP} (h : Sat w0 w Γ) : Sat w0 { w with drawn := w.drawn + 1 } Γ := ⟨h.below.trans ⟨rfl, rfl, rfl, Nat.le_refl _, fun _ _ => rfl⟩, h.sat⟩
theorem Sat.tail {w0 w : World} {A : HP} {Γ : List HP} (h : Sat w0 w (A :: Γ)) : Sat w0 w Γ := ⟨h.below, h.sat.tail⟩
theorem Sat.swap {w0 w : World} {A B : HP} {Γ : List HP} (h : Sat w0 w (A :: B :: Γ)) : Sat w0 w (B :: A :: Γ) := ⟨h.below, h.sat.swap⟩
theorem Sat.focus {w0 w : World} {Γ : List HP} (i : Nat) {A : HP} (hi : Γ[i]? = some A) (h : Sat w0 w Γ) : Sat w0 w (A :: Γ.eraseIdx i) := ⟨h.below, h.sat.focus i hi⟩
theorem Sat.back {w0 w : World} {Γ : List HP} (i : Nat) {A A' : HP} (hi : Γ[i]? = some A) (h : Sat w0 w (A' :: Γ.eraseIdx i)) : Sat w0 w (Γ.set i A') := ⟨h.below, h.sat.back i hi⟩
theorem Sat.mono {w0 w : World} {A A' : HP} {Γ : List HP} (ha : ∀ h, A h → A' h) (h : Sat w0 w (A :: Γ)) : Sat w0 w (A' :: Γ) := ⟨h.below, h.sat.cons_mono ha fun _ h => h⟩
theorem Sat.tailMono {w0 w : World} {A : HP} {Γ Γ' : List HP} (hg : ∀ h, SatL Γ h → SatL Γ' h) (h : Sat w0 w (A :: Γ)) : Sat w0 w (A :: Γ') := ⟨h.below, h.sat.cons_mono (fun _ h => h) hg⟩

/-- A pure callee: from w to w' it made new blocks alone. -/
theorem Sat.call {w0 w w' : World} {Γ Δ : List HP} (h : Sat w0 w Γ) (k : Sat w w' Δ) : Sat w0 w' (Δ ++ Γ) := by
  have hsz : w0.heap.size ≤ w.heap.size := h.below.size
  refine ⟨h.below.trans (k.below.mono hsz), ?_⟩
  have key : ∀ (Δ : List HP) (g : PH), Sub g (newH w w') → SatL Δ g → SatL (Δ ++ Γ) (hpU g (newH w0 w)) := by
    intro Δ
    induction Δ with
    | nil =>
      intro g hg _
      refine h.sat.sub fun b o hb => ?_
      simp only [hpU]
      cases hgb : g b with
      | none => exact hb
      | some o' =>
        have := hg b o' hgb
        simp only [newH] at this hb
        split at this
        · cases this
        · split at hb
          · cases hb
          · rename_i h1 h2
            rw [Array.getElem?_eq_none (by omega)] at hb; cases hb
    | cons A Δ ih =>
      intro g hg ⟨h1, h2, d, s1, s2, ha, hr⟩
      refine ⟨h1, hpU h2 (newH w0 w), fun b => ?_, fun b o hb => ?_, fun b o hb => ?_, ha, ih h2 (s2.trans hg) hr⟩
      · cases h1b : h1 b with
        | none => exact .inl rfl
        | some o =>
          right
          have h2b : h2 b = none := (d b).resolve_left (by rw [h1b]; simp)
          have := hg b o (s1 b o h1b)
          simp only [hpU, h2b, newH] at this ⊢
          split at this
          · cases this
          · split
            · rfl
            · exact Array.getElem?_eq_none (by omega)
      · simp only [hpU]; rw [s1 b o hb]
      · simp only [hpU] at hb ⊢
        split at hb
        · rename_i o' ho'; rw [s2 b o' ho']; exact hb
        · cases hgb : g b with
          | none => exact hb
          | some o' =>
            have := hg b o' hgb
            simp only [newH] at this hb
            split at this
            · cases this
            · split at hb
              · cases hb
              · rw [Array.getElem?_eq_none (by omega)] at hb; cases hb
  refine (key Δ (newH w w') (Sub.refl _) k.sat).sub fun b o hb => ?_
  simp only [hpU, newH] at hb ⊢
  by_cases h1 : b < w.heap.size
  · simp only [h1, if_true] at hb
    split at hb
    · cases hb
    · rename_i h2; rw [if_neg h2, k.below.block b h1]; exact hb
  · simp only [h1, if_false] at hb
    have h2 : ¬ b < w0.heap.size := by omega
    rw [if_neg h2]
    split at hb
    · rename_i o' ho'; rw [ho']; exact hb
    · rename_i hn; rw [if_neg h2, Array.getElem?_eq_none (by omega)] at hb; cases hb

theorem Sat.call0 {w0 w w' : World} {Γ : List HP} (h : Sat w0 w Γ) (k : Sat w w' []) : Sat w0 w' Γ := h.call k
theorem Sat.call1 {w0 w w' : World} {A : HP} {Γ : List HP} (h : Sat w0 w Γ) (k : Sat w w' [A]) : Sat w0 w' (A :: Γ) := h.call k
theorem Sat.call2 {w0 w w' : World} {A B : HP} {Γ : List HP} (h : Sat w0 w Γ) (k : Sat w w' [A, B]) : Sat w0 w' (A :: B :: Γ) := h.call k

/-- A block of the call's own holds something else now. -/
def putB (w : World) (b : Nat) (o : Obj) : World := { w with heap := w.heap.setIfInBounds b o }
theorem Sat.put {w0 w : World} {A A' : HP} {Γ : List HP} {b : Nat} {o' : Obj} (h : Sat w0 w (A :: Γ))
    (hw : ∀ h1, Sub h1 (newH w0 w) → A h1 → (∃ o, h1 b = some o) ∧ A' (hpS h1 b o')) : Sat w0 (putB w b o') (A' :: Γ) := by
  obtain ⟨h1, _, _, s1, _, a, _⟩ := id h.sat
  obtain ⟨⟨o, ho⟩, _⟩ := hw h1 s1 a
  have hnew := s1 b o ho
  simp only [newH] at hnew
  split at hnew
  · cases hnew
  · rename_i hb
    have hbl : b < w.heap.size := (Array.getElem?_eq_some_iff.1 hnew).1
    refine ⟨h.below.trans ⟨rfl, rfl, rfl, by simp [putB], fun k hk => ?_⟩, (h.sat.write hw).sub fun x y hx => ?_⟩
    · simp only [putB]; rw [Array.getElem?_setIfInBounds_ne (by omega)]
    · simp only [hpS, newH] at hx ⊢
      split at hx
      · rename_i hxb; subst hxb; rw [if_neg hb]; simpa [putB, hbl] using hx
      · rename_i hxb
        split
        · rename_i h2; rw [if_pos h2] at hx; exact hx
        · rename_i h2; rw [if_neg h2] at hx; simp only [putB]; rw [Array.getElem?_setIfInBounds_ne (Ne.symm hxb)]; exact hx

def pushW (w : World) (o : Obj) : World := { w with heap := w.heap.push o }
theorem Sat.push {w0 w : World} {A : HP} {Γ : List HP} {o : Obj} (h : Sat w0 w Γ) (ha : A (fun x => if x = w.heap.size then some o else none)) : Sat w0 (pushW w o) (A :: Γ) := by
  have hsz := h.below.size
  refine ⟨h.below.trans ⟨rfl, rfl, rfl, by simp [pushW], fun k hk => ?_⟩, ?_⟩
  · simp only [pushW]; rw [Array.getElem?_push, if_neg (by omega)]
  · refine (SatL.new (b := w.heap.size) (o := o) ?_ h.sat ha).sub fun x y hx => ?_
    · simp only [newH]; split
      · rfl
      · simp
    · simp only [hpS, newH] at hx ⊢
      split at hx
      · rename_i hxb; subst hxb; rw [if_neg (by omega)]; simp only [pushW]; rw [Array.getElem?_push, if_pos rfl]; exact hx
      · rename_i hxb
        split
        · rename_i h2; rw [if_pos h2] at hx; exact hx
        · rename_i h2; rw [if_neg h2] at hx; simp only [pushW]; rw [Array.getElem?_push, if_neg (by omega)]; exact hx

/-- What part number i says, of the world. -/
theorem Sat.at {w0 w : World} {Γ : List HP} (h : Sat w0 w Γ) (i : Nat) {A : HP} (hi : Γ[i]? = some A) : ∃ h1, (∀ b o, h1 b = some o → w.heap[b]? = some o ∧ w0.heap.size ≤ b) ∧ A h1 := by
  obtain ⟨h1, _, _, s1, _, a, _⟩ := (h.focus i hi).sat
  refine ⟨h1, fun b o hb => ?_, a⟩
  have := s1 b o hb
  simp only [newH] at this
  split at this
  · cases this
  · exact ⟨this, by omega⟩

/-! ### Boxes and slices -/

def Box (p : Addr) (t : TypeId) (cells : List Value) : HP := fun h => p.off = 0 ∧ p.spot = none ∧ h p.block = some (.cells cells.toArray t (0, 0))
def big : Nat := 9223372036854775807
def Own (s : Value) (e : TypeId) (sz : Nat) (vs : List Value) : HP := fun h =>
  (s = .slice none 0 0 ∧ vs = []) ∨
  ∃ b off n cap pre post, s = .slice (some ⟨b, off, none⟩) n cap ∧ pre.length = off ∧ vs.length = n * sz ∧ n ≤ cap ∧ n ≤ big ∧ (cap - n) * sz ≤ post.length ∧ h b = some (.cells (pre ++ vs ++ post).toArray e (0, 0))
/-- The slice s, in the world w, has these cells. -/
def RSl (w : World) (s : Value) (sz : Nat) (vs : List Value) : Prop :=
  ∃ a n cap, s = .slice a n cap ∧ vs.length = n * sz ∧ (n ≤ cap ∧ n ≤ big) ∧ ∀ i v, vs[i]? = some v → ∃ p, a = some p ∧ p.spot = none ∧ w.cell? ⟨p.block, p.off + i, none⟩ = some v
def sadr (s : Value) (k : Nat) : Addr := match s with | .slice (some p) _ _ => ⟨p.block, p.off + k, none⟩ | _ => ⟨0, 0, none⟩
def slen (s : Value) : Nat := match s with | .slice _ n _ => n | _ => 0

theorem cell_of_heap {w : World} {b : Nat} {cs : List Value} {t : TypeId} {f : Nat × Nat} (h : w.heap[b]? = some (.cells cs.toArray t f)) (k : Nat) : w.cell? ⟨b, k, none⟩ = cs[k]? := by
  simp [World.cell?, h]
theorem frozen_of_heap {w : World} {b : Nat} {cs : Array Value} {t : TypeId} (h : w.heap[b]? = some (.cells cs t (0, 0))) (k : Nat) : w.frozen? ⟨b, k, none⟩ = false := by
  simp [World.frozen?, h]

theorem RSl.below {w0 w : World} {s : Value} {sz : Nat} {vs : List Value} (h : RSl w0 s sz vs) (hb : Below w0.heap.size w0 w) : RSl w s sz vs := by
  obtain ⟨a, n, cap, hs, hl, hbig, hc⟩ := h
  refine ⟨a, n, cap, hs, hl, hbig, fun i v hv => ?_⟩
  obtain ⟨p, hp, hsp, hcell⟩ := hc i v hv
  refine ⟨p, hp, hsp, ?_⟩
  have hlt : p.block < w0.heap.size := by
    rcases Nat.lt_or_ge p.block w0.heap.size with h | h
    · exact h
    · simp [World.cell?, Array.getElem?_eq_none h] at hcell
  rw [hb.cell (p := ⟨p.block, p.off + i, none⟩) hlt]; exact hcell
theorem RSl.at {w0 w : World} {Γ : List HP} {s : Value} {sz : Nat} {vs : List Value} (h : RSl w0 s sz vs) (hw : Sat w0 w Γ) : RSl w s sz vs := h.below hw.below
theorem Sat.rsl {w0 w : World} {Γ : List HP} (h : Sat w0 w Γ) (i : Nat) {s : Value} {e : TypeId} {sz : Nat} {vs : List Value} (hi : Γ[i]? = some (Own s e sz vs)) : RSl w s sz vs := by
  obtain ⟨h1, hs, a⟩ := h.at i hi
  rcases a with ⟨rfl, rfl⟩ | ⟨b, off, n, cap, pre, post, rfl, hpre, hlen, hnc, hbig, _, hb⟩
  · exact ⟨none, 0, 0, rfl, by simp, ⟨Nat.zero_le _, Nat.zero_le _⟩, by simp⟩
  · refine ⟨_, n, cap, rfl, hlen, ⟨hnc, hbig⟩, fun i v hv => ⟨_, rfl, rfl, ?_⟩⟩
    change w.cell? ⟨b, off + i, none⟩ = some v
    rw [cell_of_heap (hs b _ hb).1]
    have hi' := (List.getElem?_eq_some_iff.1 hv).1
    rw [List.append_assoc, List.getElem?_append_right (by omega), List.getElem?_append_left (by omega)]
    rw [show off + i - pre.length = i from by omega]; exact hv
theorem RSl.cell {w : World} {s : Value} {sz : Nat} {vs : List Value} (h : RSl w s sz vs) {k : Nat} {v : Value} (hv : vs[k]? = some v) : w.cell? (sadr s k) = some v := by
  obtain ⟨a, n, cap, rfl, _, _, hc⟩ := h
  obtain ⟨p, rfl, _, hcell⟩ := hc k v hv
  exact hcell
theorem RSl.len {w : World} {s : Value} {sz : Nat} {vs : List Value} (h : RSl w s sz vs) : vs.length = slen s * sz ∧ slen s ≤ big := by
  obtain ⟨a, n, cap, rfl, hl, hb, _⟩ := h; exact ⟨hl, hb.2⟩

end Go.Sl
