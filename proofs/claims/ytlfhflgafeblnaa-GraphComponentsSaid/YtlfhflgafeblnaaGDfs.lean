/-
  The plain law of the two passes that find the strongly connected components: the order in which a depth-first search leaves the nodes, and what the second pass collects.
-/
import Derived.Test.YtlfhflgafeblnaaGOrder
namespace Go.Proofs.Ytlfhflgafeblnaa
open Go.Sl

def Pth (arcs : List Arc) (u v : Int) : Prop := Rch arcs [u] v
theorem Pth.refl (arcs : List Arc) (u : Int) : Pth arcs u u := .start (by simp)
theorem Pth.step {arcs : List Arc} {u : Int} {a : Arc} (h : Pth arcs u a.src) (ha : a ∈ arcs) : Pth arcs u a.dst := Rch.step ha h
theorem Pth.arc {arcs : List Arc} {a : Arc} (ha : a ∈ arcs) : Pth arcs a.src a.dst := (Pth.refl arcs a.src).step ha
theorem Pth.trans {arcs : List Arc} {u v w : Int} (h : Pth arcs u v) (k : Pth arcs v w) : Pth arcs u w := by
  induction k with
  | start hv => rw [List.mem_singleton.1 hv]; exact h
  | step ha _ ih => exact Rch.step ha ih
theorem Pth.range {arcs : List Arc} {n u v : Int} (hok : ∀ a ∈ arcs, arcOk n a) (h : Pth arcs u v) (h0 : 0 ≤ u) (h1 : u < n) : 0 ≤ v ∧ v < n := by
  induction h with
  | start hv => rw [List.mem_singleton.1 hv]; exact ⟨h0, h1⟩
  | step ha _ _ => have := hok _ ha; unfold arcOk at this; exact ⟨this.2.2.1, this.2.2.2.1⟩
def Mut (arcs : List Arc) (u v : Int) : Prop := Pth arcs u v ∧ Pth arcs v u
theorem Mut.refl (arcs : List Arc) (u : Int) : Mut arcs u u := ⟨.refl _ _, .refl _ _⟩
theorem Mut.symm {arcs : List Arc} {u v : Int} (h : Mut arcs u v) : Mut arcs v u := ⟨h.2, h.1⟩
theorem Mut.trans {arcs : List Arc} {u v w : Int} (h : Mut arcs u v) (k : Mut arcs v w) : Mut arcs u w := ⟨h.1.trans k.1, k.2.trans h.2⟩

/-! ### The first pass -/
def Closed (arcs : List Arc) (n : Int) (P : List Int) : Prop := ∀ u, 0 ≤ u → u < n → (∀ w, Mut arcs u w → w ∈ P) → ∀ v, Pth arcs u v → v ∈ P
structure DS (arcs : List Arc) (n : Int) (d : Int → Nat) (t : Nat) (seen : List Bool) (stk out : List Int) : Prop where
  slen : seen.length = n.toNat
  sq : stk.Pairwise fun x y => d x < d y
  sseen : ∀ v ∈ stk, 0 ≤ v ∧ v < n ∧ sb seen v = true
  oseen : ∀ v ∈ out, 0 ≤ v ∧ v < n ∧ sb seen v = true
  dis : ∀ v ∈ out, v ∉ stk
  cov : ∀ v, 0 ≤ v → v < n → sb seen v = true → v ∈ stk ∨ v ∈ out
  nd : out.Nodup
  lt : ∀ v, 0 ≤ v → v < n → sb seen v = true → d v < t
  blk : ∀ z ∈ out, ∀ a ∈ arcs, a.src = z → sb seen a.dst = true
  anc : ∀ y ∈ stk, ∀ w, 0 ≤ w → w < n → sb seen w = true → d y ≤ d w → Pth arcs y w
  bef : ∀ y ∈ stk, ∀ z ∈ out, d z < d y → ∀ a ∈ arcs, a.src = z → d a.dst < d y
  cl : ∀ k, Closed arcs n (out.take k)
theorem sb_rep (n : Nat) (v : Int) : sb (List.replicate n false) v = false := by
  simp only [sb, List.getD_eq_getElem?_getD, List.getElem?_replicate]; split <;> rfl
theorem DS.start (arcs : List Arc) (n : Int) : DS arcs n (fun _ => 0) 0 (List.replicate n.toNat false) [] [] := by
  refine ⟨by simp, .nil, by simp, by simp, by simp, fun v _ _ h => ?_, List.nodup_nil, fun v _ _ h => ?_, by simp, by simp, by simp, fun k u h0 h1 hm => ?_⟩
  · rw [sb_rep] at h; cases h
  · rw [sb_rep] at h; cases h
  · have := hm u (Mut.refl _ _)
    simp at this
def dset (d : Int → Nat) (w : Int) (t : Nat) : Int → Nat := fun x => if x = w then t else d x
theorem dset_ne {d : Int → Nat} {w x : Int} {t : Nat} (h : x ≠ w) : dset d w t x = d x := if_neg h
theorem dset_eq (d : Int → Nat) (w : Int) (t : Nat) : dset d w t w = t := if_pos rfl
theorem DS.push {arcs : List Arc} {n : Int} {d : Int → Nat} {t : Nat} {seen : List Bool} {stk out : List Int} {w : Int} (hok : ∀ a ∈ arcs, arcOk n a) (h : DS arcs n d t seen stk out) (h0 : 0 ≤ w) (h1 : w < n) (hu : sb seen w = false) (hl : ∀ y ∈ stk, Pth arcs y w) :
    DS arcs n (dset d w t) (t + 1) (seen.set w.toNat true) (stk ++ [w]) out := by
  have hwl : w.toNat < seen.length := by rw [h.slen]; omega
  have hne : ∀ v, sb seen v = true → v ≠ w := fun v hv e => by rw [e, hu] at hv; cases hv
  have hset : ∀ v, 0 ≤ v → (sb (seen.set w.toNat true) v = true ↔ (v = w ∨ sb seen v = true)) := fun v hv => by
    rw [sb_set hwl]
    constructor
    · rintro (e | e)
      · left; omega
      · exact .inr e
    · rintro (e | e)
      · left; rw [e]
      · exact .inr e
  refine ⟨by simpa using h.slen, ?_, fun v hv => ?_, fun v hv => ?_, fun v hv hm => ?_, fun v hv0 hv1 hs => ?_, h.nd, fun v hv0 hv1 hs => ?_, fun z hz a ha he => ?_, fun y hy x hx0 hx1 hs hle => ?_, fun y hy z hz hlt a ha he => ?_, h.cl⟩
  · rw [List.pairwise_append]
    refine ⟨h.sq.imp_of_mem fun {x y} hx hy hxy => ?_, List.pairwise_singleton _ _, fun x hx y hy => ?_⟩
    · rw [dset_ne (hne x (h.sseen x hx).2.2), dset_ne (hne y (h.sseen y hy).2.2)]; exact hxy
    · rw [List.mem_singleton.1 hy, dset_eq, dset_ne (hne x (h.sseen x hx).2.2)]
      exact h.lt x (h.sseen x hx).1 (h.sseen x hx).2.1 (h.sseen x hx).2.2
  · rcases List.mem_append.1 hv with hv | hv
    · exact ⟨(h.sseen v hv).1, (h.sseen v hv).2.1, (hset v (h.sseen v hv).1).2 (.inr (h.sseen v hv).2.2)⟩
    · rw [List.mem_singleton.1 hv]; exact ⟨h0, h1, (hset w h0).2 (.inl rfl)⟩
  · exact ⟨(h.oseen v hv).1, (h.oseen v hv).2.1, (hset v (h.oseen v hv).1).2 (.inr (h.oseen v hv).2.2)⟩
  · rcases List.mem_append.1 hm with hm | hm
    · exact h.dis v hv hm
    · exact hne v (h.oseen v hv).2.2 (List.mem_singleton.1 hm)
  · rcases (hset v hv0).1 hs with e | e
    · left; rw [e]; exact List.mem_append_right _ (List.mem_singleton.2 rfl)
    · rcases h.cov v hv0 hv1 e with e | e
      · exact .inl (List.mem_append_left _ e)
      · exact .inr e
  · by_cases e : v = w
    · rw [e, dset_eq]; omega
    · rw [dset_ne e]
      have := h.lt v hv0 hv1 (((hset v hv0).1 hs).resolve_left e)
      omega
  · have hd := (hok a ha).2.2.1
    exact (hset _ hd).2 (.inr (h.blk z hz a ha he))
  · rcases List.mem_append.1 hy with hy | hy
    · rcases (hset x hx0).1 hs with e | e
      · rw [e]; exact hl y hy
      · rw [dset_ne (hne y (h.sseen y hy).2.2), dset_ne (hne x e)] at hle
        exact h.anc y hy x hx0 hx1 e hle
    · rw [List.mem_singleton.1 hy] at hle ⊢
      rw [dset_eq] at hle
      by_cases e : x = w
      · rw [e]; exact .refl _ _
      · rw [dset_ne e] at hle
        have := h.lt x hx0 hx1 (((hset x hx0).1 hs).resolve_left e)
        omega
  · have hz' := hne z (h.oseen z hz).2.2
    have hb := h.blk z hz a ha he
    have hak := hok a ha
    unfold arcOk at hak
    rw [dset_ne (hne _ hb)]
    rcases List.mem_append.1 hy with hy | hy
    · rw [dset_ne (hne y (h.sseen y hy).2.2)] at hlt ⊢
      rw [dset_ne hz'] at hlt
      exact h.bef y hy z hz hlt a ha he
    · rw [List.mem_singleton.1 hy, dset_eq]
      exact h.lt _ hak.2.2.1 hak.2.2.2.1 hb
theorem DS.pop {arcs : List Arc} {n : Int} {d : Int → Nat} {t : Nat} {seen : List Bool} {xs out : List Int} {v : Int} (hok : ∀ a ∈ arcs, arcOk n a) (h : DS arcs n d t seen (xs ++ [v]) out) (hall : ∀ a ∈ arcs, a.src = v → sb seen a.dst = true) :
    DS arcs n d t seen xs (out ++ [v]) := by
  have hv : v ∈ xs ++ [v] := by simp
  have hvs := h.sseen v hv
  have hpw := List.pairwise_append.1 h.sq
  have hxv : ∀ x ∈ xs, d x < d v := fun x hx => hpw.2.2 x hx v (List.mem_singleton.2 rfl)
  have hblk : ∀ z ∈ out ++ [v], ∀ a ∈ arcs, a.src = z → sb seen a.dst = true := fun z hz a ha he => by
    rcases List.mem_append.1 hz with hz | hz
    · exact h.blk z hz a ha he
    · rw [List.mem_singleton.1 hz] at he; exact hall a ha he
  have hbef : ∀ y ∈ xs, ∀ z ∈ out ++ [v], d z < d y → ∀ a ∈ arcs, a.src = z → d a.dst < d y := fun y hy z hz hlt a ha he => by
    rcases List.mem_append.1 hz with hz | hz
    · exact h.bef y (List.mem_append_left _ hy) z hz hlt a ha he
    · rw [List.mem_singleton.1 hz] at hlt
      have := hxv y hy
      omega
  have hcov : ∀ x, 0 ≤ x → x < n → sb seen x = true → x ∈ xs ∨ x ∈ out ++ [v] := fun x hx0 hx1 hs => by
    rcases h.cov x hx0 hx1 hs with e | e
    · rcases List.mem_append.1 e with e | e
      · exact .inl e
      · exact .inr (List.mem_append_right _ e)
    · exact .inr (List.mem_append_left _ e)
  have hos : ∀ x ∈ out ++ [v], 0 ≤ x ∧ x < n ∧ sb seen x = true := fun x hx => by
    rcases List.mem_append.1 hx with hx | hx
    · exact h.oseen x hx
    · rw [List.mem_singleton.1 hx]; exact hvs
  refine ⟨h.slen, hpw.1, fun x hx => h.sseen x (List.mem_append_left _ hx), hos, fun x hx hm => ?_, hcov, ?_, h.lt, hblk, fun y hy => h.anc y (List.mem_append_left _ hy), hbef, fun k => ?_⟩
  · rcases List.mem_append.1 hx with hx | hx
    · exact h.dis x hx (List.mem_append_left _ hm)
    · rw [List.mem_singleton.1 hx] at hm
      have := hxv v hm
      omega
  · rw [List.nodup_append]
    refine ⟨h.nd, List.nodup_cons.2 ⟨by simp, List.nodup_nil⟩, fun a ha b hb e => ?_⟩
    rw [List.mem_singleton.1 hb] at e
    exact h.dis a ha (e ▸ hv)
  · rcases Nat.lt_or_ge out.length k with hk | hk
    · rw [List.take_of_length_le (by simp; omega)]
      intro u hu0 hu1 hm
      have key : ∀ x, Pth arcs u x → x ∈ out ++ [v] ∧ ∀ y ∈ xs, d y ≤ d x → d y ≤ d u := by
        intro x hx
        induction hx with
        | start hx => rw [List.mem_singleton.1 hx]; exact ⟨hm u (Mut.refl _ _), fun y _ h => h⟩
        | @step a ha hp ih =>
          obtain ⟨ih1, ih2⟩ := ih
          have hak := hok a ha
          unfold arcOk at hak
          have hback : ∀ y ∈ xs, d y ≤ d a.dst → d y ≤ d u := fun y hy hle => by
            rcases Nat.lt_or_ge (d a.src) (d y) with hlt | hge
            · have := hbef y hy a.src ih1 hlt a ha rfl; omega
            · exact ih2 y hy hge
          refine ⟨?_, hback⟩
          rcases hcov a.dst hak.2.2.1 hak.2.2.2.1 (hblk _ ih1 a ha rfl) with e | e
          · have hle := hback _ e (Nat.le_refl _)
            have huo := hos u (hm u (Mut.refl _ _))
            exact hm _ ⟨Rch.step ha hp, h.anc _ (List.mem_append_left _ e) u huo.1 huo.2.1 huo.2.2 hle⟩
          · exact e
      exact fun x hx => (key x hx).1
    · rw [List.take_append_of_le_length hk]
      exact h.cl k
/-- What the first pass returns. -/
structure Fin (arcs : List Arc) (n : Int) (out : List Int) : Prop where
  nd : out.Nodup
  mem : ∀ v, v ∈ out ↔ (0 ≤ v ∧ v < n)
  cl : ∀ k, Closed arcs n (out.take k)
theorem DS.fin {arcs : List Arc} {n : Int} {d : Int → Nat} {t : Nat} {seen : List Bool} {out : List Int} (h : DS arcs n d t seen [] out) (hall : ∀ v, 0 ≤ v → v < n → sb seen v = true) : Fin arcs n out :=
  ⟨h.nd, fun v => ⟨fun hv => ⟨(h.oseen v hv).1, (h.oseen v hv).2.1⟩, fun ⟨h0, h1⟩ => (h.cov v h0 h1 (hall v h0 h1)).resolve_left (by simp)⟩, h.cl⟩
theorem sub_len : ∀ (l m : List Int), l.Nodup → (∀ v ∈ l, v ∈ m) → l.length ≤ m.length
  | [], _, _, _ => Nat.zero_le _
  | a :: l, m, hn, hs => by
    have ha := hs a List.mem_cons_self
    have h2 := List.nodup_cons.1 hn
    have := sub_len l (m.erase a) h2.2 fun v hv => by
      have hva : v ≠ a := fun e => h2.1 (e ▸ hv)
      exact (List.mem_erase_of_ne hva).2 (hs v (List.mem_cons_of_mem _ hv))
    rw [List.length_erase_of_mem ha] at this
    have := List.length_pos_of_mem ha
    simp only [List.length_cons]; omega
theorem idL_len (n : Nat) : (idL n).length = n := by simp [idL]
theorem Fin.len {arcs : List Arc} {n : Int} {out : List Int} (h : Fin arcs n out) : out.length = n.toNat := by
  have h1 := nodup_len n.toNat out h.nd fun v hv => by have := (h.mem v).1 hv; omega
  have h2 := sub_len (idL n.toNat) out (idL_nodup _) fun v hv => (h.mem v).2 (by have := mem_idL.1 hv; omega)
  rw [idL_len] at h2
  omega

/-! How many successors are left -/
def sumF (f : Nat → Nat) : Nat → Nat
  | 0 => 0
  | n + 1 => sumF f n + f n
theorem sumF_congr {f g : Nat → Nat} : ∀ n, (∀ i, i < n → f i = g i) → sumF f n = sumF g n
  | 0, _ => rfl
  | n + 1, h => by simp only [sumF]; rw [sumF_congr n fun i hi => h i (by omega), h n (by omega)]
theorem sumF_dec {f g : Nat → Nat} {k : Nat} : ∀ n, k < n → g k + 1 = f k → (∀ i, i ≠ k → g i = f i) → sumF g n + 1 = sumF f n
  | n + 1, hk, h1, h2 => by
    simp only [sumF]
    by_cases e : k = n
    · subst e
      have := sumF_congr (f := g) (g := f) k fun i hi => h2 i (by omega)
      omega
    · have := sumF_dec n (by omega) h1 h2
      have := h2 n (Ne.symm e)
      omega
def left (arcs : List Arc) (n : Nat) (ats : List Int) : Nat := sumF (fun v => (succL arcs v).length - (ats.getD v tInt.dflt).toNat) n
/-- How far each node's successors have been looked at. -/
structure AT (arcs : List Arc) (n : Int) (seen : List Bool) (stk ats : List Int) : Prop where
  len : ats.length = n.toNat
  rng : ∀ v : Nat, v < n.toNat → 0 ≤ ats.getD v tInt.dflt ∧ ats.getD v tInt.dflt ≤ (succL arcs v).length
  pos : ∀ v ∈ stk, ∀ i : Nat, (i : Int) < ats.getD v.toNat tInt.dflt → sb seen ((succL arcs v.toNat).getD i tInt.dflt) = true
  zero : ∀ v, 0 ≤ v → v < n → sb seen v = false → ats.getD v.toNat tInt.dflt = 0
theorem AT.start (arcs : List Arc) (n : Int) : AT arcs n (List.replicate n.toNat false) [] (List.replicate n.toNat 0) := by
  have h : ∀ v : Nat, (List.replicate n.toNat (0 : Int)).getD v tInt.dflt = 0 := fun v => by
    simp only [List.getD_eq_getElem?_getD, List.getElem?_replicate]; split <;> rfl
  exact ⟨by simp, fun v _ => by rw [h]; omega, by simp, fun v _ _ _ => h _⟩
theorem sb_mono {seen : List Bool} {w v : Int} (hw : w.toNat < seen.length) (h : sb seen v = true) : sb (seen.set w.toNat true) v = true := (sb_set hw).2 (.inr h)
theorem AT.push {arcs : List Arc} {n : Int} {seen : List Bool} {stk ats : List Int} {w : Int} (h : AT arcs n seen stk ats) (hsl : seen.length = n.toNat) (h0 : 0 ≤ w) (h1 : w < n) (hu : sb seen w = false) : AT arcs n (seen.set w.toNat true) (stk ++ [w]) ats := by
  have hwl : w.toNat < seen.length := by omega
  refine ⟨h.len, h.rng, fun v hv i hi => ?_, fun v hv0 hv1 hs => h.zero v hv0 hv1 ?_⟩
  · rcases List.mem_append.1 hv with hv | hv
    · exact sb_mono hwl (h.pos v hv i hi)
    · rw [List.mem_singleton.1 hv, h.zero w h0 h1 hu] at hi; omega
  · cases hb : sb seen v with
    | false => rfl
    | true => rw [sb_mono hwl hb] at hs; cases hs
theorem AT.pop {arcs : List Arc} {n : Int} {seen : List Bool} {xs ats : List Int} {v : Int} (h : AT arcs n seen (xs ++ [v]) ats) : AT arcs n seen xs ats :=
  ⟨h.len, h.rng, fun x hx => h.pos x (List.mem_append_left _ hx), h.zero⟩
theorem getD_set_eq {l : List Int} {i : Nat} {x : Int} (h : i < l.length) : (l.set i x).getD i tInt.dflt = x := by simp [List.getD, h]
theorem getD_set_ne' {l : List Int} {i j : Nat} {x : Int} (h : i ≠ j) : (l.set i x).getD j tInt.dflt = l.getD j tInt.dflt := by simp [List.getD, List.getElem?_set_ne h]
/-- The next successor of the last node is looked at, and it has been seen. -/
theorem AT.next {arcs : List Arc} {n : Int} {seen : List Bool} {stk ats : List Int} {v : Int} (h : AT arcs n seen stk ats) (h0 : 0 ≤ v) (h1 : v < n) (hvs : sb seen v = true) (hlt : ats.getD v.toNat tInt.dflt < (succL arcs v.toNat).length) (hs : sb seen ((succL arcs v.toNat).getD (ats.getD v.toNat tInt.dflt).toNat tInt.dflt) = true) :
    AT arcs n seen stk (ats.set v.toNat (ats.getD v.toNat tInt.dflt + 1)) ∧ left arcs n.toNat (ats.set v.toNat (ats.getD v.toNat tInt.dflt + 1)) + 1 = left arcs n.toNat ats := by
  have hl := h.len
  have hvl : v.toNat < ats.length := by omega
  have hr := h.rng v.toNat (by omega)
  refine ⟨⟨by simpa using h.len, fun u hu => ?_, fun u hu i hi => ?_, fun u hu0 hu1 hf => ?_⟩, ?_⟩
  · by_cases e : v.toNat = u
    · subst e; rw [getD_set_eq hvl]; omega
    · rw [getD_set_ne' e]; exact h.rng u hu
  · by_cases e : v.toNat = u.toNat
    · rw [← e, getD_set_eq hvl] at hi
      rw [← e]
      by_cases e2 : (i : Int) = ats.getD v.toNat tInt.dflt
      · rw [← e2] at hs; simpa using hs
      · rw [e]; exact h.pos u hu i (by rw [← e]; omega)
    · rw [getD_set_ne' e] at hi; exact h.pos u hu i hi
  · by_cases e : v.toNat = u.toNat
    · have : u = v := by omega
      rw [this, hvs] at hf; cases hf
    · rw [getD_set_ne' e]; exact h.zero u hu0 hu1 hf
  · unfold left
    refine sumF_dec n.toNat (k := v.toNat) (by omega) ?_ fun i hi => ?_
    · rw [getD_set_eq hvl]; omega
    · rw [getD_set_ne' (Ne.symm hi)]
theorem AT.done {arcs : List Arc} {n : Int} {seen : List Bool} {xs ats : List Int} {v : Int} (hok : ∀ a ∈ arcs, arcOk n a) (h : AT arcs n seen (xs ++ [v]) ats) (h0 : 0 ≤ v) (he : ats.getD v.toNat tInt.dflt = (succL arcs v.toNat).length) : ∀ a ∈ arcs, a.src = v → sb seen a.dst = true := by
  intro a ha hs
  have hm : a.dst ∈ succL arcs v.toNat := mem_succL.2 ⟨a, ha, by rw [hs], rfl⟩
  obtain ⟨i, hi, he2⟩ := List.getElem_of_mem hm
  have := h.pos v (by simp) i (by omega)
  rwa [getD_at hi, he2] at this
end Go.Proofs.Ytlfhflgafeblnaa
