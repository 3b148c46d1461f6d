/-
  The plain law of the second pass: each node gets the least node of its component.
-/
import Derived.Test.YtlfhflgafeblnaaGDfs
namespace Go.Proofs.Ytlfhflgafeblnaa
open Go.Sl

def flipA (a : Arc) : Arc := ⟨a.dst, a.src, a.wt⟩
theorem mem_back {arcs : List Arc} {u : Nat} {v : Int} : v ∈ succL (arcs.map flipA) u ↔ ∃ a ∈ arcs, a.dst.toNat = u ∧ a.src = v := by
  rw [mem_succL]
  constructor
  · rintro ⟨b, hb, h1, h2⟩
    obtain ⟨a, ha, rfl⟩ := List.mem_map.1 hb
    exact ⟨a, ha, h1, h2⟩
  · rintro ⟨a, ha, h1, h2⟩
    exact ⟨flipA a, List.mem_map.2 ⟨a, ha, rfl⟩, h1, h2⟩
def cg (col : List Int) (v : Int) : Int := col.getD v.toNat tInt.dflt
theorem cg_set {col : List Int} {v w x : Int} (hw0 : 0 ≤ w) (hv0 : 0 ≤ v) (hwl : w.toNat < col.length) : cg (col.set w.toNat x) v = if v = w then x else cg col v := by
  unfold cg
  by_cases h : v = w
  · subst h; simp [List.getD, hwl]
  · have : w.toNat ≠ v.toNat := by omega
    simp [List.getD, List.getElem?_set_ne this, h]
/-- The least node of a node's component. -/
structure IsL (n : Int) (arcs : List Arc) (v c : Int) : Prop where
  lo : 0 ≤ c
  hi : c < n
  mu : Mut arcs v c
  le : ∀ w, 0 ≤ w → w < n → Mut arcs v w → c ≤ w
theorem IsL.unique {n : Int} {arcs : List Arc} {v c c' : Int} (h : IsL n arcs v c) (h' : IsL n arcs v c') : c = c' := by
  have := h.le c' h'.lo h'.hi h'.mu
  have := h'.le c h.lo h.hi h.mu
  omega
theorem IsL.move {n : Int} {arcs : List Arc} {v w c : Int} (h : IsL n arcs v c) (hm : Mut arcs w v) : IsL n arcs w c :=
  ⟨h.lo, h.hi, hm.trans h.mu, fun x h0 h1 hx => h.le x h0 h1 (hm.symm.trans hx)⟩
theorem isL_ex (n : Int) (arcs : List Arc) (v : Int) (h0 : 0 ≤ v) (h1 : v < n) : ∃ c, IsL n arcs v c := by
  have key : ∀ k : Nat, ∀ c : Int, 0 ≤ c → c < n → c.toNat ≤ k → Mut arcs v c → ∃ c, IsL n arcs v c := by
    intro k
    induction k with
    | zero =>
      intro c hc0 hc1 hk hm
      exact ⟨c, hc0, hc1, hm, fun w hw0 _ _ => by omega⟩
    | succ k ih =>
      intro c hc0 hc1 hk hm
      by_cases hex : ∃ w, 0 ≤ w ∧ w < n ∧ Mut arcs v w ∧ w < c
      · obtain ⟨w, hw0, hw1, hwm, hlt⟩ := hex
        exact ih w hw0 hw1 (by omega) hwm
      · exact ⟨c, hc0, hc1, hm, fun w hw0 hw1 hwm => Int.not_lt.1 fun hlt => hex ⟨w, hw0, hw1, hwm, hlt⟩⟩
  exact key v.toNat v h0 h1 (Nat.le_refl _) (Mut.refl _ _)
open Classical in
noncomputable def lst (n : Int) (arcs : List Arc) (v : Int) : Int := if h : ∃ c, IsL n arcs v c then h.choose else 0
theorem isL_lst {n : Int} {arcs : List Arc} {v : Int} (h0 : 0 ≤ v) (h1 : v < n) : IsL n arcs v (lst n arcs v) := by
  have h := isL_ex n arcs v h0 h1
  unfold lst
  rw [dif_pos h]
  exact h.choose_spec
theorem lst_eq {n : Int} {arcs : List Arc} {v c : Int} (h : IsL n arcs v c) (h0 : 0 ≤ v) (h1 : v < n) : c = lst n arcs v := h.unique (isL_lst h0 h1)
noncomputable def colL (n : Int) (arcs : List Arc) : List Int := (List.range n.toNat).map fun (v : Nat) => lst n arcs v
theorem colL_len (n : Int) (arcs : List Arc) : (colL n arcs).length = n.toNat := by simp [colL]
theorem colL_get {n : Int} {arcs : List Arc} {v : Int} (h0 : 0 ≤ v) (h1 : v < n) : (colL n arcs).getD v.toNat tInt.dflt = lst n arcs v := by
  have : v.toNat < n.toNat := by omega
  have e : ((v.toNat : Nat) : Int) = v := Int.toNat_of_nonneg h0
  simp [colL, List.getD, this, e]
theorem lst_mut {n : Int} {arcs : List Arc} {v w : Int} (hv0 : 0 ≤ v) (hv1 : v < n) (hw0 : 0 ≤ w) (hw1 : w < n) : lst n arcs v = lst n arcs w ↔ Mut arcs v w := by
  constructor
  · intro h
    have h1 := (isL_lst (arcs := arcs) hv0 hv1).mu
    have h2 := (isL_lst (arcs := arcs) hw0 hw1).mu
    rw [← h] at h2
    exact h1.trans h2.symm
  · intro h
    exact ((isL_lst (arcs := arcs) hw0 hw1).move h).unique (isL_lst hv0 hv1) |>.symm

structure CS (arcs : List Arc) (n : Int) (out : List Int) (i : Nat) (col : List Int) : Prop where
  len : col.length = n.toNat
  least : ∀ v, 0 ≤ v → v < n → 0 ≤ cg col v → IsL n arcs v (cg col v)
  uni : ∀ v w, 0 ≤ v → v < n → 0 ≤ w → w < n → Mut arcs v w → 0 ≤ cg col v → 0 ≤ cg col w
  done : ∀ v ∈ out.drop i, 0 ≤ cg col v
theorem cg_rep {n : Nat} {v x : Int} (h0 : 0 ≤ v) (h1 : v < n) : cg (List.replicate n x) v = x := by
  have : v.toNat < n := by omega
  simp [cg, List.getD, this]
theorem CS.start {arcs : List Arc} {n : Int} {out : List Int} (hl : out.length = n.toNat) : CS arcs n out n.toNat (List.replicate n.toNat (-1)) := by
  refine ⟨by simp, fun v h0 h1 h => ?_, fun v w h0 h1 _ _ _ h => ?_, fun v hv => ?_⟩
  · rw [cg_rep h0 (by omega)] at h; omega
  · rw [cg_rep h0 (by omega)] at h; omega
  · rw [List.drop_eq_nil_of_le (by omega)] at hv; cases hv
theorem CS.skip {arcs : List Arc} {n : Int} {out : List Int} {i : Nat} {col : List Int} (h : CS arcs n out (i + 1) col) (hi : i < out.length) (hs : 0 ≤ cg col (out.getD i tInt.dflt)) : CS arcs n out i col := by
  refine ⟨h.len, h.least, h.uni, fun v hv => ?_⟩
  rw [List.drop_eq_getElem_cons hi] at hv
  rcases List.mem_cons.1 hv with e | e
  · rw [e, ← getD_at (d := tInt.dflt) hi]; exact hs
  · exact h.done v e

structure CM (arcs : List Arc) (n : Int) (col0 : List Int) (r : Int) (col mem : List Int) (k : Nat) : Prop where
  len : col.length = n.toNat
  nd : mem.Nodup
  rin : r ∈ mem
  ms : ∀ m ∈ mem, 0 ≤ m ∧ m < n ∧ cg col0 m < 0 ∧ Pth arcs m r
  cv : ∀ v, 0 ≤ v → v < n → cg col v = if v ∈ mem then n else cg col0 v
  pre : ∀ j, j < k → ∀ a ∈ arcs, a.dst = mem.getD j tInt.dflt → 0 ≤ cg col a.src
theorem CM.start {arcs : List Arc} {n : Int} {col0 : List Int} {r : Int} (hl : col0.length = n.toNat) (h0 : 0 ≤ r) (h1 : r < n) (hu : cg col0 r < 0) : CM arcs n col0 r (col0.set r.toNat n) [r] 0 := by
  refine ⟨by simpa using hl, List.nodup_cons.2 ⟨by simp, List.nodup_nil⟩, by simp, fun m hm => ?_, fun v hv0 hv1 => ?_, fun j hj => absurd hj (Nat.not_lt_zero _)⟩
  · rw [List.mem_singleton.1 hm]; exact ⟨h0, h1, hu, .refl _ _⟩
  · rw [cg_set h0 hv0 (by omega)]; simp
theorem CM.le {arcs : List Arc} {n : Int} {col0 : List Int} {r : Int} {col mem : List Int} {k : Nat} (h : CM arcs n col0 r col mem k) : mem.length ≤ n.toNat := nodup_len n.toNat mem h.nd fun v hv => by have := h.ms v hv; omega
theorem CM.add {arcs : List Arc} {n : Int} {col0 : List Int} {r : Int} {col mem : List Int} {k : Nat} {w x : Int} (h : CM arcs n col0 r col mem k) (hn : 0 ≤ n) (hk : k ≤ mem.length) (hx : x ∈ mem) (h0 : 0 ≤ w) (h1 : w < n) (hwx : Pth arcs w x) (hu : cg col w < 0) :
    CM arcs n col0 r (col.set w.toNat n) (mem ++ [w]) k ∧ ∀ v, 0 ≤ v → v < n → 0 ≤ cg col v → 0 ≤ cg (col.set w.toNat n) v := by
  have hl := h.len
  have hwm : w ∉ mem := fun hm => by have := h.cv w h0 h1; rw [if_pos hm] at this; omega
  have hset : ∀ v, 0 ≤ v → cg (col.set w.toNat n) v = if v = w then n else cg col v := fun v hv => cg_set h0 hv (by omega)
  have hmono : ∀ v, 0 ≤ v → v < n → 0 ≤ cg col v → 0 ≤ cg (col.set w.toNat n) v := fun v hv0 _ hv => by rw [hset v hv0]; split <;> omega
  refine ⟨⟨by simpa using hl, ?_, List.mem_append_left _ h.rin, fun m hm => ?_, fun v hv0 hv1 => ?_, fun j hj a ha he => ?_⟩, hmono⟩
  · rw [List.nodup_append]
    refine ⟨h.nd, List.nodup_cons.2 ⟨by simp, List.nodup_nil⟩, fun a ha b hb e => ?_⟩
    rw [List.mem_singleton.1 hb] at e
    exact hwm (e ▸ ha)
  · rcases List.mem_append.1 hm with hm | hm
    · exact h.ms m hm
    · rw [List.mem_singleton.1 hm]
      refine ⟨h0, h1, ?_, hwx.trans (h.ms x hx).2.2.2⟩
      have := h.cv w h0 h1
      rw [if_neg hwm] at this
      omega
  · rw [hset v hv0, h.cv v hv0 hv1]
    by_cases e : v = w
    · subst e; simp
    · simp [e]
  · have e1 : (mem ++ [w]).getD j tInt.dflt = mem.getD j tInt.dflt := by simp only [List.getD_eq_getElem?_getD]; rw [List.getElem?_append_left (by omega)]
    rw [e1] at he
    have hp := h.pre j hj a ha he
    rcases Int.lt_or_le a.src 0 with hs | hs
    · have : a.src.toNat = 0 := by omega
      unfold cg at hp ⊢
      rw [this] at hp ⊢
      by_cases hw : w.toNat = 0
      · rw [hw, List.getD, List.getElem?_set_self (by omega)]; simpa using hn
      · rw [List.getD, List.getElem?_set_ne hw]; exact hp
    · rw [hset _ hs]; split <;> omega
theorem CM.next {arcs : List Arc} {n : Int} {col0 : List Int} {r : Int} {col mem : List Int} {k : Nat} (h : CM arcs n col0 r col mem k) (hp : ∀ a ∈ arcs, a.dst = mem.getD k tInt.dflt → 0 ≤ cg col a.src) : CM arcs n col0 r col mem (k + 1) := by
  refine ⟨h.len, h.nd, h.rin, h.ms, h.cv, fun j hj a ha he => ?_⟩
  by_cases e : j = k
  · subst e; exact hp a ha he
  · exact h.pre j (by omega) a ha he
theorem CM.all {arcs : List Arc} {n : Int} {out col0 : List Int} {i : Nat} {col mem : List Int} (hok : ∀ a ∈ arcs, arcOk n a) (F : Fin arcs n out) (S : CS arcs n out (i + 1) col0) (hi : i < out.length) (h : CM arcs n col0 (out.getD i tInt.dflt) col mem mem.length) :
    ∀ v, 0 ≤ v → v < n → (v ∈ mem ↔ Mut arcs v (out.getD i tInt.dflt)) := by
  have hri : out.getD i tInt.dflt = out[i] := getD_at hi
  generalize hr : out.getD i tInt.dflt = r at *
  have hru := h.ms r h.rin
  intro v hv0 hv1
  constructor
  · intro hv
    obtain ⟨_, _, hu, hp⟩ := h.ms v hv
    have : ∃ w, Mut arcs v w ∧ w ∉ out.take i := Classical.byContradiction fun hno => by
      have hall : ∀ w, Mut arcs v w → w ∈ out.take i := fun w hw => Classical.byContradiction fun hn => hno ⟨w, hw, hn⟩
      have hrt := F.cl i v hv0 hv1 hall r hp
      obtain ⟨j, hj, he⟩ := List.getElem_of_mem hrt
      rw [List.getElem_take] at he
      simp only [List.length_take] at hj
      have := (List.getElem_inj F.nd).1 (he.trans hri)
      omega
    obtain ⟨w, hw, hwn⟩ := this
    have hwr := hw.1.range hok hv0 hv1
    have hwo : w ∈ out := (F.mem w).2 hwr
    rw [← List.take_append_drop i out] at hwo
    rcases List.mem_append.1 hwo with e | e
    · exact absurd e hwn
    · rw [List.drop_eq_getElem_cons hi] at e
      rcases List.mem_cons.1 e with e | e
      · rw [hri, ← e]; exact hw
      · have := S.uni w v hwr.1 hwr.2 hv0 hv1 hw.symm (S.done w e)
        omega
  · intro hm
    have key : ∀ z, Pth arcs v z → Mut arcs z r → z ∈ mem → v ∈ mem := by
      intro z hz
      induction hz with
      | start hz => intro _ hzm; rw [List.mem_singleton.1 hz] at hzm; exact hzm
      | @step a ha hp ih =>
        intro hmz hzm
        have hak := hok a ha
        unfold arcOk at hak
        have hsm : Mut arcs a.src r := ⟨(Pth.arc ha).trans hmz.1, hm.2.trans hp⟩
        have hs : 0 ≤ cg col a.src := by
          obtain ⟨j, hj, he⟩ := List.getElem_of_mem hzm
          exact h.pre j hj a ha (by rw [getD_at hj, he])
        refine ih hsm ?_
        have hc := h.cv a.src hak.1 hak.2.1
        by_cases e : a.src ∈ mem
        · exact e
        · rw [if_neg e] at hc
          have := S.uni a.src r hak.1 hak.2.1 hru.1 hru.2.1 hsm (by omega)
          omega
    exact key r hm.1 (Mut.refl _ _) h.rin
/-- The least number of a list. -/
def IsMin (l : List Int) (m : Int) : Prop := m ∈ l ∧ ∀ x ∈ l, m ≤ x
/-- In the middle of the last loop: the first j members have their number. -/
def CW (n : Int) (col0 mem : List Int) (m : Int) (j : Nat) (col : List Int) : Prop := col.length = n.toNat ∧ ∀ v, 0 ≤ v → v < n → cg col v = if v ∈ mem.take j then m else if v ∈ mem then n else cg col0 v
theorem CW.step {n : Int} {col0 mem : List Int} {m : Int} {j : Nat} {col : List Int} (hr : ∀ v ∈ mem, 0 ≤ v ∧ v < n) (h : CW n col0 mem m j col) (hj : j < mem.length) : CW n col0 mem m (j + 1) (col.set (mem.getD j tInt.dflt).toNat m) := by
  obtain ⟨h1, h2⟩ := h
  have hm : mem.getD j tInt.dflt ∈ mem := mem_getD _ hj
  have hv := hr _ hm
  refine ⟨by simpa using h1, fun v hv0 hv1 => ?_⟩
  have htk : mem.take (j + 1) = mem.take j ++ [mem.getD j tInt.dflt] := by
    rw [List.take_succ_eq_append_getElem hj]; simp [List.getD, hj]
  rw [cg_set hv.1 hv0 (by omega), h2 v hv0 hv1, htk]
  by_cases e : v = mem.getD j tInt.dflt
  · rw [if_pos e, if_pos (by rw [e]; exact List.mem_append_right _ (List.mem_singleton.2 rfl))]
  · rw [if_neg e]
    by_cases e2 : v ∈ mem.take j
    · rw [if_pos e2, if_pos (List.mem_append_left _ e2)]
    · have hne : ¬ v ∈ mem.take j ++ [mem.getD j tInt.dflt] := fun hx => by
        rcases List.mem_append.1 hx with hx | hx
        · exact e2 hx
        · exact e (List.mem_singleton.1 hx)
      rw [if_neg e2, if_neg hne]
theorem CW.end {arcs : List Arc} {n : Int} {out col0 : List Int} {i : Nat} {col col' mem : List Int} {m : Int} (hok : ∀ a ∈ arcs, arcOk n a) (F : Fin arcs n out) (S : CS arcs n out (i + 1) col0) (hi : i < out.length) (h : CM arcs n col0 (out.getD i tInt.dflt) col mem mem.length) (hm : IsMin mem m) (h' : CW n col0 mem m mem.length col') : CS arcs n out i col' := by
  obtain ⟨hl, hc⟩ := h'
  have hall := h.all hok F S hi
  rw [List.take_length] at hc
  have hmm := h.ms m hm.1
  have hc' : ∀ v, 0 ≤ v → v < n → cg col' v = if v ∈ mem then m else cg col0 v := fun v h0 h1 => by
    rw [hc v h0 h1]; by_cases e : v ∈ mem <;> simp [e]
  have hin : ∀ v w, 0 ≤ v → v < n → 0 ≤ w → w < n → Mut arcs v w → v ∈ mem → w ∈ mem := fun v w hv0 hv1 hw0 hw1 hvw hv => (hall w hw0 hw1).2 (hvw.symm.trans ((hall v hv0 hv1).1 hv))
  refine ⟨hl, fun v hv0 hv1 hs => ?_, fun v w hv0 hv1 hw0 hw1 hvw hs => ?_, fun v hv => ?_⟩
  · rw [hc' v hv0 hv1] at hs ⊢
    by_cases e : v ∈ mem
    · rw [if_pos e]
      refine ⟨hmm.1, hmm.2.1, ((hall v hv0 hv1).1 e).trans ((hall m hmm.1 hmm.2.1).1 hm.1).symm, fun w hw0 hw1 hw => hm.2 w (hin v w hv0 hv1 hw0 hw1 hw e)⟩
    · rw [if_neg e] at hs ⊢
      exact S.least v hv0 hv1 hs
  · rw [hc' v hv0 hv1] at hs
    rw [hc' w hw0 hw1]
    by_cases e : v ∈ mem
    · rw [if_pos (hin v w hv0 hv1 hw0 hw1 hvw e)]; exact hmm.1
    · rw [if_neg e] at hs
      by_cases e2 : w ∈ mem
      · rw [if_pos e2]; exact hmm.1
      · rw [if_neg e2]; exact S.uni v w hv0 hv1 hw0 hw1 hvw hs
  · have hvr : 0 ≤ v ∧ v < n := (F.mem v).1 (List.mem_of_mem_drop hv)
    rw [hc' v hvr.1 hvr.2]
    rw [List.drop_eq_getElem_cons hi] at hv
    rcases List.mem_cons.1 hv with e | e
    · rw [if_pos (by rw [e, ← getD_at (d := tInt.dflt) hi]; exact h.rin)]; exact hmm.1
    · split
      · exact hmm.1
      · exact S.done v e
theorem CS.end {arcs : List Arc} {n : Int} {out col : List Int} (F : Fin arcs n out) (h : CS arcs n out 0 col) : col = colL n arcs := by
  have hl := h.len
  apply List.ext_getElem
  · rw [hl, colL_len]
  · intro v h1 h2
    have hv : v < n.toNat := by omega
    have hvr : 0 ≤ (v : Int) ∧ (v : Int) < n := by omega
    have hd := h.done (v : Int) (by rw [List.drop_zero]; exact (F.mem _).2 hvr)
    have := lst_eq (h.least _ hvr.1 hvr.2 hd) hvr.1 hvr.2
    simp only [cg, Int.toNat_natCast] at this
    rw [getD_at h1] at this
    rw [this]; simp [colL]
end Go.Proofs.Ytlfhflgafeblnaa
