/-
  The numbers of the components: the greedy order over the graph of components, which has no cycle.
-/
import Derived.Test.YtlfhflgafeblnaaGComp
namespace Go.Proofs.Ytlfhflgafeblnaa
open Go.Sl

noncomputable def btwA (n : Int) (arcs : List Arc) (a : Arc) : Arc := ⟨lst n arcs a.src, lst n arcs a.dst, 0⟩
noncomputable def btwK (n : Int) (arcs : List Arc) (k : Nat) : List Arc := ((arcs.take k).filter fun a => !decide (lst n arcs a.src = lst n arcs a.dst)).map (btwA n arcs)
noncomputable def btw (n : Int) (arcs : List Arc) : List Arc := btwK n arcs arcs.length
noncomputable def repsK (n : Int) (arcs : List Arc) (k : Nat) : List Int := (idL k).filter fun v => decide (lst n arcs v = v)
noncomputable def reps (n : Int) (arcs : List Arc) : List Int := repsK n arcs n.toNat
theorem btwK_zero (n : Int) (arcs : List Arc) : btwK n arcs 0 = [] := by simp [btwK]
theorem btwK_len (n : Int) (arcs : List Arc) (k : Nat) : (btwK n arcs k).length ≤ arcs.length := by
  simp only [btwK, List.length_map]
  refine Nat.le_trans (List.length_filter_le _ _) ?_
  simp only [List.length_take]; omega
theorem btwK_succ {n : Int} {arcs : List Arc} {k : Nat} (hk : k < arcs.length) : btwK n arcs (k + 1) = if lst n arcs (arcs.getD k tArc.dflt).src = lst n arcs (arcs.getD k tArc.dflt).dst then btwK n arcs k else btwK n arcs k ++ [btwA n arcs (arcs.getD k tArc.dflt)] := by
  have : arcs.take (k + 1) = arcs.take k ++ [arcs.getD k tArc.dflt] := by
    rw [List.take_succ_eq_append_getElem hk]; simp [List.getD, hk]
  generalize arcs.getD k tArc.dflt = a at *
  simp only [btwK, this, List.filter_append, List.map_append]
  split
  · rename_i h; simp [List.filter, h]
  · rename_i h; simp [List.filter, h]
theorem mem_btw {n : Int} {arcs : List Arc} {b : Arc} : b ∈ btw n arcs ↔ ∃ a ∈ arcs, lst n arcs a.src ≠ lst n arcs a.dst ∧ b = btwA n arcs a := by
  simp only [btw, btwK, List.take_length, List.mem_map, List.mem_filter, Bool.not_eq_true', decide_eq_false_iff_not]
  constructor
  · rintro ⟨a, ⟨h1, h2⟩, rfl⟩; exact ⟨a, h1, h2, rfl⟩
  · rintro ⟨a, h1, h2, rfl⟩; exact ⟨a, ⟨h1, h2⟩, rfl⟩
theorem repsK_zero (n : Int) (arcs : List Arc) : repsK n arcs 0 = [] := by simp [repsK, idL]
theorem repsK_succ (n : Int) (arcs : List Arc) (k : Nat) : repsK n arcs (k + 1) = if lst n arcs k = k then repsK n arcs k ++ [(k : Int)] else repsK n arcs k := by
  have : idL (k + 1) = idL k ++ [(k : Int)] := by simp [idL, List.range_succ]
  simp only [repsK, this, List.filter_append]
  split
  · rename_i h; simp [List.filter, h]
  · rename_i h; simp [List.filter, h]
theorem repsK_len (n : Int) (arcs : List Arc) (k : Nat) : (repsK n arcs k).length ≤ k := by
  refine Nat.le_trans (List.length_filter_le _ _) ?_
  rw [idL_len]; exact Nat.le_refl _
theorem mem_reps {n : Int} {arcs : List Arc} {v : Int} : v ∈ reps n arcs ↔ (0 ≤ v ∧ v < n) ∧ lst n arcs v = v := by
  simp only [reps, repsK, List.mem_filter, mem_idL, decide_eq_true_eq]
  constructor
  · rintro ⟨h1, h2⟩; exact ⟨by omega, h2⟩
  · rintro ⟨h1, h2⟩; exact ⟨by omega, h2⟩
theorem reps_nodup (n : Int) (arcs : List Arc) : (reps n arcs).Nodup := (idL_nodup _).filter _
theorem reps_rng {n : Int} {arcs : List Arc} : ∀ v ∈ reps n arcs, 0 ≤ v ∧ v < n.toNat := fun v hv => by have := (mem_reps.1 hv).1; omega
theorem lst_rng {n : Int} {arcs : List Arc} {v : Int} (h0 : 0 ≤ v) (h1 : v < n) : 0 ≤ lst n arcs v ∧ lst n arcs v < n := ⟨(isL_lst h0 h1).lo, (isL_lst h0 h1).hi⟩
theorem lst_lst {n : Int} {arcs : List Arc} {v : Int} (h0 : 0 ≤ v) (h1 : v < n) : lst n arcs (lst n arcs v) = lst n arcs v := by
  have h := isL_lst (arcs := arcs) h0 h1
  exact (lst_mut h.lo h.hi h0 h1).2 h.mu.symm
theorem lst_le {n : Int} {arcs : List Arc} {v : Int} (h0 : 0 ≤ v) (h1 : v < n) : lst n arcs v ≤ v := (isL_lst h0 h1).le v h0 h1 (Mut.refl _ _)
theorem lst_reps {n : Int} {arcs : List Arc} {v : Int} (h0 : 0 ≤ v) (h1 : v < n) : lst n arcs v ∈ reps n arcs := mem_reps.2 ⟨lst_rng h0 h1, lst_lst h0 h1⟩
section
variable {n : Int} {arcs : List Arc} (hok : ∀ a ∈ arcs, arcOk n a)
include hok
theorem btw_ok : ∀ b ∈ btw n arcs, arcOk n b := fun b hb => by
  obtain ⟨a, ha, _, rfl⟩ := mem_btw.1 hb
  have hak := hok a ha
  unfold arcOk at hak
  have h1 := lst_rng (arcs := arcs) hak.1 hak.2.1
  have h2 := lst_rng (arcs := arcs) hak.2.2.1 hak.2.2.2.1
  exact ⟨h1.1, h1.2, h2.1, h2.2, by simp [btwA], by simp [btwA]⟩
theorem btw_dst : ∀ b ∈ btw n arcs, b.dst ∈ reps n arcs := fun b hb => by
  obtain ⟨a, ha, _, rfl⟩ := mem_btw.1 hb
  have hak := hok a ha
  unfold arcOk at hak
  exact lst_reps hak.2.2.1 hak.2.2.2.1
theorem btw_src : ∀ b ∈ btw n arcs, b.src ∈ reps n arcs := fun b hb => by
  obtain ⟨a, ha, _, rfl⟩ := mem_btw.1 hb
  have hak := hok a ha
  unfold arcOk at hak
  exact lst_reps hak.1 hak.2.1
theorem btw_pth : ∀ b ∈ btw n arcs, Pth arcs b.src b.dst ∧ ¬ Pth arcs b.dst b.src := fun b hb => by
  have hs := mem_reps.1 (btw_src hok b hb)
  have hd := mem_reps.1 (btw_dst hok b hb)
  obtain ⟨a, ha, hne, rfl⟩ := mem_btw.1 hb
  have hak := hok a ha
  unfold arcOk at hak
  have h1 := (isL_lst (arcs := arcs) hak.1 hak.2.1).mu
  have h2 := (isL_lst (arcs := arcs) hak.2.2.1 hak.2.2.2.1).mu
  have hp : Pth arcs (lst n arcs a.src) (lst n arcs a.dst) := (h1.2.trans (Pth.arc ha)).trans h2.1
  refine ⟨hp, fun hq => hne ?_⟩
  have := (lst_mut (arcs := arcs) hs.1.1 hs.1.2 hd.1.1 hd.1.2).2 ⟨hp, hq⟩
  exact hs.2.symm.trans (this.trans hd.2)
end
theorem sumF_lt {f g : Nat → Nat} {w : Nat} : ∀ n, (∀ i, i < n → f i ≤ g i) → w < n → f w < g w → sumF f n < sumF g n
  | n + 1, h, hw, hl => by
    simp only [sumF]
    have hle : ∀ m, m ≤ n → sumF f m ≤ sumF g m := by
      intro m
      induction m with
      | zero => intro _; exact Nat.le_refl _
      | succ m ih => intro hm; simp only [sumF]; have := ih (by omega); have := h m (by omega); omega
    by_cases e : w = n
    · subst e; have := hle w (Nat.le_refl _); omega
    · have := sumF_lt n (fun i hi => h i (by omega)) (by omega) hl
      have := h n (by omega)
      omega
open Classical in
noncomputable def ancN (n : Int) (arcs : List Arc) (u : Int) : Nat := sumF (fun v => if Pth arcs (v : Int) u then 1 else 0) n.toNat
theorem anc_lt {n : Int} {arcs : List Arc} {u v : Int} (hv0 : 0 ≤ v) (hv1 : v < n) (h : Pth arcs u v) (hn : ¬ Pth arcs v u) : ancN n arcs u < ancN n arcs v := by
  unfold ancN
  refine sumF_lt (w := v.toNat) n.toNat (fun i _ => ?_) (by omega) ?_
  · split
    · rename_i h1; rw [if_pos (h1.trans h)]; exact Nat.le_refl _
    · exact Nat.zero_le _
  · have e : ((v.toNat : Nat) : Int) = v := Int.toNat_of_nonneg hv0
    rw [e, if_neg hn, if_pos (Pth.refl _ _)]; exact Nat.zero_lt_one
theorem run_full {n : Int} {arcs : List Arc} {out : List Int} (hok : ∀ a ∈ arcs, arcOk n a) (hm : ∀ u, ¬ Free (btw n arcs) (reps n arcs) out u) : ∀ u ∈ reps n arcs, u ∈ out := by
  have key : ∀ k : Nat, ∀ u ∈ reps n arcs, ancN n arcs u = k → u ∈ out := by
    intro k
    induction k using Nat.strongRecOn with
    | _ k ih =>
      intro u hu hk
      refine Classical.byContradiction fun hno => hm u ⟨hu, hno, fun b hb hd => ?_⟩
      have hp := btw_pth hok b hb
      rw [hd] at hp
      have hr := (mem_reps.1 hu).1
      exact ih _ (by rw [← hk]; exact anc_lt hr.1 hr.2 hp.1 hp.2) b.src (btw_src hok b hb) rfl
  exact fun u hu => key _ u hu rfl

/-- The numbers, by a run. -/
structure NumOk (n : Int) (arcs : List Arc) (run l : List Int) : Prop where
  len : l.length = n.toNat
  yes : ∀ v, 0 ≤ v → v < n → lst n arcs v ∈ run → 0 ≤ cg l v ∧ (cg l v).toNat < run.length ∧ run.getD (cg l v).toNat tInt.dflt = lst n arcs v
  no : ∀ v, 0 ≤ v → v < n → lst n arcs v ∉ run → cg l v = -1
theorem NumOk.unique {n : Int} {arcs : List Arc} {run l l' : List Int} (hn : run.Nodup) (h : NumOk n arcs run l) (h' : NumOk n arcs run l') : l = l' := by
  have hl := h.len
  have hl' := h'.len
  apply List.ext_getElem (by omega)
  intro v h1 h2
  have e : ∀ (l : List Int) (hv : v < l.length), cg l (v : Int) = l[v] := fun l hv => by simp only [cg, Int.toNat_natCast]; exact getD_at hv
  rw [← e l h1, ← e l' h2]
  by_cases hm : lst n arcs (v : Int) ∈ run
  · obtain ⟨a1, a2, a3⟩ := h.yes v (by omega) (by omega) hm
    obtain ⟨b1, b2, b3⟩ := h'.yes v (by omega) (by omega) hm
    rw [getD_at a2] at a3
    rw [getD_at b2] at b3
    have := (List.getElem_inj hn).1 (a3.trans b3.symm)
    omega
  · rw [h.no v (by omega) (by omega) hm, h'.no v (by omega) (by omega) hm]
/-- What 'Components' answers. -/
def CompRes (n : Int) (arcs : List Arc) (c : Int) (l : List Int) : Prop :=
  if checkCode n arcs = 0 then c = 0 ∧ ∃ run, Run (btw n arcs) (reps n arcs) run ∧ (∀ u, ¬ Free (btw n arcs) (reps n arcs) run u) ∧ NumOk n arcs run l
  else (c, l) = (checkCode n arcs, [])
theorem CompRes.fn {n : Int} {arcs : List Arc} {c c' : Int} {l l' : List Int} (h : CompRes n arcs c l) (h' : CompRes n arcs c' l') : c = c' ∧ l = l' := by
  unfold CompRes at h h'
  split at h
  · rename_i hc
    rw [if_pos hc] at h'
    obtain ⟨rfl, o, r, m, e⟩ := h
    obtain ⟨rfl, o', r', m', e'⟩ := h'
    have l1 := r.le r' m
    have l2 := r'.le r m'
    have := r.unique r' (by omega)
    subst this
    exact ⟨rfl, e.unique r.nodup e'⟩
  · rename_i hc
    rw [if_neg hc] at h'
    rw [← h'] at h
    cases h; exact ⟨rfl, rfl⟩
theorem NumOk.start {n : Int} {arcs : List Arc} : NumOk n arcs [] (List.replicate n.toNat (-1)) :=
  ⟨by simp, (fun v _ _ h => by cases h), fun v h0 h1 _ => cg_rep h0 (by omega)⟩
/-- What a component must fulfil to be numbered next. -/
def CFree (n : Int) (arcs : List Arc) (run : List Int) (v : Int) : Prop := (0 ≤ v ∧ v < n) ∧ lst n arcs v ∉ run ∧ ∀ a ∈ arcs, lst n arcs a.dst = lst n arcs v → lst n arcs a.src ≠ lst n arcs v → lst n arcs a.src ∈ run
theorem cfree_lst {n : Int} {arcs : List Arc} {run : List Int} {v : Int} (h0 : 0 ≤ v) (h1 : v < n) : CFree n arcs run v ↔ Free (btw n arcs) (reps n arcs) run (lst n arcs v) := by
  constructor
  · rintro ⟨_, h2, h3⟩
    refine ⟨lst_reps h0 h1, h2, fun b hb hd => ?_⟩
    obtain ⟨a, ha, hne, rfl⟩ := mem_btw.1 hb
    have hd' : lst n arcs a.dst = lst n arcs v := hd
    exact h3 a ha hd' (by rw [← hd']; exact hne)
  · rintro ⟨_, h2, h3⟩
    refine ⟨⟨h0, h1⟩, h2, fun a ha hd hs => ?_⟩
    exact h3 (btwA n arcs a) (mem_btw.2 ⟨a, ha, by rw [hd]; exact hs, rfl⟩) hd
/-- The least node of the free components is the least free node of the run. -/
theorem cfree_least {n : Int} {arcs : List Arc} {run : List Int} {c : Int} (h : CFree n arcs run c) (hm : ∀ u, CFree n arcs run u → c ≤ u) : lst n arcs c = c ∧ Free (btw n arcs) (reps n arcs) run c ∧ ∀ u, Free (btw n arcs) (reps n arcs) run u → c ≤ u := by
  have hr := h.1
  have hl := lst_rng (arcs := arcs) hr.1 hr.2
  have hll := lst_lst (arcs := arcs) hr.1 hr.2
  have hc : CFree n arcs run (lst n arcs c) := (cfree_lst hl.1 hl.2).2 (by rw [hll]; exact (cfree_lst hr.1 hr.2).1 h)
  have h1 := hm _ hc
  have h2 := lst_le (arcs := arcs) hr.1 hr.2
  have e : lst n arcs c = c := by omega
  refine ⟨e, by have := (cfree_lst hr.1 hr.2).1 h; rwa [e] at this, fun u hu => ?_⟩
  have hur := mem_reps.1 hu.1
  exact hm u ((cfree_lst hur.1.1 hur.1.2).2 (by rw [hur.2]; exact hu))
theorem cfree_none {n : Int} {arcs : List Arc} {run : List Int} (h : ∀ u, ¬ CFree n arcs run u) : ∀ u, ¬ Free (btw n arcs) (reps n arcs) run u := fun u hu => by
  have hur := mem_reps.1 hu.1
  exact h u ((cfree_lst hur.1.1 hur.1.2).2 (by rw [hur.2]; exact hu))
/-- In the middle of numbering a component. -/
def NumW (n : Int) (arcs : List Arc) (l0 : List Int) (c k : Int) (j : Nat) (l : List Int) : Prop := l.length = n.toNat ∧ ∀ v, 0 ≤ v → v < n → cg l v = if v < j ∧ lst n arcs v = c then k else cg l0 v
theorem NumOk.snoc {n : Int} {arcs : List Arc} {run l0 l : List Int} {c : Int} (h : NumOk n arcs run l0) (hc : c ∉ run) (hw : NumW n arcs l0 c run.length n.toNat l) : NumOk n arcs (run ++ [c]) l := by
  refine ⟨hw.1, fun v h0 h1 hm => ?_, fun v h0 h1 hm => ?_⟩
  · rw [hw.2 v h0 h1]
    by_cases e : lst n arcs v = c
    · rw [if_pos ⟨by omega, e⟩, e]
      refine ⟨by omega, by simp, ?_⟩
      simp [List.getD]
    · rw [if_neg fun hh => e hh.2]
      rcases List.mem_append.1 hm with hm | hm
      · obtain ⟨a1, a2, a3⟩ := h.yes v h0 h1 hm
        refine ⟨a1, by simp only [List.length_append, List.length_cons, List.length_nil]; omega, ?_⟩
        rw [← a3]
        simp only [List.getD_eq_getElem?_getD]
        rw [List.getElem?_append_left a2]
      · exact absurd (List.mem_singleton.1 hm) e
  · rw [hw.2 v h0 h1, if_neg fun hh => hm (by rw [hh.2]; exact List.mem_append_right _ (List.mem_singleton.2 rfl))]
    exact h.no v h0 h1 fun hr => hm (List.mem_append_left _ hr)
theorem numW_start {n : Int} {arcs : List Arc} {l0 : List Int} {c k : Int} (hl : l0.length = n.toNat) : NumW n arcs l0 c k 0 l0 := ⟨hl, fun v h0 _ => by rw [if_neg (by omega)]⟩
theorem NumW.yes {n : Int} {arcs : List Arc} {l0 l : List Int} {c k : Int} {j : Nat} (h : NumW n arcs l0 c k j l) (hj : j < n.toNat) (he : lst n arcs j = c) : NumW n arcs l0 c k (j + 1) (l.set j k) := by
  obtain ⟨h1, h2⟩ := h
  refine ⟨by simpa using h1, fun v h0 hv1 => ?_⟩
  have := cg_set (col := l) (v := v) (w := (j : Int)) (x := k) (by omega) h0 (by simp only [Int.toNat_natCast]; omega)
  rw [Int.toNat_natCast] at this
  rw [this, h2 v h0 hv1]
  by_cases e : v = j
  · rw [if_pos e, if_pos ⟨by omega, by rw [e]; exact he⟩]
  · rw [if_neg e]
    by_cases e2 : v < (j : Int) ∧ lst n arcs v = c
    · rw [if_pos e2, if_pos ⟨by omega, e2.2⟩]
    · rw [if_neg e2, if_neg fun hh => e2 ⟨by omega, hh.2⟩]
theorem NumW.no {n : Int} {arcs : List Arc} {l0 l : List Int} {c k : Int} {j : Nat} (h : NumW n arcs l0 c k j l) (he : lst n arcs j ≠ c) : NumW n arcs l0 c k (j + 1) l := by
  refine ⟨h.1, fun v h0 hv1 => ?_⟩
  rw [h.2 v h0 hv1]
  by_cases e : v = j
  · rw [if_neg fun hh => by omega, if_neg fun hh => he (by rw [← e]; exact hh.2)]
  · by_cases e2 : v < (j : Int) ∧ lst n arcs v = c
    · rw [if_pos e2, if_pos ⟨by omega, e2.2⟩]
    · rw [if_neg e2, if_neg fun hh => e2 ⟨by omega, hh.2⟩]

/-! What the law without the reference needs -/
theorem comp_mut {n : Int} {arcs : List Arc} {run l : List Int} (hok : ∀ a ∈ arcs, arcOk n a) (hr : Run (btw n arcs) (reps n arcs) run) (hm : ∀ u, ¬ Free (btw n arcs) (reps n arcs) run u) (h : NumOk n arcs run l) {v w : Int} (hv0 : 0 ≤ v) (hv1 : v < n) (hw0 : 0 ≤ w) (hw1 : w < n) : cg l v = cg l w ↔ Mut arcs v w := by
  have hf := run_full hok hm
  obtain ⟨a1, a2, a3⟩ := h.yes v hv0 hv1 (hf _ (lst_reps hv0 hv1))
  obtain ⟨b1, b2, b3⟩ := h.yes w hw0 hw1 (hf _ (lst_reps hw0 hw1))
  rw [← lst_mut (n := n) hv0 hv1 hw0 hw1, ← a3, ← b3]
  constructor
  · intro e; rw [e]
  · intro e
    rw [getD_at a2, getD_at b2] at e
    have := (List.getElem_inj hr.nodup).1 e
    omega
theorem comp_arc {n : Int} {arcs : List Arc} {run l : List Int} (hok : ∀ a ∈ arcs, arcOk n a) (hr : Run (btw n arcs) (reps n arcs) run) (hm : ∀ u, ¬ Free (btw n arcs) (reps n arcs) run u) (h : NumOk n arcs run l) {a : Arc} (ha : a ∈ arcs) : cg l a.src ≤ cg l a.dst := by
  have hf := run_full hok hm
  have hak := hok a ha
  unfold arcOk at hak
  obtain ⟨a1, a2, a3⟩ := h.yes a.src hak.1 hak.2.1 (hf _ (lst_reps hak.1 hak.2.1))
  obtain ⟨b1, b2, b3⟩ := h.yes a.dst hak.2.2.1 hak.2.2.2.1 (hf _ (lst_reps hak.2.2.1 hak.2.2.2.1))
  by_cases e : lst n arcs a.src = lst n arcs a.dst
  · rw [← a3, ← b3, getD_at a2, getD_at b2] at e
    have := (List.getElem_inj hr.nodup).1 e
    omega
  · have hb : btwA n arcs a ∈ btw n arcs := mem_btw.2 ⟨a, ha, e, rfl⟩
    have hfr := (hr.at _ b2).1
    have hs : lst n arcs a.src ∈ run.take (cg l a.dst).toNat := hfr.2.2 _ hb (by rw [← getD_at (d := tInt.dflt) b2, b3]; rfl)
    obtain ⟨i, hi, he⟩ := List.getElem_of_mem hs
    rw [List.getElem_take] at he
    simp only [List.length_take] at hi
    rw [getD_at a2] at a3
    have := (List.getElem_inj hr.nodup).1 (he.trans a3.symm)
    omega
end Go.Proofs.Ytlfhflgafeblnaa
