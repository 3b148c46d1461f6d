/-
  Distances that have come to rest are tight; without negative weights they come to rest. Plain Lean.
-/
import Derived.Test.YtlfhflgafeblnaaGReach
namespace Go.Proofs.Ytlfhflgafeblnaa
open Go.Sl

theorem rest_stays {arcs : List Arc} {d : Ds} {m : Nat} (h : ∀ a ∈ arcs, relaxV (iter arcs m d) a = none) : ∀ k, iter arcs (m + k) d = iter arcs m d
  | 0 => rfl
  | k + 1 => by
    rw [show m + (k + 1) = (m + k) + 1 from by omega, iter_succ, rest_stays h k]
    exact (rest_of_flag arcs _ (by rw [flag_of_rest arcs _ h])).2
theorem bf_of_rest {arcs : List Arc} {d : Ds} {n m : Nat} (hf : ∀ a ∈ arcs, Fits n a) (hd : d.length = n) (h : ∀ a ∈ arcs, relaxV (iter arcs m d) a = none) : bf arcs n d ≠ none := by
  intro hb
  have h1 : ∀ a ∈ arcs, relaxV (iter arcs (m + n) d) a = none := by rw [rest_stays h]; exact h
  have h2 := rest_by_n hf hd h1 (by omega)
  have h3 := (bf_none n d).1 hb n (Nat.le_refl _)
  have h4 : (pass arcs (iter arcs n d)).2 = false := by rw [h2, pass, flag_of_rest arcs _ h1]
  rw [h4] at h3; cases h3

/-! ### Without negative weights -/
def Nn (d : Ds) : Prop := ∀ i x, gd d i = some x → 0 ≤ x
def nones (d : Ds) : Nat := d.count none
def total (d : Ds) : Nat := (d.map fun o => match o with | none => 0 | some x => x.toNat).sum
theorem le_cases : ∀ {d e : Ds}, d.length = e.length → (∀ i, i < e.length → Le (d.getD i none) (e.getD i none)) → (∀ i x, d.getD i none = some x → 0 ≤ x) → d = e ∨ nones d < nones e ∨ (nones d = nones e ∧ total d < total e)
  | [], [], _, _, _ => .inl rfl
  | a :: d, b :: e, hl, hle, hn => by
    have h0 := hle 0 (by simp)
    simp only [List.getD_cons_zero] at h0
    have ih := le_cases (d := d) (e := e) (by simpa using hl) (fun i hi => by simpa using hle (i + 1) (by simpa using hi)) (fun i x hx => hn (i + 1) x (by simpa using hx))
    have ha := hn 0
    simp only [List.getD_cons_zero] at ha
    cases b with
    | none =>
      cases a with
      | none =>
        rcases ih with rfl | h | ⟨h1, h2⟩
        · exact .inl rfl
        · right; left; simp only [nones, List.count_cons_self] at h ⊢; omega
        · right; right; simp only [nones, total, List.count_cons_self, List.map_cons, List.sum_cons] at h1 h2 ⊢; omega
      | some x =>
        right; left
        have : nones d ≤ nones e := by rcases ih with rfl | h | ⟨h1, _⟩ <;> omega
        simp only [nones, List.count_cons_self] at this ⊢
        rw [List.count_cons_of_ne (by simp)]; omega
    | some y =>
      obtain ⟨x, rfl, hx⟩ := h0
      have hx0 := ha x rfl
      have e1 : nones (some x :: d) = nones d := by simp only [nones]; rw [List.count_cons_of_ne (by simp)]
      have e2 : nones (some y :: e) = nones e := by simp only [nones]; rw [List.count_cons_of_ne (by simp)]
      have e3 : total (some x :: d) = x.toNat + total d := by simp [total]
      have e4 : total (some y :: e) = y.toNat + total e := by simp [total]
      rw [e1, e2, e3, e4]
      rcases ih with rfl | h | ⟨h1, h2⟩
      · by_cases hxy : x = y
        · subst hxy; exact .inl rfl
        · right; right; exact ⟨rfl, by omega⟩
      · exact .inr (.inl h)
      · right; right; exact ⟨h1, by omega⟩
theorem Nn_step {d : Ds} {a : Arc} (b : Bool) (h : Nn d) (hw : 0 ≤ a.wt) : Nn (stepA (d, b) a).1 := by
  cases hr : relaxV d a with
  | none => rw [step_same _ hr]; exact h
  | some z =>
    rw [step_some _ hr]
    obtain ⟨⟨x, hx, rfl⟩, _⟩ := relaxV_lt hr
    have := h _ _ hx
    intro i y hy
    unfold gd at hy
    simp only [List.getD, List.getElem?_set] at hy
    split at hy
    · split at hy
      · simp at hy; omega
      · simp at hy
    · exact h i y hy
theorem Nn_run : ∀ (l : List Arc) (d : Ds), Nn d → (∀ a ∈ l, 0 ≤ a.wt) → Nn (runD l d)
  | [], _, h, _ => h
  | a :: l, d, h, hw => by
    rw [runD_cons]
    exact Nn_run l _ (Nn_step false h (hw a List.mem_cons_self)) fun b hb => hw b (List.mem_cons_of_mem _ hb)
theorem comes_to_rest {n : Nat} {arcs : List Arc} (hf : ∀ a ∈ arcs, Fits n a) (hw : ∀ a ∈ arcs, 0 ≤ a.wt) : ∀ (c s : Nat) (d : Ds), d.length = n → Nn d → nones d = c → total d = s → ∃ m, ∀ a ∈ arcs, relaxV (iter arcs m d) a = none := by
  intro c
  induction c using Nat.strongRecOn with
  | _ c ihc =>
    intro s
    induction s using Nat.strongRecOn with
    | _ s ihs =>
      intro d hd hn hc hs
      cases hp : (pass arcs d).2 with
      | false => exact ⟨0, (rest_of_flag arcs d hp).1⟩
      | true =>
        have hmv := moved_of_flag arcs d hd hf hp
        have hn' := Nn_run arcs d hn hw
        have hl' : (runD arcs d).length = n := by rw [runD_len, hd]
        have hle := runD_le arcs d hd hf
        have : ∃ m, ∀ a ∈ arcs, relaxV (iter arcs m (runD arcs d)) a = none := by
          rcases le_cases (d := runD arcs d) (e := d) (by omega) (fun i _ => by simpa [gd] using hle (i : Int)) (fun i x hx => hn' (i : Int) x (by simpa [gd] using hx)) with h | h | ⟨h1, h2⟩
          · exact absurd h hmv
          · exact ihc _ (by omega) _ _ hl' hn' rfl rfl
          · exact ihs _ (by omega) _ hl' hn' (by omega) rfl
        obtain ⟨m, hm⟩ := this
        exact ⟨m + 1, hm⟩
theorem d0_nn (n : Nat) (src : Int) (h : 0 ≤ src) (h1 : src < n) : Nn (d0 n src.toNat) := fun i x hx => by have := d0_bd n src h h1 i x hx; omega
theorem bf_nonneg {n : Nat} {arcs : List Arc} {src : Int} (hf : ∀ a ∈ arcs, Fits n a) (hw : ∀ a ∈ arcs, 0 ≤ a.wt) (h0 : 0 ≤ src) (h1 : src < n) : bf arcs n (d0 n src.toNat) ≠ none := by
  obtain ⟨m, hm⟩ := comes_to_rest hf hw _ _ (d0 n src.toNat) (d0_len _ _) (d0_nn n src h0 h1) rfl rfl
  exact bf_of_rest hf (d0_len _ _) hm

/-! ### Walks -/
inductive Wk (arcs : List Arc) (src : Int) : Int → Int → Prop
  | nil : Wk arcs src src 0
  | step {a : Arc} {x : Int} : a ∈ arcs → Wk arcs src a.src x → Wk arcs src a.dst (x + a.wt)
theorem Wk.rch {arcs : List Arc} {src v x : Int} (h : Wk arcs src v x) : Rch arcs [src] v := by
  induction h with
  | nil => exact .start (by simp)
  | step ha _ ih => exact .step ha ih
theorem Wk.shift {arcs : List Arc} {src z v x : Int} (hz : Wk arcs src src z) (h : Wk arcs src v x) : Wk arcs src v (z + x) := by
  induction h with
  | nil => simpa using hz
  | step ha _ ih => rw [← Int.add_assoc]; exact .step ha ih
def WI (n : Nat) (arcs : List Arc) (src : Int) (d : Ds) : Prop := ∀ (v x : Int), 0 ≤ v → v < n → gd d v = some x → Wk arcs src v x
theorem WI_step {n : Nat} {arcs : List Arc} {src : Int} {d : Ds} {a : Arc} (b : Bool) (hl : d.length = n) (hf : Fits n a) (ha : a ∈ arcs) (h : WI n arcs src d) : WI n arcs src (stepA (d, b) a).1 := by
  cases hr : relaxV d a with
  | none => rw [step_same _ hr]; exact h
  | some z =>
    rw [step_some _ hr]
    obtain ⟨⟨x, hx, rfl⟩, _⟩ := relaxV_lt hr
    obtain ⟨h1, h2, h3, h4⟩ := hf
    intro v y hv0 hv1 hy
    simp only at hy
    rw [gd_set d a.dst v _ h3 hv0 (by omega)] at hy
    split at hy
    · rename_i he; cases hy; rw [he]; exact .step ha (h _ _ h1 h2 hx)
    · exact h v y hv0 hv1 hy
theorem WI_run {n : Nat} {arcs : List Arc} {src : Int} (hf : ∀ a ∈ arcs, Fits n a) : ∀ (l : List Arc) (d : Ds), (∀ a ∈ l, a ∈ arcs) → d.length = n → WI n arcs src d → WI n arcs src (runD l d)
  | [], _, _, _, h => h
  | a :: l, d, hm, hl, h => by
    rw [runD_cons]
    refine WI_run hf l _ (fun b hb => hm b (List.mem_cons_of_mem _ hb)) (by rw [stepA_len]; exact hl) ?_
    exact WI_step false hl (hf a (hm a List.mem_cons_self)) (hm a List.mem_cons_self) h
theorem bf_end {arcs : List Arc} : ∀ (f : Nat) (d e : Ds), bf arcs f d = some e → ∃ m, e = iter arcs m d ∧ ∀ a ∈ arcs, relaxV e a = none
  | 0, d, e, h => by
    unfold bf at h
    split at h
    · cases h
    · rename_i hn
      have hn' : (pass arcs d).2 = false := by simpa using hn
      obtain ⟨h1, h2⟩ := rest_of_flag arcs d hn'
      cases h
      have : (pass arcs d).1 = d := h2
      exact ⟨0, this, by rw [this]; exact h1⟩
  | f + 1, d, e, h => by
    unfold bf at h
    split at h
    · obtain ⟨m, h1, h2⟩ := bf_end f _ e h
      exact ⟨m + 1, h1, h2⟩
    · rename_i hn
      have hn' : (pass arcs d).2 = false := by simpa using hn
      obtain ⟨h1, h2⟩ := rest_of_flag arcs d hn'
      cases h
      have : (pass arcs d).1 = d := h2
      exact ⟨0, this, by rw [this]; exact h1⟩
theorem rest_arc {d : Ds} {a : Arc} (h : relaxV d a = none) {x : Int} (hx : gd d a.src = some x) : ∃ y, gd d a.dst = some y ∧ y ≤ x + a.wt := by
  unfold relaxV at h
  rw [hx] at h
  simp only at h
  split at h
  · cases h
  · rename_i y hy
    split at h
    · cases h
    · exact ⟨y, hy, by omega⟩

/-- What is true of distances at rest. -/
structure Tight (n : Nat) (arcs : List Arc) (src : Int) (d : Ds) : Prop where
  len : d.length = n
  rest : ∀ a ∈ arcs, ∀ x, gd d a.src = some x → ∃ y, gd d a.dst = some y ∧ y ≤ x + a.wt
  zero : gd d src = some 0
  reach : ∀ v : Int, 0 ≤ v → v < n → (Rch arcs [src] v ↔ ∃ x, gd d v = some x)
  tight : ∀ v x : Int, 0 ≤ v → v < n → v ≠ src → gd d v = some x → ∃ a ∈ arcs, a.dst = v ∧ ∃ y, gd d a.src = some y ∧ x = y + a.wt
theorem tight_of {n f : Nat} {arcs : List Arc} {src : Int} {d : Ds} (hf : ∀ a ∈ arcs, Fits n a) (h0 : 0 ≤ src) (h1 : src < n) (h : bf arcs f (d0 n src.toNat) = some d) : Tight n arcs src d := by
  obtain ⟨m, he, hr⟩ := bf_end f _ _ h
  have hl : d.length = n := by rw [he, iter_len, d0_len]
  have hrest : ∀ a ∈ arcs, ∀ x, gd d a.src = some x → ∃ y, gd d a.dst = some y ∧ y ≤ x + a.wt := fun a ha x hx => rest_arc (hr a ha) hx
  have hd0 : ∀ v, 0 ≤ v → gd (d0 n src.toNat) v = if v = src then some 0 else none := fun v hv => by
    unfold d0; rw [gd_set _ src v _ h0 hv (by simpa using h1), gd_replicate]
  obtain ⟨l, hlm, hit⟩ := iter_run arcs m (d0 n src.toNat)
  have hW : WI n arcs src d := by
    rw [he, hit]
    refine WI_run hf l _ hlm (d0_len _ _) fun v x hv0 hv1 hx => ?_
    rw [hd0 v hv0] at hx
    split at hx
    · rename_i e; cases hx; rw [e]; exact .nil
    · cases hx
  have hsrc : Le (gd d src) (some 0) := by
    have := runD_le l (d0 n src.toNat) (d0_len _ _) (fun a ha => hf a (hlm a ha)) src
    rw [← hit, ← he, hd0 src h0, if_pos rfl] at this
    exact this
  have hpot : ∀ v x, Wk arcs src v x → ∃ y, gd d v = some y ∧ y ≤ x := by
    intro v x hw
    induction hw with
    | nil => exact hsrc
    | step ha _ ih =>
      obtain ⟨y, hy, hyx⟩ := ih
      obtain ⟨z, hz, hzy⟩ := hrest _ ha y hy
      exact ⟨z, hz, by omega⟩
  have hzero : gd d src = some 0 := by
    obtain ⟨z, hz, hz0⟩ := hsrc
    have hwz := hW src z h0 h1 hz
    obtain ⟨y, hy, hyz⟩ := hpot src _ (hwz.shift hwz)
    rw [hz] at hy; cases hy
    rw [hz, show z = 0 from by omega]
  refine ⟨hl, hrest, hzero, fun v hv0 hv1 => ⟨fun hr => ?_, fun ⟨x, hx⟩ => (hW v x hv0 hv1 hx).rch⟩, fun v x hv0 hv1 hne hx => ?_⟩
  · clear hv0 hv1
    induction hr with
    | start hv => rw [List.mem_singleton.1 hv]; exact ⟨0, hzero⟩
    | step ha _ ih => obtain ⟨x, hx⟩ := ih; obtain ⟨y, hy, _⟩ := hrest _ ha x hx; exact ⟨y, hy⟩
  · have hw := hW v x hv0 hv1 hx
    cases hw with
    | nil => exact absurd rfl hne
    | step ha hw' =>
      rename_i a y
      obtain ⟨y', hy', hle⟩ := hpot _ _ hw'
      obtain ⟨z, hz, hzy⟩ := hrest _ ha y' hy'
      rw [hx] at hz; cases hz
      exact ⟨a, ha, rfl, y', hy', by omega⟩

/-! ### What the walk of the law needs -/
theorem reach_sb {n : Int} {arcs : List Arc} {fr : List Int} {v : Int} (h0 : 0 ≤ v) (h1 : v < n) : sb (reachL n arcs fr) v = true ↔ Rch arcs fr v := by
  have hl : v.toNat < n.toNat := by omega
  have hv : ((v.toNat : Nat) : Int) = v := Int.toNat_of_nonneg h0
  simp [sb, reachL, List.getD, hl, hv]
theorem reachL_len (n : Int) (arcs : List Arc) (fr : List Int) : (reachL n arcs fr).length = n.toNat := by simp [reachL]
theorem shortR_err {n : Int} {arcs : List Arc} {src : Int} {f : Nat} (h : (shortR n arcs src f).1 ≠ 0) : (shortR n arcs src f).2 = [] := by
  unfold shortR at h ⊢
  split
  · rfl
  · split
    · rfl
    · rename_i h1 h2
      rw [if_neg h1, if_neg h2] at h
      split
      · rfl
      · rename_i d hd
        simp only [hd] at h
        split
        · rename_i h3; rw [if_pos h3] at h; exact absurd rfl h
        · rfl
theorem shortR_zero {n : Int} {arcs : List Arc} {src : Int} {f : Nat} (h : (shortR n arcs src f).1 = 0) : checkCode n arcs = 0 ∧ (0 ≤ src ∧ src < n) ∧ ∃ d, bf arcs f (d0 n.toNat src.toNat) = some d ∧ finOk d ∧ shortR n arcs src f = (0, d.map (encF 1125899906842624)) := by
  unfold shortR at h ⊢
  split at h
  · rename_i h1; exact absurd h h1
  · rename_i h1
    split at h
    · cases h
    · rename_i h2
      rw [if_neg h1, if_neg h2]
      split at h
      · cases h
      · rename_i d hd
        split at h
        · rename_i h3
          exact ⟨by simpa using h1, by omega, d, hd, h3, by simp only [hd, if_pos h3]⟩
        · cases h
theorem shortR_21 {n : Int} {arcs : List Arc} {src : Int} (hw : ∀ a ∈ arcs, 0 ≤ a.wt) : (shortR n arcs src n.toNat).1 ≠ 21 := by
  unfold shortR
  split
  · rename_i h1
    simp only [checkCode]
    split
    · decide
    · split
      · decide
      · split <;> decide
  · rename_i h1
    split
    · decide
    · rename_i h2
      have hc := of_checkCode (show checkCode n arcs = 0 by simpa using h1)
      have hb := bf_nonneg (n := n.toNat) (arcs := arcs) (src := src) (fun a ha => by have := hc.2.2 a ha; unfold arcOk at this; exact ⟨by omega, by omega, by omega, by omega⟩) hw (by omega) (by omega)
      split
      · rename_i hn; exact absurd hn hb
      · split <;> simp
theorem node_cases {n : Int} {arcs : List Arc} {src : Int} {d : Ds} (T : Tight n.toNat arcs src d) (hfin : finOk d) {v : Int} (h0 : 0 ≤ v) (h1 : v < n) :
    ((reachL n arcs [src]).getD v.toNat tBool.dflt = true ∧ ∃ x, gd d v = some x ∧ (d.map (encF 1125899906842624)).getD v.toNat tInt.dflt = x ∧ -1099511627776 ≤ x ∧ x ≤ 1099511627776) ∨
    ((reachL n arcs [src]).getD v.toNat tBool.dflt = false ∧ gd d v = none ∧ (d.map (encF 1125899906842624)).getD v.toNat tInt.dflt = 1125899906842624) := by
  have hl := T.len
  have hr := reach_sb (arcs := arcs) (fr := [src]) h0 h1
  have hr2 := T.reach v h0 (by omega)
  have hg : (d.map (encF 1125899906842624)).getD v.toNat tInt.dflt = encF 1125899906842624 (d.getD v.toNat none) := encF_get _ d (by omega)
  cases hx : gd d v with
  | none =>
    right
    refine ⟨?_, rfl, ?_⟩
    · have : ¬ sb (reachL n arcs [src]) v = true := fun h => by
        obtain ⟨x, h'⟩ := hr2.1 (hr.1 h); rw [hx] at h'; cases h'
      simpa [sb, tBool] using this
    · rw [hg]; unfold gd at hx; rw [hx]; rfl
  | some x =>
    left
    refine ⟨hr.2 (hr2.2 ⟨x, hx⟩), x, rfl, ?_, ?_⟩
    · rw [hg]; unfold gd at hx; rw [hx]; rfl
    · have hm : d.getD v.toNat none ∈ d := mem_getD none (by omega)
      have := List.all_eq_true.1 hfin _ hm
      unfold gd at hx
      rw [hx] at this
      simpa [finB] using this
end Go.Proofs.Ytlfhflgafeblnaa
