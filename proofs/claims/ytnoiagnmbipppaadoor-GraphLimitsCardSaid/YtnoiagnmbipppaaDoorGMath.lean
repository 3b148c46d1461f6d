/-
  Graphs with weights, in plain Lean: the check of a graph, the passes of Bellman and Ford, and that passes beyond the number of nodes change nothing that has come to rest.
-/
import Derived.Test.YtnoiagnmbipppaaDoorMSlA
set_option linter.unusedSimpArgs false
set_option linter.unusedVariables false
namespace Go.Proofs.YtnoiagnmbipppaaDoor.G04
open Go.Sl
set_option maxRecDepth 8000

structure Arc where
  src : Int
  dst : Int
  wt : Int
  deriving DecidableEq
def tArc : Ty Arc := ⟨3, fun a => [.int .i64 a.src, .int .i64 a.dst, .int .i64 a.wt], fun _ => rfl, ⟨0, 0, 0⟩⟩

def arcOk (n : Int) (a : Arc) : Prop := 0 ≤ a.src ∧ a.src < n ∧ 0 ≤ a.dst ∧ a.dst < n ∧ -1099511627776 ≤ a.wt ∧ a.wt ≤ 1099511627776
instance (n : Int) (a : Arc) : Decidable (arcOk n a) := by unfold arcOk; infer_instance
/-- The error code of a graph. -/
def checkCode (n : Int) (arcs : List Arc) : Int :=
  if n < 0 then 1 else if 4096 < n ∨ 65536 < (arcs.length : Int) then 5 else if ∀ a ∈ arcs, arcOk n a then 0 else 1
theorem checkCode_neg {n : Int} {arcs : List Arc} (h : n < 0) : checkCode n arcs = 1 := by simp [checkCode, h]
theorem checkCode_large {n : Int} {arcs : List Arc} (h : 0 ≤ n) (h1 : 4096 < n ∨ 65536 < (arcs.length : Int)) : checkCode n arcs = 5 := by simp only [checkCode, if_neg (Int.not_lt.2 h), h1, if_true]
theorem mem_getD {α : Type} {xs : List α} {i : Nat} (d : α) (h : i < xs.length) : xs.getD i d ∈ xs := by
  simp [List.getD, h]
theorem checkCode_bad {n : Int} {arcs : List Arc} (h : 0 ≤ n) (h1 : ¬ (4096 < n ∨ 65536 < (arcs.length : Int))) {k : Nat} (hk : k < arcs.length) (hb : ¬ arcOk n (arcs.getD k tArc.dflt)) : checkCode n arcs = 1 := by
  have : ¬ ∀ a ∈ arcs, arcOk n a := fun hh => hb (hh _ (mem_getD _ hk))
  simp only [checkCode, if_neg (Int.not_lt.2 h), h1, this, if_false]
theorem checkCode_ok {n : Int} {arcs : List Arc} (h : 0 ≤ n) (h1 : ¬ (4096 < n ∨ 65536 < (arcs.length : Int))) (hb : ∀ i, i < arcs.length → arcOk n (arcs.getD i tArc.dflt)) : checkCode n arcs = 0 := by
  have : ∀ a ∈ arcs, arcOk n a := fun a ha => by
    obtain ⟨i, hi, rfl⟩ := List.getElem_of_mem ha
    have := hb i hi
    simpa [List.getD, hi] using this
  simp only [checkCode, if_neg (Int.not_lt.2 h), h1, if_false, if_pos this]
theorem of_checkCode {n : Int} {arcs : List Arc} (h : checkCode n arcs = 0) : 0 ≤ n ∧ n ≤ 4096 ∧ ∀ a ∈ arcs, arcOk n a := by
  unfold checkCode at h
  split at h
  · cases h
  · split at h
    · cases h
    · split at h
      · rename_i h1 h2 h3; exact ⟨by omega, by omega, h3⟩
      · cases h

/-! ### Filling a list -/
def fillK {α : Type} (n : Nat) (F z : α) (k : Nat) : List α := List.replicate k F ++ List.replicate (n - k) z
theorem fillK_len {α : Type} {n : Nat} (F z : α) {k : Nat} (h : k ≤ n) : (fillK n F z k).length = n := by simp [fillK]; omega
theorem fillK_zero {α : Type} (n : Nat) (F z : α) : fillK n F z 0 = List.replicate n z := by simp [fillK]
theorem fillK_all {α : Type} {n : Nat} (F z : α) {k : Nat} (h : k = n) : fillK n F z k = List.replicate n F := by subst h; simp [fillK]
theorem fillK_set {α : Type} {n : Nat} (F z : α) {k : Nat} (h : k < n) : (fillK n F z k).set k F = fillK n F z (k + 1) := by
  simp only [fillK]
  rw [List.set_append_right _ _ (by simp), List.length_replicate, Nat.sub_self, show n - k = (n - (k + 1)) + 1 from by omega, List.replicate_succ, List.set_cons_zero, show k + 1 = k + 1 from rfl, List.replicate_succ' ]
  simp

/-! ### Passes -/
/-- The distances found so far; 'none': none yet. -/
abbrev Ds := List (Option Int)
def encF (F : Int) : Option Int → Int
  | none => F
  | some x => x
def gd (d : Ds) (i : Int) : Option Int := d.getD i.toNat none
def relaxV (d : Ds) (a : Arc) : Option Int :=
  match gd d a.src with
  | none => none
  | some x => match gd d a.dst with
    | none => some (x + a.wt)
    | some y => if x + a.wt < y then some (x + a.wt) else none
def stepA (p : Ds × Bool) (a : Arc) : Ds × Bool :=
  match relaxV p.1 a with
  | none => p
  | some z => (p.1.set a.dst.toNat (some z), true)
def pass (arcs : List Arc) (d : Ds) : Ds × Bool := arcs.foldl stepA (d, false)
def passK (arcs : List Arc) (d : Ds) (k : Nat) : Ds × Bool := (arcs.take k).foldl stepA (d, false)
def bf (arcs : List Arc) : Nat → Ds → Option Ds
  | 0, d => if (pass arcs d).2 then none else some (pass arcs d).1
  | f + 1, d => if (pass arcs d).2 then bf arcs f (pass arcs d).1 else some (pass arcs d).1

theorem passK_zero (arcs : List Arc) (d : Ds) : passK arcs d 0 = (d, false) := rfl
theorem passK_all (arcs : List Arc) (d : Ds) {k : Nat} (h : arcs.length ≤ k) : passK arcs d k = pass arcs d := by simp [passK, pass, List.take_of_length_le h]
theorem passK_succ (arcs : List Arc) (d : Ds) {k : Nat} (h : k < arcs.length) : passK arcs d (k + 1) = stepA (passK arcs d k) (arcs.getD k tArc.dflt) := by
  have : arcs.getD k tArc.dflt = arcs[k] := by simp [List.getD, h]
  rw [this]
  unfold passK
  rw [List.take_succ_eq_append_getElem h, List.foldl_append]
  rfl
theorem stepA_len (p : Ds × Bool) (a : Arc) : (stepA p a).1.length = p.1.length := by
  unfold stepA; split <;> simp
theorem foldl_len : ∀ (l : List Arc) (p : Ds × Bool), (l.foldl stepA p).1.length = p.1.length
  | [], _ => rfl
  | a :: l, p => by rw [List.foldl_cons, foldl_len l, stepA_len]
theorem passK_len (arcs : List Arc) (d : Ds) (k : Nat) : (passK arcs d k).1.length = d.length := foldl_len _ _

/-! Bounds -/
def Bd (B : Int) (d : Ds) : Prop := ∀ i x, gd d i = some x → -B ≤ x ∧ x ≤ B
theorem gd_set (d : Ds) (i j : Int) (v : Option Int) (hi : 0 ≤ i) (hj : 0 ≤ j) (hl : i < d.length) : gd (d.set i.toNat v) j = if j = i then v else gd d j := by
  unfold gd
  by_cases h : j = i
  · subst h; rw [if_pos rfl]; simp only [List.getD, List.getElem?_set_self' ]; simp [List.getElem?_eq_getElem (show j.toNat < d.length by omega)]
  · rw [if_neg h]; simp only [List.getD]; rw [List.getElem?_set_ne (by omega)]
theorem Bd_step {B M : Int} {p : Ds × Bool} {a : Arc} (h : Bd B p.1) (_hM : 0 ≤ M) (hw : -M ≤ a.wt ∧ a.wt ≤ M) (hd : 0 ≤ a.dst) (hl : a.dst < p.1.length) : Bd (B + M) (stepA p a).1 := by
  intro i x hx
  unfold stepA at hx
  split at hx
  · have := h i x hx; omega
  · rename_i z hz
    by_cases hi : i.toNat = a.dst.toNat
    · have : z = x := by
        unfold gd at hx
        rw [hi, List.getD, List.getElem?_set_self (by omega)] at hx
        simpa using hx
      subst this
      unfold relaxV at hz
      split at hz
      · cases hz
      · rename_i y hy
        have hb := h _ _ hy
        split at hz
        · cases hz; omega
        · split at hz
          · cases hz; omega
          · cases hz
    · have : gd p.1 i = some x := by
        unfold gd at hx ⊢
        rw [List.getD, List.getElem?_set_ne (by omega)] at hx
        exact hx
      have := h i x this; omega

/-! What the walk's tests say -/
theorem encF_get (F : Int) (d : Ds) {i : Nat} (h : i < d.length) : (d.map (encF F)).getD i 0 = encF F (d.getD i none) := by
  simp [List.getD, h]
theorem encF_bd {B F : Int} {d : Ds} (hB : Bd B d) (h : B ≤ F) (h0 : 0 ≤ F) (i : Nat) : -F ≤ (d.map (encF F)).getD i tInt.dflt ∧ (d.map (encF F)).getD i tInt.dflt ≤ F := by
  rcases Nat.lt_or_ge i d.length with hi | hi
  · have e : (d.map (encF F)).getD i tInt.dflt = encF F (d.getD i none) := encF_get F d hi
    rw [e]
    cases hx : d.getD i none with
    | none => simp only [encF]; omega
    | some x =>
      have := hB i x (by unfold gd; exact hx)
      simp only [encF]; omega
  · have : (d.map (encF F)).getD i tInt.dflt = 0 := by
      rw [List.getD, List.getElem?_eq_none (by simpa using hi)]; rfl
    omega
theorem relax_yes {F B : Int} {d : Ds} {a : Arc} (_hB : Bd B d) (_hF : B < F) (hs : a.src.toNat < d.length) (hd : a.dst.toNat < d.length)
    (h1 : (d.map (encF F)).getD a.src.toNat 0 < F) (h2 : (d.map (encF F)).getD a.src.toNat 0 + a.wt < (d.map (encF F)).getD a.dst.toNat 0) : relaxV d a = some ((d.map (encF F)).getD a.src.toNat 0 + a.wt) := by
  rw [encF_get F d hs] at h1 h2 ⊢
  rw [encF_get F d hd] at h2
  unfold relaxV gd
  cases hx : d.getD a.src.toNat none with
  | none => rw [hx] at h1; simp [encF] at h1
  | some x =>
    simp only [hx, encF] at h1 h2 ⊢
    cases hy : d.getD a.dst.toNat none with
    | none => rfl
    | some y => simp only [hy] at h2 ⊢; rw [if_pos h2]
theorem relax_no {F B M : Int} {d : Ds} {a : Arc} (hB : Bd B d) (hw : a.wt ≤ M) (hF : B + M < F) (hM : 0 ≤ M) (hs : a.src.toNat < d.length) (hd : a.dst.toNat < d.length)
    (h : F ≤ (d.map (encF F)).getD a.src.toNat 0 ∨ (d.map (encF F)).getD a.dst.toNat 0 ≤ (d.map (encF F)).getD a.src.toNat 0 + a.wt) : relaxV d a = none := by
  rw [encF_get F d hs, encF_get F d hd] at h
  unfold relaxV gd
  cases hx : d.getD a.src.toNat none with
  | none => rfl
  | some x =>
    have hb := hB a.src x hx
    simp only [hx, encF] at h ⊢
    cases hy : d.getD a.dst.toNat none with
    | none => simp only [hy] at h; omega
    | some y => simp only [hy] at h ⊢; rw [if_neg (by omega)]

/-! ### Passes beyond the number of nodes -/
/-- a is at most b ('none' is beyond all). -/
def Le (a b : Option Int) : Prop := match b with | none => True | some y => ∃ x, a = some x ∧ x ≤ y
theorem Le.refl (a : Option Int) : Le a a := by cases a <;> simp [Le]
theorem Le.trans {a b c : Option Int} (h : Le a b) (k : Le b c) : Le a c := by
  cases c with
  | none => trivial
  | some z =>
    obtain ⟨y, rfl, hy⟩ := k
    obtain ⟨x, rfl, hx⟩ := h
    exact ⟨x, rfl, by omega⟩
theorem Le.antisymm {a b : Option Int} (h : Le a b) (k : Le b a) : a = b := by
  cases b with
  | none => cases a with
    | none => rfl
    | some x => obtain ⟨_, h', _⟩ := k; cases h'
  | some y =>
    obtain ⟨x, rfl, hx⟩ := h
    obtain ⟨y', h', hy⟩ := k
    cases h'
    have : x = y := by omega
    rw [this]
def LeD (a b : Ds) : Prop := ∀ i, Le (gd a i) (gd b i)
theorem LeD.refl (a : Ds) : LeD a a := fun _ => Le.refl _
theorem LeD.trans {a b c : Ds} (h : LeD a b) (k : LeD b c) : LeD a c := fun i => (h i).trans (k i)
def Fits (n : Nat) (a : Arc) : Prop := 0 ≤ a.src ∧ a.src < n ∧ 0 ≤ a.dst ∧ a.dst < n

theorem gd_neg (d : Ds) {i : Int} (h : i < 0) : gd d i = gd d 0 := by unfold gd; rw [show i.toNat = 0 from by omega]; rfl
theorem relaxV_lt {d : Ds} {a : Arc} {z : Int} (h : relaxV d a = some z) : (∃ x, gd d a.src = some x ∧ z = x + a.wt) ∧ Le (some z) (gd d a.dst) ∧ gd d a.dst ≠ some z := by
  unfold relaxV at h
  split at h
  · cases h
  · rename_i x hx
    split at h
    · rename_i hy; cases h; exact ⟨⟨x, hx, rfl⟩, by rw [hy]; trivial, by rw [hy]; simp⟩
    · rename_i y hy
      split at h
      · rename_i hlt; cases h; exact ⟨⟨x, hx, rfl⟩, by rw [hy]; exact ⟨_, rfl, by omega⟩, by rw [hy]; simp; omega⟩
      · cases h
theorem step_le {n : Nat} (p : Ds × Bool) (a : Arc) (hl : p.1.length = n) (hf : Fits n a) : LeD (stepA p a).1 p.1 := by
  intro i
  unfold stepA
  split
  · exact Le.refl _
  · rename_i z hz
    obtain ⟨_, h2, _⟩ := relaxV_lt hz
    obtain ⟨_, _, h3, h4⟩ := hf
    rcases (by omega : i < 0 ∨ 0 ≤ i) with hi | hi
    · rw [gd_neg _ hi, gd_neg p.1 hi, gd_set p.1 a.dst 0 _ h3 (by omega) (by omega)]
      split
      · rename_i h0; rw [h0]; exact h2
      · exact Le.refl _
    · show Le (gd (p.1.set a.dst.toNat (some z)) i) (gd p.1 i)
      rw [gd_set p.1 a.dst i _ h3 hi (by omega)]
      split
      · rename_i h0; rw [h0]; exact h2
      · exact Le.refl _
theorem fold_le {n : Nat} : ∀ (l : List Arc) (p : Ds × Bool), p.1.length = n → (∀ a ∈ l, Fits n a) → LeD (l.foldl stepA p).1 p.1
  | [], _, _, _ => LeD.refl _
  | a :: l, p, hl, hf => by
    rw [List.foldl_cons]
    exact (fold_le l _ (by rw [stepA_len]; exact hl) fun b hb => hf b (List.mem_cons_of_mem _ hb)).trans (step_le p a hl (hf a List.mem_cons_self))
/-- The flag does not matter to the distances. -/
theorem step_fst (d : Ds) (b b' : Bool) (a : Arc) : (stepA (d, b) a).1 = (stepA (d, b') a).1 := by
  unfold stepA; simp only; split <;> rfl
theorem fold_fst : ∀ (l : List Arc) (d : Ds) (b b' : Bool), (l.foldl stepA (d, b)).1 = (l.foldl stepA (d, b')).1
  | [], _, _, _ => rfl
  | a :: l, d, b, b' => by
    rw [List.foldl_cons, List.foldl_cons]
    have h := step_fst d b b' a
    have e1 : stepA (d, b) a = ((stepA (d, b) a).1, (stepA (d, b) a).2) := rfl
    have e2 : stepA (d, b') a = ((stepA (d, b) a).1, (stepA (d, b') a).2) := by rw [h]
    rw [e1, e2]; exact fold_fst l _ _ _
def runD (l : List Arc) (d : Ds) : Ds := (l.foldl stepA (d, false)).1
theorem runD_cons (a : Arc) (l : List Arc) (d : Ds) : runD (a :: l) d = runD l (stepA (d, false) a).1 := by
  unfold runD; rw [List.foldl_cons]
  have e : stepA (d, false) a = ((stepA (d, false) a).1, (stepA (d, false) a).2) := rfl
  rw [e]; exact fold_fst l _ _ _
theorem runD_append (l k : List Arc) (d : Ds) : runD (l ++ k) d = runD k (runD l d) := by
  induction l generalizing d with
  | nil => rfl
  | cons a l ih => rw [List.cons_append, runD_cons, ih, ← runD_cons]
theorem runD_len (l : List Arc) (d : Ds) : (runD l d).length = d.length := foldl_len _ _
theorem pass_fst (arcs : List Arc) (d : Ds) : (pass arcs d).1 = runD arcs d := rfl
theorem runD_le {n : Nat} (l : List Arc) (d : Ds) (hl : d.length = n) (hf : ∀ a ∈ l, Fits n a) : LeD (runD l d) d := fold_le l _ hl hf
theorem step_same {d : Ds} {a : Arc} (b : Bool) (h : relaxV d a = none) : stepA (d, b) a = (d, b) := by unfold stepA; rw [show (d, b).1 = d from rfl, h]
theorem step_some {d : Ds} {a : Arc} {z : Int} (b : Bool) (h : relaxV d a = some z) : stepA (d, b) a = (d.set a.dst.toNat (some z), true) := by unfold stepA; rw [show (d, b).1 = d from rfl, h]

theorem flag_keeps : ∀ (l : List Arc) (d : Ds), (l.foldl stepA (d, true)).2 = true
  | [], _ => rfl
  | a :: l, d => by
    rw [List.foldl_cons]
    cases h : relaxV d a with
    | none => rw [step_same _ h]; exact flag_keeps l d
    | some z => rw [step_some _ h]; exact flag_keeps l _
theorem rest_of_flag : ∀ (l : List Arc) (d : Ds), (l.foldl stepA (d, false)).2 = false → (∀ a ∈ l, relaxV d a = none) ∧ runD l d = d
  | [], _, _ => ⟨by simp, rfl⟩
  | a :: l, d, h => by
    rw [List.foldl_cons] at h
    cases hr : relaxV d a with
    | none =>
      rw [step_same _ hr] at h
      obtain ⟨h1, h2⟩ := rest_of_flag l d h
      refine ⟨fun b hb => ?_, by rw [runD_cons, step_same _ hr]; exact h2⟩
      rcases List.mem_cons.1 hb with rfl | hb
      · exact hr
      · exact h1 b hb
    | some z => rw [step_some _ hr, flag_keeps] at h; cases h
theorem flag_of_rest : ∀ (l : List Arc) (d : Ds), (∀ a ∈ l, relaxV d a = none) → l.foldl stepA (d, false) = (d, false)
  | [], _, _ => rfl
  | a :: l, d, h => by
    rw [List.foldl_cons, step_same _ (h a List.mem_cons_self)]
    exact flag_of_rest l d fun b hb => h b (List.mem_cons_of_mem _ hb)
theorem moved_of_flag {n : Nat} : ∀ (l : List Arc) (d : Ds), d.length = n → (∀ a ∈ l, Fits n a) → (l.foldl stepA (d, false)).2 = true → runD l d ≠ d
  | [], _, _, _, h => by simp at h
  | a :: l, d, hl, hf, h => by
    rw [List.foldl_cons] at h
    cases hr : relaxV d a with
    | none =>
      rw [step_same _ hr] at h
      rw [runD_cons, step_same _ hr]
      exact moved_of_flag l d hl (fun b hb => hf b (List.mem_cons_of_mem _ hb)) h
    | some z =>
      intro e
      rw [runD_cons, step_some _ hr] at e
      obtain ⟨_, h2, h3⟩ := relaxV_lt hr
      obtain ⟨_, _, h4, h5⟩ := hf a List.mem_cons_self
      have hle := runD_le (n := n) l (d.set a.dst.toNat (some z)) (by simpa using hl) (fun b hb => hf b (List.mem_cons_of_mem _ hb)) a.dst
      simp only at e
      rw [e, gd_set d a.dst a.dst _ h4 h4 (by omega), if_pos rfl] at hle
      exact h3 (Le.antisymm hle h2).symm.symm
/-- Some arc leads from a node that has come to rest to one that has not. -/
theorem first_settle {n : Nat} {F : Ds} (hF : ∀ a, Fits n a → True) (arcs : List Arc) (hst : ∀ a ∈ arcs, relaxV F a = none) : ∀ (l : List Arc) (e : Ds), (∀ a ∈ l, a ∈ arcs ∧ Fits n a) → e.length = n → LeD F e → runD l e = F → e ≠ F →
    ∃ a, a ∈ arcs ∧ Fits n a ∧ (∃ x, gd e a.src = some x ∧ gd F a.src = some x ∧ gd F a.dst = some (x + a.wt)) ∧ gd e a.dst ≠ gd F a.dst
  | [], e, _, _, _, h, hne => absurd h hne
  | a :: l, e, hm, hl, hle, h, hne => by
    obtain ⟨ham, hfa⟩ := hm a List.mem_cons_self
    obtain ⟨hs0, hs1, hd0, hd1⟩ := hfa
    have hm' : ∀ b ∈ l, b ∈ arcs ∧ Fits n b := fun b hb => hm b (List.mem_cons_of_mem _ hb)
    rw [runD_cons] at h
    cases hr : relaxV e a with
    | none => rw [step_same _ hr] at h; exact first_settle hF arcs hst l e hm' hl hle h hne
    | some z =>
      rw [step_some _ hr] at h
      simp only at h
      obtain ⟨⟨x, hx, hz⟩, hlt, hneq⟩ := relaxV_lt hr
      have hl' : (e.set a.dst.toNat (some z)).length = n := by simpa using hl
      have hle' : LeD F (e.set a.dst.toNat (some z)) := by rw [← h]; exact runD_le l _ hl' fun b hb => (hm' b hb).2
      have hFz : Le (gd F a.dst) (some z) := by
        have := hle' a.dst
        rwa [gd_set e a.dst a.dst _ hd0 hd0 (by omega), if_pos rfl] at this
      by_cases hfin : gd F a.dst = some z
      · -- the node comes to rest here: so its predecessor has
        have hFu := hle a.src
        rw [hx] at hFu
        obtain ⟨x', hx', hxx⟩ := hFu
        have hs := hst a ham
        unfold relaxV at hs
        rw [hx', hfin] at hs
        simp only at hs
        split at hs
        · cases hs
        · rename_i hnl
          have : x' = x := by omega
          subst this
          exact ⟨a, ham, ⟨hs0, hs1, hd0, hd1⟩, ⟨x', hx, hx', by rw [hfin, hz]⟩, by rw [hfin]; exact hneq⟩
      · have hne' : e.set a.dst.toNat (some z) ≠ F := fun e' => hfin (by rw [← e', gd_set e a.dst a.dst _ hd0 hd0 (by omega), if_pos rfl])
        obtain ⟨b, hb, hfb, ⟨y, hy1, hy2, hy3⟩, hbn⟩ := first_settle hF arcs hst l _ hm' hl' hle' h hne'
        obtain ⟨hbs0, hbs1, hbd0, hbd1⟩ := id hfb
        rw [gd_set e a.dst b.src _ hd0 hbs0 (by omega)] at hy1
        rw [gd_set e a.dst b.dst _ hd0 hbd0 (by omega)] at hbn
        have hsrc : b.src ≠ a.dst := fun e' => by rw [if_pos e'] at hy1; rw [e', ← hy1] at hy2; exact hfin hy2
        rw [if_neg hsrc] at hy1
        refine ⟨b, hb, hfb, ⟨y, hy1, hy2, hy3⟩, ?_⟩
        by_cases hdd : b.dst = a.dst
        · rw [hdd]
          intro e'
          rw [e'] at hlt hneq
          exact hneq (Le.antisymm hFz hlt)
        · rwa [if_neg hdd] at hbn
/-- A pass brings to rest what lies behind an arc from a node at rest. -/
theorem pass_settles {n : Nat} {F e : Ds} {arcs : List Arc} {a : Arc} (ha : a ∈ arcs) (hf : ∀ a ∈ arcs, Fits n a) (hl : e.length = n) (hF : LeD F (runD arcs e)) {x : Int} (h1 : gd e a.src = some x) (h2 : gd F a.src = some x) (h3 : gd F a.dst = some (x + a.wt)) :
    gd (runD arcs e) a.dst = gd F a.dst := by
  obtain ⟨l, k, rfl⟩ := List.append_of_mem ha
  obtain ⟨hs0, hs1, hd0, hd1⟩ := hf a ha
  rw [runD_append, runD_cons] at hF ⊢
  have hfl : ∀ b ∈ l, Fits n b := fun b hb => hf b (List.mem_append_left _ hb)
  have hfk : ∀ b ∈ k, Fits n b := fun b hb => hf b (List.mem_append_right _ (List.mem_cons_of_mem _ hb))
  have hl1 : (runD l e).length = n := by rw [runD_len, hl]
  have le1 := runD_le l e hl hfl
  have le2 : LeD (stepA (runD l e, false) a).1 (runD l e) := step_le _ a hl1 (hf a ha)
  have hl2 : (stepA (runD l e, false) a).1.length = n := by rw [stepA_len]; exact hl1
  have le3 := runD_le k _ hl2 hfk
  have hu : gd (runD l e) a.src = some x := by
    have g1 := le1 a.src
    rw [h1] at g1
    have g2 := (hF.trans (le3.trans le2)) a.src
    rw [h2] at g2
    exact (Le.antisymm g2 g1).symm
  have hv : Le (gd (stepA (runD l e, false) a).1 a.dst) (some (x + a.wt)) := by
    cases hr : relaxV (runD l e) a with
    | none =>
      rw [step_same _ hr]
      unfold relaxV at hr
      rw [hu] at hr
      simp only at hr
      split at hr
      · cases hr
      · rename_i y hy
        split at hr
        · cases hr
        · simp only; rw [hy]; exact ⟨y, rfl, by omega⟩
    | some z =>
      rw [step_some _ hr]
      simp only
      rw [gd_set _ a.dst a.dst _ hd0 hd0 (by omega), if_pos rfl]
      obtain ⟨⟨x', hx', hz⟩, _⟩ := relaxV_lt hr
      rw [hu] at hx'; cases hx'
      exact ⟨z, rfl, by omega⟩
  rw [h3]
  have g2 := hF a.dst
  rw [h3] at g2
  exact Le.antisymm ((le3 a.dst).trans hv) g2

/-! Counting the nodes at rest -/
def restN (F e : Ds) : Nat → Nat
  | 0 => 0
  | n + 1 => restN F e n + if gd e n = gd F n then 1 else 0
theorem restN_le (F e : Ds) (n : Nat) : restN F e n ≤ n := by
  induction n with
  | zero => simp [restN]
  | succ n ih => simp only [restN]; split <;> omega
theorem restN_all {F e : Ds} {n : Nat} (h : restN F e n = n) : ∀ i, i < n → gd e i = gd F i := by
  induction n with
  | zero => intro i hi; omega
  | succ n ih =>
    simp only [restN] at h
    have := restN_le F e n
    intro i hi
    split at h
    · rename_i hn
      by_cases hin : i = n
      · subst hin; exact hn
      · exact ih (by omega) i (by omega)
    · omega
theorem restN_mono {F e e' : Ds} (n : Nat) (h : ∀ i : Nat, gd e i = gd F i → gd e' i = gd F i) : restN F e n ≤ restN F e' n := by
  induction n with
  | zero => simp [restN]
  | succ n ih =>
    simp only [restN]
    by_cases hn : gd e n = gd F n
    · rw [if_pos hn, if_pos (h n hn)]; omega
    · rw [if_neg hn]; omega
theorem restN_lt {F e e' : Ds} (n : Nat) (h : ∀ i : Nat, gd e i = gd F i → gd e' i = gd F i) {v : Nat} (hv : v < n) (h1 : gd e v ≠ gd F v) (h2 : gd e' v = gd F v) : restN F e n < restN F e' n := by
  induction n with
  | zero => omega
  | succ n ih =>
    simp only [restN]
    by_cases hvn : v = n
    · subst hvn
      have := restN_mono (F := F) v h
      rw [if_neg h1, if_pos h2]; omega
    · have := ih (by omega)
      by_cases hn : gd e n = gd F n
      · rw [if_pos hn, if_pos (h n hn)]; omega
      · rw [if_neg hn]; split <;> omega
def iter (arcs : List Arc) : Nat → Ds → Ds
  | 0, d => d
  | k + 1, d => iter arcs k (runD arcs d)
theorem iter_succ (arcs : List Arc) (k : Nat) (d : Ds) : iter arcs (k + 1) d = runD arcs (iter arcs k d) := by
  induction k generalizing d with
  | zero => rfl
  | succ k ih => rw [iter, ih]; rfl
theorem iter_len (arcs : List Arc) (k : Nat) (d : Ds) : (iter arcs k d).length = d.length := by
  induction k generalizing d with
  | zero => rfl
  | succ k ih => rw [iter, ih, runD_len]
theorem iter_run (arcs : List Arc) : ∀ (k : Nat) (d : Ds), ∃ l, (∀ a ∈ l, a ∈ arcs) ∧ iter arcs k d = runD l d
  | 0, d => ⟨[], by simp, rfl⟩
  | k + 1, d => by
    obtain ⟨l, hl, he⟩ := iter_run arcs k (runD arcs d)
    exact ⟨arcs ++ l, fun a ha => (List.mem_append.1 ha).elim id (hl a), by rw [runD_append, iter, he]⟩
theorem iter_add (arcs : List Arc) (j k : Nat) (d : Ds) : iter arcs (j + k) d = iter arcs k (iter arcs j d) := by
  induction j generalizing d with
  | zero => rw [Nat.zero_add]; rfl
  | succ j ih => rw [show j + 1 + k = (j + k) + 1 from by omega, iter, ih]; rfl
theorem ds_ext {d e : Ds} {n : Nat} (hd : d.length = n) (he : e.length = n) (h : ∀ i : Nat, i < n → gd d i = gd e i) : d = e := by
  apply List.ext_getElem (by omega)
  intro i h1 h2
  have := h i (by omega)
  simpa [gd, List.getD, h1, h2] using this
/-- What comes to rest has come to rest after as many passes as there are nodes. -/
theorem rest_by_n {arcs : List Arc} {d : Ds} {n m : Nat} (hf : ∀ a ∈ arcs, Fits n a) (hd : d.length = n) (hst : ∀ a ∈ arcs, relaxV (iter arcs m d) a = none) (hnm : n ≤ m) : iter arcs n d = iter arcs m d := by
  have key : ∀ k, k ≤ m → iter arcs k d = iter arcs m d ∨ k ≤ restN (iter arcs m d) (iter arcs k d) n := by
    intro k
    induction k with
    | zero => intro _; right; omega
    | succ k ih =>
      intro hk
      have hlk : (iter arcs k d).length = n := by rw [iter_len, hd]
      obtain ⟨l, hl, he⟩ := iter_run arcs (m - k) (iter arcs k d)
      rw [← iter_add, show k + (m - k) = m from by omega] at he
      have hlf : ∀ a ∈ l, a ∈ arcs ∧ Fits n a := fun a ha => ⟨hl a ha, hf a (hl a ha)⟩
      have hle : LeD (iter arcs m d) (iter arcs k d) := by rw [he]; exact runD_le l _ hlk fun a ha => (hlf a ha).2
      obtain ⟨l', hl', he'⟩ := iter_run arcs (m - (k + 1)) (iter arcs (k + 1) d)
      rw [← iter_add, show k + 1 + (m - (k + 1)) = m from by omega] at he'
      have hle' : LeD (iter arcs m d) (iter arcs (k + 1) d) := by rw [he']; exact runD_le l' _ (by rw [iter_len, hd]) fun a ha => hf a (hl' a ha)
      by_cases heq : iter arcs k d = iter arcs m d
      · left; rw [iter_succ, heq]
        exact (rest_of_flag arcs _ (by rw [flag_of_rest arcs _ hst])).2
      · right
        have hk' := (ih (by omega)).resolve_left heq
        obtain ⟨a, ha, hfa, ⟨x, h1, h2, h3⟩, hne⟩ := first_settle (n := n) (fun _ _ => trivial) arcs hst l _ hlf hlk hle he.symm heq
        rw [iter_succ] at hle' ⊢
        have hset := pass_settles ha hf hlk hle' h1 h2 h3
        obtain ⟨_, _, hd0, hd1⟩ := hfa
        have hkeep : ∀ i : Nat, gd (iter arcs k d) i = gd (iter arcs m d) i → gd (runD arcs (iter arcs k d)) i = gd (iter arcs m d) i := by
          intro i hi
          have g1 := runD_le arcs _ hlk hf i
          rw [hi] at g1
          exact Le.antisymm g1 (hle' i)
        have hv : ((a.dst.toNat : Nat) : Int) = a.dst := Int.toNat_of_nonneg hd0
        have := restN_lt (F := iter arcs m d) n hkeep (v := a.dst.toNat) (by omega) (by rw [hv]; exact hne) (by rw [hv]; exact hset)
        omega
  rcases key n hnm with h | h
  · exact h
  · have := restN_le (iter arcs m d) (iter arcs n d) n
    exact ds_ext (n := n) (by rw [iter_len, hd]) (by rw [iter_len, hd]) (restN_all (by omega))

theorem bf_some {arcs : List Arc} : ∀ (f : Nat) (d e : Ds), bf arcs f d = some e → bf arcs (f + 1) d = some e
  | 0, d, e, h => by
    unfold bf at h ⊢
    split at h
    · cases h
    · rename_i hn; rw [if_neg hn]; exact h
  | f + 1, d, e, h => by
    unfold bf at h ⊢
    split at h
    · rename_i hy; rw [if_pos hy]; exact bf_some f _ _ h
    · rename_i hn; rw [if_neg hn]; exact h
theorem bf_none {arcs : List Arc} : ∀ (f : Nat) (d : Ds), bf arcs f d = none ↔ ∀ k, k ≤ f → (pass arcs (iter arcs k d)).2 = true
  | 0, d => by
    unfold bf
    constructor
    · intro h k hk
      have : k = 0 := by omega
      subst this
      split at h
      · assumption
      · cases h
    · intro h; have h0 : (pass arcs d).2 = true := h 0 (Nat.le_refl _); rw [if_pos h0]
  | f + 1, d => by
    unfold bf
    constructor
    · intro h k hk
      split at h
      · rename_i hy
        cases k with
        | zero => exact hy
        | succ k => exact (bf_none f _).1 h k (by omega)
      · cases h
    · intro h
      have h0 : (pass arcs d).2 = true := h 0 (Nat.zero_le _)
      rw [if_pos h0]
      exact (bf_none f _).2 fun k hk => h (k + 1) (by omega)
/-- One pass more than there are nodes decides it: a further one changes nothing. -/
theorem bf_more {arcs : List Arc} {d : Ds} {n : Nat} (hf : ∀ a ∈ arcs, Fits n a) (hd : d.length = n) : bf arcs n d = bf arcs (n + 1) d := by
  cases h : bf arcs n d with
  | some e => rw [bf_some n d e h]
  | none =>
    symm
    rw [bf_none] at h ⊢
    intro k hk
    by_cases hkn : k ≤ n
    · exact h k hkn
    · have : k = n + 1 := by omega
      subst this
      cases hp : (pass arcs (iter arcs (n + 1) d)).2 with
      | true => rfl
      | false =>
        have hst := (rest_of_flag arcs _ hp).1
        have heq := rest_by_n (m := n + 1) hf hd hst (by omega)
        have hmv := moved_of_flag (n := n) arcs (iter arcs n d) (by rw [iter_len, hd]) hf (h n (Nat.le_refl _))
        rw [← iter_succ, ← heq] at hmv
        exact absurd rfl hmv

/-! ### The answer -/
def finB : Option Int → Bool
  | none => true
  | some x => decide (-1099511627776 ≤ x) && decide (x ≤ 1099511627776)
def finOk (d : Ds) : Prop := d.all finB = true
instance (d : Ds) : Decidable (finOk d) := by unfold finOk; infer_instance
theorem gd_replicate (n : Nat) (i : Int) : gd (List.replicate n none) i = none := by
  unfold gd; simp only [List.getD, List.getElem?_replicate]; split <;> rfl
def d0 (n src : Nat) : Ds := (List.replicate n none).set src (some 0)
theorem d0_len (n src : Nat) : (d0 n src).length = n := by simp [d0]
theorem d0_bd (n : Nat) (src : Int) (h : 0 ≤ src) (h1 : src < n) : Bd 0 (d0 n src.toNat) := by
  intro i x hx
  unfold d0 at hx
  rcases (by omega : i < 0 ∨ 0 ≤ i) with hi | hi
  · rw [gd_neg _ hi, gd_set _ src 0 _ h (by omega) (by simpa using h1)] at hx
    split at hx
    · cases hx; omega
    · rw [gd_replicate] at hx; cases hx
  · rw [gd_set _ src i _ h hi (by simpa using h1)] at hx
    split at hx
    · cases hx; omega
    · rw [gd_replicate] at hx; cases hx
theorem d0_enc (F : Int) (n src : Nat) : (d0 n src).map (encF F) = (List.replicate n F).set src 0 := by
  simp [d0, List.map_set, encF]
/-- What 'Shortest' answers: the code and the list. 'f': how many passes may follow the first. -/
def shortR (n : Int) (arcs : List Arc) (src : Int) (f : Nat) : Int × List Int :=
  if checkCode n arcs ≠ 0 then (checkCode n arcs, []) else
  if src < 0 ∨ n ≤ src then (1, []) else
  match bf arcs f (d0 n.toNat src.toNat) with
  | none => (21, [])
  | some d => if finOk d then (0, d.map (encF 1125899906842624)) else (5, [])
theorem shortR_code {n : Int} {arcs : List Arc} {src : Int} {f : Nat} (h : checkCode n arcs ≠ 0) : shortR n arcs src f = (checkCode n arcs, []) := by simp [shortR, h]
theorem shortR_src {n : Int} {arcs : List Arc} {src : Int} {f : Nat} (h : checkCode n arcs = 0) (h1 : src < 0 ∨ n ≤ src) : shortR n arcs src f = (1, []) := by simp only [shortR, h, ne_eq, not_true, if_false, h1, if_true]
theorem shortR_none {n : Int} {arcs : List Arc} {src : Int} {f : Nat} (h : checkCode n arcs = 0) (h1 : 0 ≤ src ∧ src < n) (h2 : bf arcs f (d0 n.toNat src.toNat) = none) : shortR n arcs src f = (21, []) := by
  have : ¬ (src < 0 ∨ n ≤ src) := by omega
  simp only [shortR, h, ne_eq, not_true, if_false, this, h2]
theorem shortR_some {n : Int} {arcs : List Arc} {src : Int} {f : Nat} {d : Ds} (h : checkCode n arcs = 0) (h1 : 0 ≤ src ∧ src < n) (h2 : bf arcs f (d0 n.toNat src.toNat) = some d) : shortR n arcs src f = if finOk d then (0, d.map (encF 1125899906842624)) else (5, []) := by
  have : ¬ (src < 0 ∨ n ≤ src) := by omega
  simp only [shortR, h, ne_eq, not_true, if_false, this, h2]
theorem bf_zero_none {arcs : List Arc} {d : Ds} (h : (pass arcs d).2 = true) : bf arcs 0 d = none := by unfold bf; rw [if_pos h]
theorem bf_step {arcs : List Arc} {f : Nat} {d : Ds} (h : (pass arcs d).2 = true) : bf arcs (f + 1) d = bf arcs f (pass arcs d).1 := by rw [bf, if_pos h]
theorem bf_stop {arcs : List Arc} {f : Nat} {d : Ds} (h : (pass arcs d).2 = false) : bf arcs f d = some (pass arcs d).1 := by cases f <;> simp [bf, h]

/-! The last loop: what has not been reached becomes infinite -/
def finK (F : Int) (d : Ds) (k : Nat) : List Int := (d.take k).map (encF 1125899906842624) ++ (d.drop k).map (encF F)
theorem finK_len (F : Int) (d : Ds) (k : Nat) : (finK F d k).length = d.length := by simp [finK]; omega
theorem finK_zero (F : Int) (d : Ds) : finK F d 0 = d.map (encF F) := by simp [finK]
theorem finK_all (F : Int) (d : Ds) {k : Nat} (h : d.length ≤ k) : finK F d k = d.map (encF 1125899906842624) := by simp [finK, List.take_of_length_le h, List.drop_eq_nil_of_le h]
theorem finK_get (F : Int) (d : Ds) {k : Nat} (h : k < d.length) : (finK F d k).getD k 0 = encF F (d.getD k none) := by
  simp only [finK, List.getD]
  rw [List.getElem?_append_right (by simp; omega)]
  simp [Nat.min_eq_left (Nat.le_of_lt h), h]
theorem finK_none (F : Int) (d : Ds) {k : Nat} (h : k < d.length) (hn : d.getD k none = none) : (finK F d k).set k 1125899906842624 = finK F d (k + 1) := by
  have hg : d[k] = none := by simpa [List.getD, h] using hn
  simp only [finK]
  rw [List.set_append_right _ _ (by simp; omega), List.take_succ_eq_append_getElem h, List.drop_eq_getElem_cons h]
  simp [Nat.min_eq_left (Nat.le_of_lt h), hg, encF]
theorem finK_some (F : Int) (d : Ds) {k : Nat} {x : Int} (h : k < d.length) (hn : d.getD k none = some x) : finK F d k = finK F d (k + 1) := by
  have hg : d[k] = some x := by simpa [List.getD, h] using hn
  simp only [finK]
  rw [List.take_succ_eq_append_getElem h, List.drop_eq_getElem_cons h]
  simp [hg, encF]
theorem fin_bad {d : Ds} {k : Nat} {x : Int} (h : k < d.length) (hn : d.getD k none = some x) (hx : ¬ (-1099511627776 ≤ x ∧ x ≤ 1099511627776)) : ¬ finOk d := by
  intro hf
  have hg : d[k] = some x := by simpa [List.getD, h] using hn
  have := List.all_eq_true.1 hf (some x) (hg ▸ List.getElem_mem h)
  simp [finB] at this
  exact hx this
theorem fin_good {d : Ds} (h : ∀ k, k < d.length → finB (d.getD k none) = true) : finOk d := by
  unfold finOk
  rw [List.all_eq_true]
  intro o ho
  obtain ⟨i, hi, rfl⟩ := List.getElem_of_mem ho
  have := h i hi
  simpa [List.getD, hi] using this
theorem shortR_more (n : Int) (arcs : List Arc) (src : Int) : shortR n arcs src n.toNat = shortR n arcs src (n.toNat + 1) := by
  unfold shortR
  by_cases h : checkCode n arcs = 0
  · have := of_checkCode h
    rw [bf_more (n := n.toNat) (fun a ha => by have := this.2.2 a ha; unfold arcOk at this; exact ⟨by omega, by omega, by omega, by omega⟩) (by simp [d0])]
  · simp [h]
end Go.Proofs.YtnoiagnmbipppaaDoor.G04
