/-
  Several texts as one: TNarrow, TPdb, WPdb, WPdbBuild.
-/
import Derived.Test.YtemnlcnjpjdoaaaGreatDoorMW7
import Derived.Test.YtemnlcnjpjdoaaaGreatDoorMW6
import Derived.Test.YtemnlcnjpjdoaaaGreatDoorMTA
set_option linter.unusedSimpArgs false
set_option linter.unusedVariables false

/-
  Projections of projections, in plain Lean.
-/
namespace Go.Proofs.YtemnlcnjpjdoaaaGreatDoor
open Go.Sl Go

section
variable {t : TTask} {p q : List Int}
end
theorem getD_set_ne {l : List Int} {i j : Nat} {v : Int} (h : i ≠ j) : (l.set i v).getD j tInt.dflt = l.getD j tInt.dflt := by
  simp only [List.getD_eq_getElem?_getD]
  rw [List.getElem?_set_ne h]
end Go.Proofs.YtemnlcnjpjdoaaaGreatDoor

/-
  Plain facts about tables of least costs: least walks are short, other costs, saturated costs, wider patterns.
-/
namespace Go.Proofs.YtemnlcnjpjdoaaaGreatDoor
open Go.Sl Go

/-! ### A least walk is short -/
section
variable {E : List Edg} {c c' : List Int} {G : Int → Prop} {n : Nat} {D D' : List Int} {C : Int}
inductive WalkIn (E : List Edg) (c : List Int) (G : Int → Prop) (S : List Int) : Int → Int → Prop
  | goal {a : Int} : a ∈ S → G a → WalkIn E c G S a 0
  | step {e : Edg} {k : Int} : e ∈ E → e.src ∈ S → WalkIn E c G S e.dst k → WalkIn E c G S e.src (cst c e + k)
def outA (a : Int) (S : List Int) : List Int := S.filter fun x => decide (x ≠ a)
theorem outA_mem {a x : Int} {S : List Int} : x ∈ outA a S ↔ x ∈ S ∧ x ≠ a := by simp [outA]
theorem outA_len {a : Int} {S : List Int} (h : a ∈ S) : (outA a S).length < S.length := by
  unfold outA
  rw [List.length_filter_lt_length_iff_exists]
  exact ⟨a, h, by simp⟩
theorem walkIn_split (hE : EOk E c n) {S : List Int} (a : Int) {x k : Int} (h : WalkIn E c G S x k) :
    WalkIn E c G (outA a S) x k ∨ G a ∨ ∃ e k', e ∈ E ∧ e.src = a ∧ WalkIn E c G (outA a S) e.dst k' ∧ cst c e + k' ≤ k := by
  induction h with
  | @goal b hb hg =>
    by_cases e : b = a
    · subst e; exact .inr (.inl hg)
    · exact .inl (.goal (outA_mem.2 ⟨hb, e⟩) hg)
  | @step e k he hs _ ih =>
    have hc := (hE.cst he).1
    rcases ih with ih | ih | ⟨e', k', h1, h2, h3, h4⟩
    · by_cases ea : e.src = a
      · exact .inr (.inr ⟨e, k, he, ea, ih, Int.le_refl _⟩)
      · exact .inl (.step he (outA_mem.2 ⟨hs, ea⟩) ih)
    · exact .inr (.inl ih)
    · exact .inr (.inr ⟨e', k', h1, h2, h3, by omega⟩)
theorem WalkIn.walk {S : List Int} {x k : Int} (h : WalkIn E c G S x k) : x ∈ S ∧ Walk E c G x k := by
  induction h with
  | goal h hg => exact ⟨h, .goal hg⟩
  | step he hs _ ih => exact ⟨hs, .step he ih.2⟩
theorem Walk.within (hE : EOk E c n) {x k : Int} (h : Walk E c G x k) : 0 ≤ x → x < n → WalkIn E c G (upTo (n : Int)) x k := by
  induction h with
  | goal hg => intro h0 h1; exact .goal (upTo_mem.2 ⟨h0, h1⟩) hg
  | step he _ ih => intro h0 h1; have := hE.dst _ he; exact .step he (upTo_mem.2 ⟨h0, h1⟩) (ih this.1 this.2)
theorem walkIn_short (hE : EOk E c n) (h0 : 0 ≤ C) (hC : ∀ x ∈ c, x ≤ C) : ∀ (m : Nat) (S : List Int), S.length ≤ m → ∀ x k, WalkIn E c G S x k → ∃ k', k' ≤ k ∧ k' ≤ m * C ∧ Walk E c G x k'
  | 0, S, hl, x, k, h => by
    have := h.walk.1
    have : S = [] := List.eq_nil_of_length_eq_zero (by omega)
    subst this; simp at *
  | m + 1, S, hl, x, k, h => by
    have hx := h.walk.1
    have hk := h.walk.2.nonneg hE
    have hm : 0 ≤ (m : Int) * C := Int.mul_nonneg (by omega) h0
    have e1 : ((m + 1 : Nat) : Int) * C = (m : Int) * C + C := by rw [Int.natCast_add, Int.add_mul]; simp
    rcases walkIn_split hE x h with h1 | h1 | ⟨e, k', he, hs, hw, hle⟩
    · exact absurd rfl (outA_mem.1 h1.walk.1).2
    · exact ⟨0, hk, by omega, .goal h1⟩
    · obtain ⟨k2, a1, a2, a3⟩ := walkIn_short hE h0 hC m (outA x S) (by have := outA_len hx; omega) _ _ hw
      have hc : cst c e ≤ C := hC _ (mem_getD tInt.dflt (by have := hE.lab e he; omega))
      exact ⟨cst c e + k2, by omega, by omega, hs ▸ .step he a3⟩
theorem DistOk.short (hE : EOk E c n) (h0 : 0 ≤ C) (hC : ∀ x ∈ c, x ≤ C) (h : DistOk E c G n D) {i : Nat} {k : Int} (hi : i < n) (hw : Walk E c G i k) : dg D i ≤ n * C := by
  obtain ⟨k', _, h2, h3⟩ := walkIn_short hE h0 hC n (upTo (n : Int)) (by simp [upTo]) _ _ (hw.within hE (by omega) (by omega))
  exact Int.le_trans (h.low i hi _ h3) h2
theorem DistOk.fin (hE : EOk E c n) (h0 : 0 ≤ C) (hC : ∀ x ∈ c, x ≤ C) (hB : n * C < inf) (h : DistOk E c G n D) {i : Nat} (hi : i < n) : dg D i < inf ↔ ∃ k, Walk E c G i k :=
  ⟨fun hl => ⟨_, h.att i hi hl⟩, fun ⟨_, hw⟩ => by have := h.short hE h0 hC hi hw; omega⟩
theorem DistOk.bound (hE : EOk E c n) (h0 : 0 ≤ C) (hC : ∀ x ∈ c, x ≤ C) (h : DistOk E c G n D) {i : Nat} (hi : i < n) (hl : dg D i < inf) : dg D i ≤ n * C := h.short hE h0 hC hi (h.att i hi hl)

/-! ### Other costs -/
theorem Walk.other (h : ∀ e ∈ E, cst c' e ≤ cst c e) {x k : Int} (hw : Walk E c G x k) : ∃ k', k' ≤ k ∧ Walk E c' G x k' := by
  induction hw with
  | goal hg => exact ⟨0, Int.le_refl _, .goal hg⟩
  | @step e k he _ ih =>
    obtain ⟨k', h1, h2⟩ := ih
    exact ⟨_, by have := h e he; omega, .step he h2⟩
theorem DistOk.other (hd : DistOk E c G n D) (hd' : DistOk E c' G n D') (h : ∀ e ∈ E, cst c' e ≤ cst c e) {i : Nat} (hi : i < n) : dg D' i ≤ dg D i := by
  by_cases hl : dg D i < inf
  · obtain ⟨k', h1, h2⟩ := (hd.att i hi hl).other h
    have := hd'.low i hi _ h2; omega
  · have := (hd'.rng i hi).2; omega
/-! ### Saturated costs -/
/-- One edge. -/
def satStep (D l : List Int) (e : Edg) : List Int := if dg D e.src < inf ∧ dg D e.dst < inf then l.set e.lab.toNat (if dg D e.src - dg D e.dst > cst l e then dg D e.src - dg D e.dst else cst l e) else l
def satK (E : List Edg) (D : List Int) (m k : Nat) : List Int := (E.take k).foldl (satStep D) (List.replicate m 0)
def satL (E : List Edg) (D : List Int) (m : Nat) : List Int := satK E D m E.length
theorem satK_succ {m k : Nat} (hk : k < E.length) : satK E D m (k + 1) = satStep D (satK E D m k) (E.getD k tEdg.dflt) := by
  rw [satK, take_snoc tEdg.dflt hk, List.foldl_append]; rfl
structure SatOk (E : List Edg) (D : List Int) (m : Nat) (l : List Int) : Prop where
  len : l.length = m
  nn : ∀ i : Nat, i < m → 0 ≤ l.getD i tInt.dflt
  low : ∀ e ∈ E, dg D e.src < inf → dg D e.dst < inf → dg D e.src - dg D e.dst ≤ cst l e
  att : ∀ i : Nat, i < m → l.getD i tInt.dflt = 0 ∨ ∃ e ∈ E, e.lab = i ∧ dg D e.src < inf ∧ dg D e.dst < inf ∧ l.getD i tInt.dflt = dg D e.src - dg D e.dst
theorem satK_ok {m : Nat} (hlab : ∀ e ∈ E, 0 ≤ e.lab ∧ e.lab < m) : ∀ k, k ≤ E.length → SatOk (E.take k) D m (satK E D m k)
  | 0, _ => ⟨by simp [satK], fun i hi => by simp [satK, List.getD, hi], fun e he => by simp at he, fun i hi => .inl (by simp [satK, List.getD, hi])⟩
  | k + 1, h => by
    have hk : k < E.length := by omega
    obtain ⟨h1, h2, h3, h4⟩ := satK_ok hlab k (by omega)
    have he := mem_getD tEdg.dflt hk
    have hl := hlab _ he
    rw [satK_succ hk, take_snoc tEdg.dflt hk]
    generalize satK E D m k = l at h1 h2 h3 h4
    generalize E.getD k tEdg.dflt = e at he hl
    have hg : ∀ (i : Int) (v : Int), 0 ≤ i → (l.set e.lab.toNat v).getD i.toNat tInt.dflt = if i = e.lab then v else l.getD i.toNat tInt.dflt := fun i v hi => dg_set hi hl.1 (by omega)
    unfold satStep
    split
    · rename_i hf
      have hmono : ∀ i : Int, 0 ≤ i → l.getD i.toNat tInt.dflt ≤ (l.set e.lab.toNat (if dg D e.src - dg D e.dst > cst l e then dg D e.src - dg D e.dst else cst l e)).getD i.toNat tInt.dflt := by
        intro i hi
        rw [hg i _ hi]
        split
        · rename_i ei; subst ei; show cst l e ≤ _; split <;> omega
        · exact Int.le_refl _
      refine ⟨by rw [List.length_set]; exact h1, fun i hi => ?_, fun e' he' a b => ?_, fun i hi => ?_⟩
      · have := hmono i (by omega); rw [Int.toNat_natCast] at this; have := h2 i hi; omega
      · rcases List.mem_append.1 he' with he' | he'
        · have hl' := hlab e' (List.mem_of_mem_take he')
          exact Int.le_trans (h3 e' he' a b) (hmono e'.lab hl'.1)
        · rw [List.mem_singleton.1 he']
          show _ ≤ (l.set e.lab.toNat _).getD e.lab.toNat tInt.dflt
          rw [hg _ _ hl.1, if_pos rfl]; split <;> omega
      · have hgi := hg i (if dg D e.src - dg D e.dst > cst l e then dg D e.src - dg D e.dst else cst l e) (by omega)
        rw [Int.toNat_natCast] at hgi
        rw [hgi]
        split
        · rename_i ei
          split
          · exact .inr ⟨e, by simp, ei.symm, hf.1, hf.2, rfl⟩
          · have e1 : cst l e = l.getD i tInt.dflt := by show l.getD e.lab.toNat tInt.dflt = _; rw [← ei]; rfl
            rw [e1]
            rcases h4 i hi with h | ⟨e', a, b⟩
            · exact .inl h
            · exact .inr ⟨e', List.mem_append_left _ a, b⟩
        · rcases h4 i hi with h | ⟨e', a, b⟩
          · exact .inl h
          · exact .inr ⟨e', List.mem_append_left _ a, b⟩
    · rename_i hf
      refine ⟨h1, h2, fun e' he' a b => ?_, fun i hi => ?_⟩
      · rcases List.mem_append.1 he' with he' | he'
        · exact h3 e' he' a b
        · rw [List.mem_singleton.1 he'] at a b; exact absurd ⟨a, b⟩ hf
      · rcases h4 i hi with h | ⟨e', a, b⟩
        · exact .inl h
        · exact .inr ⟨e', List.mem_append_left _ a, b⟩
theorem satL_ok {m : Nat} (hlab : ∀ e ∈ E, 0 ≤ e.lab ∧ e.lab < m) : SatOk E D m (satL E D m) := by
  have := satK_ok (D := D) hlab E.length (Nat.le_refl _)
  rwa [List.take_length] at this
/-- Where a step changes nothing bad: the parts of an update in bounds. -/
theorem SatOk.le {l : List Int} (hE : EOk E c n) (hd : DistOk E c G n D) (hs : SatOk E D c.length l) {i : Nat} (hi : i < c.length) : 0 ≤ l.getD i tInt.dflt ∧ l.getD i tInt.dflt ≤ c.getD i tInt.dflt := by
  refine ⟨hs.nn i hi, ?_⟩
  rcases hs.att i hi with h | ⟨e, he, hl, h1, h2, h3⟩
  · rw [h]; exact (hE.cost _ (mem_getD _ hi)).1
  · rw [h3]
    have := hd.stab hE he h2
    have e1 : cst c e = c.getD i tInt.dflt := by show c.getD e.lab.toNat tInt.dflt = _; rw [hl]; rfl
    omega
theorem SatOk.eok {l : List Int} (hE : EOk E c n) (hd : DistOk E c G n D) (hs : SatOk E D c.length l) : EOk E l n := by
  refine ⟨hE.src, hE.dst, fun e he => by have := hE.lab e he; rw [hs.len]; exact this, fun x hx => ?_⟩
  obtain ⟨i, hi, rfl⟩ := List.getElem_of_mem hx
  rw [hs.len] at hi
  have h1 := hs.le hE hd hi
  have h2 := (hE.cost _ (mem_getD tInt.dflt hi)).2
  rw [← getD_at (d := tInt.dflt) (by rw [hs.len]; exact hi)]
  omega
theorem SatOk.keep {l : List Int} (hE : EOk E c n) (h0 : 0 ≤ C) (hC : ∀ x ∈ c, x ≤ C) (hB : n * C < inf) (hd : DistOk E c G n D) (hs : SatOk E D c.length l) (hd' : DistOk E l G n D') {i : Nat} (hi : i < n) :
    (dg D i < inf ↔ dg D' i < inf) ∧ (dg D i < inf → dg D' i = dg D i) := by
  have hle : ∀ e ∈ E, cst l e ≤ cst c e := fun e he => by
    have := hE.lab e he
    exact (hs.le hE hd (i := e.lab.toNat) (by omega)).2
  have h1 := hd.other hd' hle hi
  have key : ∀ {x k : Int}, Walk E l G x k → 0 ≤ x → x < n → dg D x < inf ∧ dg D x ≤ k := by
    intro x k hw
    induction hw with
    | @goal a hg =>
      intro a0 a1
      have := hd.goal (i := a.toNat) (by omega) (by rw [Int.toNat_of_nonneg a0]; exact hg)
      rw [Int.toNat_of_nonneg a0] at this
      rw [this]; exact ⟨by decide, Int.le_refl _⟩
    | @step e k he _ ih =>
      intro a0 a1
      have hdst := hE.dst e he
      obtain ⟨b1, b2⟩ := ih hdst.1 hdst.2
      have hsf : dg D e.src < inf := by
        have hw2 := hd.att e.dst.toNat (by omega) (by rw [Int.toNat_of_nonneg hdst.1]; exact b1)
        rw [Int.toNat_of_nonneg hdst.1] at hw2
        have := (hd.fin hE h0 hC hB (i := e.src.toNat) (by omega)).2 ⟨_, by rw [Int.toNat_of_nonneg a0]; exact .step he hw2⟩
        rwa [Int.toNat_of_nonneg a0] at this
      exact ⟨hsf, by have := hs.low e he hsf b1; omega⟩
  refine ⟨⟨fun h => by omega, fun h => (key (hd'.att i hi h) (by omega) (by omega)).1⟩, fun h => ?_⟩
  have := (key (hd'.att i hi (by omega)) (by omega) (by omega)).2
  omega
end

/-! ### Wider patterns -/
/-- A proper state's goal has the value 0. -/
theorem dist_goal {t : TTask} {L c D : List Int} (hL : InV t.vars L) (h : DistOk (pEdges t L) c (GoalPK t L) (cntL t.vars L).toNat D) {s : List Int} (hs : StateOk t.vars s) (hh : HoldFs s t.goal) : dg D (idxL t.vars L s) = 0 := by
  have hb := idxL_bound hs hL.mem
  have := h.goal (i := (idxL t.vars L s).toNat) (by omega) (by rw [Int.toNat_of_nonneg hb.1]; exact goal_proj hL hs hh)
  rwa [Int.toNat_of_nonneg hb.1] at this
theorem dist_at {t : TTask} {L c D : List Int} (hL : InV t.vars L) (h : DistOk (pEdges t L) c (GoalPK t L) (cntL t.vars L).toNat D) {s : List Int} (hs : StateOk t.vars s) : 0 ≤ dg D (idxL t.vars L s) ∧ dg D (idxL t.vars L s) ≤ inf := by
  have hb := idxL_bound hs hL.mem
  have := h.rng (idxL t.vars L s).toNat (by omega)
  rwa [Int.toNat_of_nonneg hb.1] at this
end Go.Proofs.YtemnlcnjpjdoaaaGreatDoor

/-
  Contracts of the pattern databases: 'Build', 'Table', 'Pattern', 'Value', 'Dead', 'Saturated'.
-/
namespace Go.Proofs.YtemnlcnjpjdoaaaGreatDoor
open Go.Sl Go
attribute [local irreducible] vc opsW opsD opV opW PureV ReadV Thn Blk

/-- What a database holds. -/
structure DbI where
  vars : List Int
  pat : List Int
  sys : SysV
  tab : List Int
def dbC (X : DbI) (vv pv cv ev gv tv : Value) : List Value := [vv, pv, .int .i64 X.sys.st, .int .i64 X.sys.ini, cv, ev, gv, tv]
def dbL (p : Addr) (X : DbI) (vv pv cv ev gv tv : Value) : List HP := [Box p 107 (dbC X vv pv cv ev gv tv), OS tInt 3 vv X.vars, OS tInt 3 pv X.pat, OS tInt 3 cv X.sys.costs, OS tEdg 122 ev X.sys.edges, OS tBool 4 gv X.sys.goals, OS tInt 3 tv X.tab]
@[irreducible] def DbO (p : Addr) (X : DbI) : HP := fun h => ∃ vv pv cv ev gv tv, SatL (dbL p X vv pv cv ev gv tv) h
theorem satDbOpen {w0 w : World} {Γ : List HP} {p : Addr} {X : DbI} (hw : Sat w0 w (DbO p X :: Γ)) : ∃ vv pv cv ev gv tv, Sat w0 w (dbL p X vv pv cv ev gv tv ++ Γ) := by
  unfold DbO at hw
  obtain ⟨h1, h2, d, s1, s2, ⟨vv, pv, cv, ev, gv, tv, a⟩, g⟩ := hw.sat
  exact ⟨vv, pv, cv, ev, gv, tv, hw.below, SatL.app _ d s1 s2 a g⟩
theorem satDbShut {w0 w : World} {Γ : List HP} {p : Addr} {X : DbI} {vv pv cv ev gv tv : Value} (hw : Sat w0 w (dbL p X vv pv cv ev gv tv ++ Γ)) : Sat w0 w (DbO p X :: Γ) := by
  unfold DbO
  obtain ⟨h1, h2, d, s1, s2, a, g⟩ := SatL.split _ hw.sat
  exact ⟨hw.below, h1, h2, d, s1, s2, ⟨vv, pv, cv, ev, gv, tv, a⟩, g⟩
/-- A database is read. -/
def RDb (w : World) (p : Addr) (X : DbI) : Prop := ∃ vv pv cv ev gv tv, BoxR w p (dbC X vv pv cv ev gv tv) ∧ RS tInt w vv X.vars ∧ RS tInt w pv X.pat ∧ RS tInt w cv X.sys.costs ∧ RS tEdg w ev X.sys.edges ∧ RS tBool w gv X.sys.goals ∧ RS tInt w tv X.tab
theorem RDb.at {w0 w : World} {Γ : List HP} {p : Addr} {X : DbI} (h : RDb w0 p X) (hw : Sat w0 w Γ) : RDb w p X := by
  obtain ⟨vv, pv, cv, ev, gv, tv, h0, h1, h2, h3, h4, h5, h6⟩ := h
  exact ⟨vv, pv, cv, ev, gv, tv, h0.at hw, h1.at hw, h2.at hw, h3.at hw, h4.at hw, h5.at hw, h6.at hw⟩
theorem satRdb {w0 w : World} {Γ : List HP} {p : Addr} {X : DbI} (hw : Sat w0 w Γ) (i : Nat) (hi : Γ[i]? = some (DbO p X)) : RDb w p X := by
  obtain ⟨vv, pv, cv, ev, gv, tv, h⟩ := satDbOpen (hw.focus i hi)
  exact ⟨vv, pv, cv, ev, gv, tv, h.boxR 0 rfl, h.rs 1 rfl, h.rs 2 rfl, h.rs 3 rfl, h.rs 4 rfl, h.rs 5 rfl, h.rs 6 rfl⟩
class DbAt (Γ : List HP) (p : Addr) (X : outParam DbI) : Prop where
  ok : ∃ i : Nat, Γ[i]? = some (DbO p X)
instance (priority := high) db_here {p : Addr} {X : DbI} {Γ : List HP} : DbAt (DbO p X :: Γ) p X := ⟨0, rfl⟩
instance db_there {B : HP} {p : Addr} {X : DbI} {Γ : List HP} [h : DbAt Γ p X] : DbAt (B :: Γ) p X := by
  obtain ⟨i, hi⟩ := h.ok
  exact ⟨i + 1, by simpa using hi⟩
/-! ### What the methods return -/
structure DbOk (X : DbI) : Prop where
  pos : ∀ x ∈ X.vars, 1 ≤ x
  mem : ∀ v ∈ X.pat, 0 ≤ v ∧ v < X.vars.length
  cnt : cntL X.vars X.pat ≤ 4096
  tab : X.tab.length = (cntL X.vars X.pat).toNat
  lab : ∀ e ∈ X.sys.edges, 0 ≤ e.lab ∧ e.lab < X.sys.costs.length
  src : ∀ e ∈ X.sys.edges, 0 ≤ e.src ∧ e.src < X.tab.length
  dst : ∀ e ∈ X.sys.edges, 0 ≤ e.dst ∧ e.dst < X.tab.length
  rng : ∀ i : Nat, i < X.tab.length → 0 ≤ dg X.tab i ∧ dg X.tab i ≤ inf
  vlen : X.vars.length ≤ 64
  clen : X.sys.costs.length ≤ 4096
  elen : X.sys.edges.length ≤ 65536
open Classical in
noncomputable def valD (X : DbI) (s : List Int) : Int := if StateOk X.vars s then dg X.tab (idxL X.vars X.pat s) else 1125899906842624
theorem valD_ok {X : DbI} {s : List Int} (h : StateOk X.vars s) : valD X s = dg X.tab (idxL X.vars X.pat s) := if_pos h
theorem valD_no {X : DbI} {s : List Int} (h : ¬ StateOk X.vars s) : valD X s = 1125899906842624 := if_neg h

set_option maxRecDepth 8000 in
set_option maxHeartbeats 2000000 in
theorem Value_spec {w0 : World} {p : Addr} {X : DbI} {sv : Value} {s : List Int} (hd : RDb w0 p X) (ho : DbOk X) (hs : RS tInt w0 sv s) :
    Calls Tryz.prog 26 #[.pointer (some p), sv] w0 fun e w' => e = .returned (.int .i64 (valD X s)) ∧ Sat w0 w' [] := by
  obtain ⟨vv, pv, cv, ev, gv, tv, h0, h1, h2, h3, h4, h5, h6⟩ := hd
  have hlp := h2.big
  have htl := ho.tab
  have hcl := ho.cnt
  have hw := Sat.start w0
  refine calls_of_vc (args := [.pointer (some p), sv]) mixed Tryz.func26 rfl (by kernel_rfl) (Nat.le_of_ble_eq_true rfl) ?_
  repeat (first | refine go_run ?_ | (refine go_newP ?_; clear hw; intro p w hw) | (refine go_newW ?_; clear hw; intro w hw) | (refine go_newS ?_; clear hw; intro s w hw))
  refine st_call rfl (tProper_spec h1 (hs.at hw)) ?_
  rintro _ w' ⟨⟨r, rfl, hr⟩, hk'⟩
  replace hw := hw.call0 hk'
  clear hk'
  refine ⟨_, rfl, ?_⟩
  cases r
  · rw [valD_no (fun h => by have := hr.2 h; cases this)]
    repeat (first | refine go_run ?_ | (refine go_newP ?_; clear hw; intro p w hw) | (refine go_newW ?_; clear hw; intro w hw) | (refine go_newS ?_; clear hw; intro s w hw))
    exact res_one (v := .int .i64 1125899906842624) rfl rfl ⟨rfl, hw⟩
  have hok := hr.1 rfl
  have hls := hok.1
  rw [valD_ok hok]
  repeat (first | refine go_run ?_ | (refine go_newP ?_; clear hw; intro p w hw) | (refine go_newW ?_; clear hw; intro w hw) | (refine go_newS ?_; clear hw; intro s w hw))
  refine vc_loop2 [5, 7, 22, 23, 24, 25, 26, 27, 28, 29, 30, 31, 32, 33, 34, 35, 36, 37, 38, 39, 40] (G := Nat) (H := Int) (fun k n => [(22, .int .i64 k), (5, .int .i64 n)]) (fun k n w => k ≤ X.pat.length ∧ n = idxL X.vars (X.pat.take k) s ∧ Sat w0 w []) (fun k _ => X.pat.length - k) 0 0 (fun _ _ => rfl) ⟨rfl, rfl, trivial⟩ ⟨Nat.zero_le _, rfl, hw⟩ ?_
  clear hw
  rintro σ k n w ⟨hk, hn, hw⟩
  repeat (first | refine go_run ?_ | (refine go_newP ?_; clear hw; intro p w hw) | (refine go_newW ?_; clear hw; intro w hw) | (refine go_newS ?_; clear hw; intro s w hw))
  refine go_if (fun h7 => ?_) (fun h7 => ?_)
  · have hkl : k < X.pat.length := by omega
    have hv := ho.mem _ (mem_getD tInt.dflt hkl)
    have hr := hok.rng hv.1 hv.2
    have hb1 := idxL_bound (p := X.pat.take k) hok fun v hv => ho.mem v (List.mem_of_mem_take hv)
    have hb2 := idxL_bound (p := X.pat.take (k + 1)) hok fun v hv => ho.mem v (List.mem_of_mem_take hv)
    have hle := cntL_take ho.pos ho.mem (k + 1)
    have hS := idxL_takeS (vars := X.vars) (s := s) hkl
    rw [← hn] at hb1 hS
    simp only [sg] at hS hr
    have b0 : 0 ≤ n * X.vars.getD (X.pat.getD k tInt.dflt).toNat tInt.dflt := Int.mul_nonneg (by omega) (by omega)
    repeat (first | refine go_run ?_ | (refine go_newP ?_; clear hw; intro p w hw) | (refine go_newW ?_; clear hw; intro w hw) | (refine go_newS ?_; clear hw; intro s w hw))
    exact ⟨k + 1, _, ⟨rfl, rfl, trivial⟩, by repeat (first | exact agree_refl | (apply agree_upd rfl) | (apply agree_mix rfl) | (apply agree_sets rfl)), ⟨by omega, hS.symm, hw⟩, by omega⟩
  · rw [List.take_of_length_le (by omega)] at hn
    have hb := idxL_bound hok ho.mem
    subst hn
    repeat (first | refine go_run ?_ | (refine go_newP ?_; clear hw; intro p w hw) | (refine go_newW ?_; clear hw; intro w hw) | (refine go_newS ?_; clear hw; intro s w hw))
    exact res_one (v := .int .i64 (dg X.tab (idxL X.vars X.pat s))) rfl rfl ⟨rfl, hw⟩
end Go.Proofs.YtemnlcnjpjdoaaaGreatDoor

/-
  Contract of 'pdb.Build'.
-/
namespace Go.Proofs.YtemnlcnjpjdoaaaGreatDoor
open Go.Sl Go
attribute [local irreducible] vc opsW opsD opV opW PureV ReadV Thn Blk
def BadC (x : Int) : Prop := x < 0 ∨ 1048576 < x
instance (x : Int) : Decidable (BadC x) := inferInstanceAs (Decidable (_ ∨ _))

set_option maxRecDepth 8000 in
theorem bad1_spec {w0 : World} {x : Int} :
    Calls Tryz.prog 52 #[.int .i64 x] w0 fun e w' => e = .returned (.bool (decide (BadC x))) ∧ Sat w0 w' [] := by
  have hw := Sat.start w0
  refine calls_of_vc (args := [.int .i64 x]) mixed Tryz.func52 rfl (by kernel_rfl) (Nat.le_of_ble_eq_true rfl) ?_
  repeat (first | refine go_run ?_ | (refine go_newP ?_; clear hw; intro p w hw) | (refine go_newW ?_; clear hw; intro w hw) | (refine go_newS ?_; clear hw; intro s w hw))
  refine res_one (v := .bool (decide (x < 0) || decide (1048576 < x))) rfl rfl ⟨?_, hw⟩
  rw [← Bool.decide_or]
  rfl
set_option maxRecDepth 8000 in
theorem badIdx_spec {w0 : World} {a : Value} {xs : List Int} (ha : RS tInt w0 a xs) :
    Calls Tryz.prog 69 #[a, .func (.func 52) #[] #[]] w0 fun e w' => (∃ r : Int, e = .returned (.int .i64 r) ∧ (0 ≤ r ↔ ∃ x ∈ xs, BadC x)) ∧ Sat w0 w' [] := by
  have hla := ha.big
  have hw := Sat.start w0
  refine calls_of_vc (args := [a, .func (.func 52) #[] #[]]) mixed Tryz.func69 rfl (by kernel_rfl) (Nat.le_of_ble_eq_true rfl) ?_
  repeat (first | refine go_run ?_ | (refine go_newP ?_; clear hw; intro p w hw) | (refine go_newW ?_; clear hw; intro w hw) | (refine go_newS ?_; clear hw; intro s w hw))
  refine vc_loop [4, 5, 8, 9, 10, 11, 12, 13, 14, 15, 16, 17, 18] (G := Nat) (fun k => [(8, .int .i64 k)]) (fun k w => k ≤ xs.length ∧ (∀ i, i < k → ¬ BadC (xs.getD i tInt.dflt)) ∧ Sat w0 w []) (fun k => xs.length - k) 0 (fun _ => rfl) ⟨rfl, trivial⟩ ⟨Nat.zero_le _, fun i hi => absurd hi (Nat.not_lt_zero _), hw⟩ ?_
  clear hw
  rintro σ k w ⟨hk, hpre, hw⟩
  repeat (first | refine go_run ?_ | (refine go_newP ?_; clear hw; intro p w hw) | (refine go_newW ?_; clear hw; intro w hw) | (refine go_newS ?_; clear hw; intro s w hw))
  refine go_if (fun h1 => ?_) (fun h1 => ?_)
  · have hkl : k < xs.length := by omega
    repeat (first | refine go_run ?_ | (refine go_newP ?_; clear hw; intro p w hw) | (refine go_newW ?_; clear hw; intro w hw) | (refine go_newS ?_; clear hw; intro s w hw))
    refine st_callF (cs := []) rfl rfl (bad1_spec (x := xs.getD k tInt.dflt)) ?_
    rintro _ w' ⟨rfl, hk'⟩
    replace hw := hw.call0 hk'
    clear hk'
    refine ⟨_, rfl, ?_⟩
    by_cases h2 : BadC (xs.getD k tInt.dflt)
    · rw [decide_eq_true h2]
      repeat (first | refine go_run ?_ | (refine go_newP ?_; clear hw; intro p w hw) | (refine go_newW ?_; clear hw; intro w hw) | (refine go_newS ?_; clear hw; intro s w hw))
      refine res_one (v := .int .i64 k) rfl rfl ⟨⟨k, rfl, ⟨fun _ => ⟨_, mem_getD tInt.dflt hkl, h2⟩, fun _ => by omega⟩⟩, hw⟩
    · rw [decide_eq_false h2]
      repeat (first | refine go_run ?_ | (refine go_newP ?_; clear hw; intro p w hw) | (refine go_newW ?_; clear hw; intro w hw) | (refine go_newS ?_; clear hw; intro s w hw))
      refine ⟨k + 1, ⟨rfl, trivial⟩, by repeat (first | exact agree_refl | (apply agree_upd rfl) | (apply agree_mix rfl) | (apply agree_sets rfl)), ⟨by omega, fun i hi => ?_, hw⟩, by omega⟩
      by_cases h : i = k
      · subst h; exact h2
      · exact hpre i (by omega)
  · repeat (first | refine go_run ?_ | (refine go_newP ?_; clear hw; intro p w hw) | (refine go_newW ?_; clear hw; intro w hw) | (refine go_newS ?_; clear hw; intro s w hw))
    refine res_one (v := .int .i64 (-1)) rfl rfl ⟨⟨-1, rfl, ⟨fun h => by omega, ?_⟩⟩, hw⟩
    rintro ⟨x, hx, he⟩
    obtain ⟨i, hi, rfl⟩ := List.mem_iff_getElem.1 hx
    exact absurd (by rw [getD_at hi]; exact he) (hpre i (by omega))
set_option maxRecDepth 8000 in
theorem badC_spec {w0 : World} {a : Value} {xs : List Int} (ha : RS tInt w0 a xs) :
    Calls Tryz.prog 51 #[a, .func (.func 52) #[] #[]] w0 fun e w' => (∃ r, e = .returned (.bool r) ∧ (r = true ↔ ∃ x ∈ xs, BadC x)) ∧ Sat w0 w' [] := by
  have hw := Sat.start w0
  refine calls_of_vc (args := [a, .func (.func 52) #[] #[]]) mixed Tryz.func51 rfl (by kernel_rfl) (Nat.le_of_ble_eq_true rfl) ?_
  repeat (first | refine go_run ?_ | (refine go_newP ?_; clear hw; intro p w hw) | (refine go_newW ?_; clear hw; intro w hw) | (refine go_newS ?_; clear hw; intro s w hw))
  refine st_call rfl (badIdx_spec ha) ?_
  rintro _ w' ⟨⟨r, rfl, hr⟩, hk'⟩
  replace hw := hw.call0 hk'
  clear hk'
  refine ⟨_, rfl, ?_⟩
  repeat (first | refine go_run ?_ | (refine go_newP ?_; clear hw; intro p w hw) | (refine go_newW ?_; clear hw; intro w hw) | (refine go_newS ?_; clear hw; intro s w hw))
  exact res_one (v := .bool (decide (0 ≤ r))) rfl rfl ⟨⟨_, rfl, by rw [decide_eq_true_eq]; exact hr⟩, hw⟩

/-! ### Build -/
open Classical in
noncomputable def bErr (t : TTask) (L cs : List Int) : Int := if checkT t ≠ 0 then checkT t else if 0 < cs.length ∧ cs.length ≠ t.ops.length then 11 else if ∃ x ∈ cs, BadC x then 1 else pErr t L
/-- The costs that are used. -/
def csU (t : TTask) (cs : List Int) : List Int := if cs.length = 0 then costsT t else cs
noncomputable def dbI (t : TTask) (L D : List Int) : DbI := ⟨t.vars, L, sysOk t L, D⟩
theorem pErr_zero {t : TTask} {L : List Int} (h : pErr t L = 0) : GoodT t ∧ InV t.vars L ∧ cntL t.vars L ≤ 4096 ∧ (pEdges t L).length ≤ 65536 := by
  by_cases hk : chkP t L = 0
  · rw [pErr_ok hk] at h
    obtain ⟨hg, hp⟩ := chkP_zero.1 hk
    unfold pErr0 at h
    split at h
    · cases h
    · split at h
      · cases h
      · split at h
        · cases h
        · exact ⟨hg, hp.inV, by omega, by omega⟩
  · unfold pErr at h
    rw [if_pos hk] at h
    exact absurd h hk
theorem costs_ok {t : TTask} (hg : GoodT t) : ∀ x ∈ costsT t, 0 ≤ x ∧ x ≤ 1048576 := by
  intro x hx
  obtain ⟨o, ho, rfl⟩ := List.mem_map.1 hx
  obtain ⟨i, hi, rfl⟩ := List.getElem_of_mem ho
  have := hg.op i hi
  rw [getD_at hi] at this
  have h1 := this.cost0
  have h2 := this.cost1
  omega
theorem csU_ok {t : TTask} {cs : List Int} (hg : GoodT t) (h1 : ¬ (0 < cs.length ∧ cs.length ≠ t.ops.length)) (h2 : ¬ ∃ x ∈ cs, BadC x) : (csU t cs).length = t.ops.length ∧ ∀ x ∈ csU t cs, 0 ≤ x ∧ x ≤ 1048576 := by
  unfold csU
  split
  · exact ⟨by simp [costsT], costs_ok hg⟩
  · refine ⟨by omega, fun x hx => ?_⟩
    have : ¬ BadC x := fun hb => h2 ⟨x, hx, hb⟩
    unfold BadC at this
    omega
theorem eok_U {t : TTask} {L cs : List Int} (h : cs.length = t.ops.length ∧ ∀ x ∈ cs, 0 ≤ x ∧ x ≤ 1048576) : EOk (pEdges t L) cs (cntL t.vars L).toNat :=
  eok_P ⟨h.1, fun x hx => by have := h.2 x hx; omega⟩
theorem dbI_ok {t : TTask} {L cs D : List Int} (hp : pErr t L = 0) (hD : DistOk (pEdges t L) cs (GoalPK t L) (cntL t.vars L).toNat D) : DbOk (dbI t L D) := by
  obtain ⟨hg, hL, hB, hE⟩ := pErr_zero hp
  have hdl := hD.len
  have hol := hg.ops
  have hvl := hg.vars
  have key : ∀ e ∈ pEdges t L, (0 ≤ e.src ∧ e.src < (cntL t.vars L).toNat) ∧ (0 ≤ e.dst ∧ e.dst < (cntL t.vars L).toNat) ∧ 0 ≤ e.lab ∧ e.lab < t.ops.length := by
    intro e he
    obtain ⟨x, op, y, hx, hop, hy, hT, rfl⟩ := mem_pEdges.1 he
    exact ⟨⟨by simp only; omega, by simp only; omega⟩, ⟨by simp only; omega, by simp only; omega⟩, by simp only; omega, by simp only; omega⟩
  refine ⟨hg.pos, hL.mem, hB, hdl, fun e he => ?_, fun e he => ?_, fun e he => ?_, fun i hi => hD.rng i (by rw [← hdl]; exact hi), hvl, ?_, hE⟩
  · have := (key e he).2.2
    simp only [dbI, sysOk, costsT, List.length_map]
    omega
  · have := (key e he).1
    show 0 ≤ e.src ∧ e.src < D.length
    omega
  · have := (key e he).2.1
    show 0 ≤ e.dst ∧ e.dst < D.length
    omega
  · simp only [dbI, sysOk, costsT, List.length_map]; omega

set_option maxRecDepth 8000 in
set_option maxHeartbeats 4000000 in
theorem Build_spec {w0 : World} {a b c d vp kv : Value} {vs : List OpV} {t : TTask} {L cs : List Int} (ht : RTask w0 a b c d vs t) (hp : RS tInt w0 vp L) (hk : RS tInt w0 kv cs) :
    Calls Tryz.prog 25 #[.agg #[a, b, c, d], vp, kv] w0 fun e w' =>
      (bErr t L cs ≠ 0 ∧ e = .returned (.tuple #[.pointer none, errV (bErr t L cs)]) ∧ Sat w0 w' []) ∨
      (bErr t L cs = 0 ∧ pErr t L = 0 ∧ (csU t cs).length = t.ops.length ∧ (∀ x ∈ csU t cs, 0 ≤ x ∧ x ≤ 1048576) ∧ ∃ p D, e = .returned (.tuple #[.pointer (some p), .nilIface]) ∧ DistOk (pEdges t L) (csU t cs) (GoalPK t L) (cntL t.vars L).toNat D ∧ Sat w0 w' [DbO p (dbI t L D)]) := by
  have ht' := ht
  obtain ⟨ha, hb, hc, hd⟩ := ht
  have hrs := hd.rs
  have hdl := hd.len
  have hlk := hk.big
  have hw := Sat.start w0
  refine calls_of_vc (args := [.agg #[a, b, c, d], vp, kv]) mixed Tryz.func25 rfl (by kernel_rfl) (Nat.le_of_ble_eq_true rfl) ?_
  repeat (first | refine go_run ?_ | (refine go_newP ?_; clear hw; intro p w hw) | (refine go_newW ?_; clear hw; intro w hw) | (refine go_newS ?_; clear hw; intro s w hw))
  obtain ⟨pt, hpt⟩ : ∃ pt, pt = p := ⟨p, rfl⟩
  subst hpt
  refine st_call rfl (Check_spec (ht'.at hw)) ?_
  rintro _ w' ⟨rfl, hk'⟩
  replace hw := hw.call0 hk'
  clear hk'
  refine ⟨_, rfl, ?_⟩
  by_cases h1 : checkT t = 0
  rotate_left
  · have hbe : bErr t L cs = checkT t := if_pos h1
    rw [errV_some h1]
    repeat (first | refine go_run ?_ | (refine go_newP ?_; clear hw; intro p w hw) | (refine go_newW ?_; clear hw; intro w hw) | (refine go_newS ?_; clear hw; intro s w hw))
    exact res_two (v := .pointer none) (v' := .iface 85 (.int .i64 (checkT t))) rfl rfl rfl (.inl ⟨by rw [hbe]; exact h1, by rw [hbe, errV_some h1], hw.sel⟩)
  rw [errV_zero h1]
  have hg := (good_iff t).1 h1
  repeat (first | refine go_run ?_ | (refine go_newP ?_; clear hw; intro p w hw) | (refine go_newW ?_; clear hw; intro w hw) | (refine go_newS ?_; clear hw; intro s w hw))
  refine go_if (fun h2 => ?_) (fun h2 => ?_)
  · have hbe : bErr t L cs = 11 := by
      unfold bErr
      rw [if_neg (by simp [h1]), if_pos ⟨by omega, by omega⟩]
    repeat (first | refine go_run ?_ | (refine go_newP ?_; clear hw; intro p w hw) | (refine go_newW ?_; clear hw; intro w hw) | (refine go_newS ?_; clear hw; intro s w hw))
    exact res_two (v := .pointer none) (v' := .iface 85 (.int .i64 11)) rfl rfl rfl (.inl ⟨by rw [hbe]; decide, by rw [hbe, errV_some (by decide)], hw.sel⟩)
  have h2' : ¬ (0 < cs.length ∧ cs.length ≠ t.ops.length) := by omega
  repeat (first | refine go_run ?_ | (refine go_newP ?_; clear hw; intro p w hw) | (refine go_newW ?_; clear hw; intro w hw) | (refine go_newS ?_; clear hw; intro s w hw))
  refine st_call rfl (badC_spec (hk.at hw)) ?_
  rintro _ w' ⟨⟨r, rfl, hr⟩, hk'⟩
  replace hw := hw.call0 hk'
  clear hk'
  refine ⟨_, rfl, ?_⟩
  cases r
  rotate_left
  · have hbe : bErr t L cs = 1 := by
      unfold bErr
      rw [if_neg (by simp [h1]), if_neg h2', if_pos (hr.1 rfl)]
    repeat (first | refine go_run ?_ | (refine go_newP ?_; clear hw; intro p w hw) | (refine go_newW ?_; clear hw; intro w hw) | (refine go_newS ?_; clear hw; intro s w hw))
    exact res_two (v := .pointer none) (v' := .iface 85 (.int .i64 1)) rfl rfl rfl (.inl ⟨by rw [hbe]; decide, by rw [hbe, errV_some (by decide)], hw.sel⟩)
  have h3 : ¬ ∃ x ∈ cs, BadC x := fun h => by have := hr.2 h; cases this
  have hbe : bErr t L cs = pErr t L := by
    unfold bErr
    rw [if_neg (by simp [h1]), if_neg h2', if_neg h3]
  obtain ⟨hu1, hu2⟩ := csU_ok hg h2' h3
  repeat (first | refine go_run ?_ | (refine go_newP ?_; clear hw; intro p w hw) | (refine go_newW ?_; clear hw; intro w hw) | (refine go_newS ?_; clear hw; intro s w hw))
  refine st_call rfl (Project_spec (ht'.at hw) (hp.at hw)) ?_
  rintro _ w' ⟨cv, ev, gv, rfl, hk'⟩
  by_cases h4 : pErr t L = 0
  rotate_left
  · have hs : sysE t L (pErr t L) = sysNo := if_neg h4
    rw [hs] at hk'
    rw [hs, errV_some h4]
    have hw2 := hw.call hk'
    clear hw
    have hw := hw2
    clear hw2
    refine ⟨_, rfl, ?_⟩
    have o1 := (hw.rs 0 rfl).one
    have o2 := (hw.rs 1 rfl).one
    have o3 := (hw.rs 2 rfl).one
    repeat (first | refine go_run ?_ | (refine go_newP ?_; clear hw; intro p w hw) | (refine go_newWs ?_; clear hw; intro w hw) | (refine go_newS ?_; clear hw; intro s w hw))
    refine st_boxAgg (n := 5) (p := p) (vs := [.int .i64 0, .int .i64 0, cv, ev, gv]) rfl rfl hw inferInstance rfl rfl (by simp only [List.all_cons, List.all_nil, o1, o2, o3]; rfl) ?_
    clear hw
    intro w hw
    repeat (first | refine go_run ?_ | (refine go_newP ?_; clear hw; intro p w hw) | (refine go_newW ?_; clear hw; intro w hw) | (refine go_newS ?_; clear hw; intro s w hw))
    exact res_two (v := .pointer none) (v' := .iface 85 (.int .i64 (pErr t L))) rfl rfl rfl (.inl ⟨by rw [hbe]; exact h4, by rw [hbe, errV_some h4], hw.sel⟩)
  obtain ⟨_, hL, hB, hEl⟩ := pErr_zero h4
  rw [h4, sysE_ok] at hk'
  rw [h4, errV_zero rfl, sysE_ok, sysV_ok]
  have hw2 := hw.call hk'
  clear hk' hw
  have hw := hw2
  clear hw2
  refine ⟨_, rfl, ?_⟩
  have o1 := (hw.rs 0 rfl).one
  have o2 := (hw.rs 1 rfl).one
  have o3 := (hw.rs 2 rfl).one
  repeat (first | refine go_run ?_ | (refine go_newP ?_; clear hw; intro p w hw) | (refine go_newWs ?_; clear hw; intro w hw) | (refine go_newS ?_; clear hw; intro s w hw))
  refine st_boxAgg (n := 5) (p := p) (vs := [.int .i64 (cntL t.vars L), .int .i64 (idxL t.vars L t.init), cv, ev, gv]) rfl rfl hw inferInstance rfl rfl (by simp only [List.all_cons, List.all_nil, o1, o2, o3]; rfl) ?_
  clear hw
  intro w hw
  obtain ⟨px, hpx⟩ : ∃ px, px = p := ⟨p, rfl⟩
  subst hpx
  have hN1 := cntL_pos hg.pos hL.mem
  have hgl := goalsK_len t L (cntL t.vars L).toNat
  have hcl : (costsT t).length = t.ops.length := by simp [costsT]
  repeat (first | refine go_run ?_ | (refine go_newP ?_; clear hw; intro p w hw) | (refine go_newW ?_; clear hw; intro w hw) | (refine go_newS ?_; clear hw; intro s w hw))
  refine vc_cut [2, 43, 44] (G := Value) (fun g => [(2, g)]) (fun g w => (∀ w', Sat w0 w' [Box px 96 [.int .i64 (cntL t.vars L), .int .i64 (idxL t.vars L t.init), cv, ev, gv], OS tInt 3 cv (costsT t), OS tEdg 122 ev (pEdges t L), OS tBool 4 gv (goalsK t L (cntL t.vars L).toNat), Box pt 26 [a, b, c, d]] → RS tInt w' g (csU t cs)) ∧ Sat w0 w [Box px 96 [.int .i64 (cntL t.vars L), .int .i64 (idxL t.vars L t.init), cv, ev, gv], OS tInt 3 cv (costsT t), OS tEdg 122 ev (pEdges t L), OS tBool 4 gv (goalsK t L (cntL t.vars L).toNat), Box pt 26 [a, b, c, d]]) (fun _ => rfl) ?_ ?_
  · refine go_if (fun h5 => ?_) (fun h5 => ?_)
    · have hz : csU t cs = costsT t := if_pos (by omega)
      repeat (first | refine go_run ?_ | (refine go_newP ?_; clear hw; intro p w hw) | (refine go_newW ?_; clear hw; intro w hw) | (refine go_newS ?_; clear hw; intro s w hw))
      exact ⟨cv, ⟨rfl, trivial⟩, by repeat (first | exact agree_refl | (apply agree_upd rfl) | (apply agree_mix rfl) | (apply agree_sets rfl)), fun w' hw' => by rw [hz]; exact hw'.rs 1 rfl, hw⟩
    · have hz : csU t cs = cs := if_neg (by omega)
      repeat (first | refine go_run ?_ | (refine go_newP ?_; clear hw; intro p w hw) | (refine go_newW ?_; clear hw; intro w hw) | (refine go_newS ?_; clear hw; intro s w hw))
      exact ⟨kv, ⟨rfl, trivial⟩, by repeat (first | exact agree_refl | (apply agree_upd rfl) | (apply agree_mix rfl) | (apply agree_sets rfl)), fun w' hw' => by rw [hz]; exact hk.at hw', hw⟩
  clear hw
  rintro σ g w ⟨hgk, hw⟩
  have hvb : t.vars.length ≤ 1099511627776 := by have := hg.vars; omega
  have hlb : L.length ≤ 1099511627776 := by
    have := hL.len
    have := hg.vars
    omega
  have hEok := eok_U (L := L) ⟨hu1, hu2⟩
  repeat (first | refine go_run ?_ | (refine go_newP ?_; clear hw; intro p w hw) | (refine go_newWr ?_; clear hw; intro w hw) | (refine go_newS ?_; clear hw; intro s w hw))
  refine vc_plan [.op 0, .op 1, .op 3, .op 5, .op 6, .op 7, .op 2, .chk 5, .chk 6, .op 4, .chk 5, .chk 6, .op 8, .chk 5, .op 9, .op 10, .op 11, .op 12] hw (by kernel_rfl) ?_; clear hw; intro w hw
  repeat (first | refine go_run ?_ | (refine go_newP ?_; clear hw; intro p w hw) | (refine go_newWr ?_; clear hw; intro w hw) | (refine go_newS ?_; clear hw; intro s w hw))
  refine st_call rfl (Clone_spec (ha.at hw) hvb) ?_
  rintro _ w' ⟨v1, rfl, hk'⟩
  replace hw := hw.call1 hk'
  clear hk'
  refine ⟨_, rfl, ?_⟩
  repeat (first | refine go_run ?_ | (refine go_newP ?_; clear hw; intro p w hw) | (refine go_newWr ?_; clear hw; intro w hw) | (refine go_newS ?_; clear hw; intro s w hw))
  refine st_call rfl (Clone_spec (hp.at hw) hlb) ?_
  rintro _ w' ⟨v2, rfl, hk'⟩
  replace hw := hw.call1 hk'
  clear hk'
  refine ⟨_, rfl, ?_⟩
  repeat (first | refine go_run ?_ | (refine go_newP ?_; clear hw; intro p w hw) | (refine go_newWr ?_; clear hw; intro w hw) | (refine go_newS ?_; clear hw; intro s w hw))
  refine st_call rfl (pdistances_spec (kv := g) (S := sysOk t L) (cv := cv) (ev := ev) (gv := gv) ⟨rsO hw, rsO hw, rsO hw⟩ (hgk _ hw.sel) (by show 0 ≤ cntL t.vars L; omega) (by show cntL t.vars L ≤ _; omega) (by show ((goalsK t L _).length : Int) = cntL t.vars L; omega) hEl hEok) ?_
  rintro _ w' ⟨v3, D, rfl, hD, hk'⟩
  replace hw := hw.call1 hk'
  clear hk'
  refine ⟨_, rfl, ?_⟩
  repeat (first | refine go_run ?_ | (refine go_newP ?_; clear hw; intro p w hw) | (refine go_newWr ?_; clear hw; intro w hw) | (refine go_newS ?_; clear hw; intro s w hw))
  have c1 := (rsO (s := v1) hw).cells1
  have c2 := (rsO (s := v2) hw).cells1
  have c3 := (rsO (s := v3) hw).cells1
  refine st_buildN (parts := [(0, .tmp 47), (1, .tmp 49), (2, .tmp 50), (3, .tmp 53)]) (vs := [(0, v1), (1, v2), (2, .agg #[.int .i64 (cntL t.vars L), .int .i64 (idxL t.vars L t.init), cv, ev, gv]), (3, v3)]) (ls := [(0, [v1]), (1, [v2]), (2, [.int .i64 (cntL t.vars L), .int .i64 (idxL t.vars L t.init), cv, ev, gv]), (3, [v3])]) rfl (by simp only [List.map_cons, List.map_nil, c1, c2, c3]; rfl) rfl ?_
  refine go_run ?_
  refine st_boxAggNew (vs := dbC (dbI t L D) v1 v2 cv ev gv v3) rfl hw ?_
  clear hw
  intro p w hw
  have hw := satDbShut (p := p) (X := dbI t L D) (vv := v1) (pv := v2) (cv := cv) (ev := ev) (gv := gv) (tv := v3) (Γ := []) (show Sat w0 w [Box p 107 (dbC (dbI t L D) v1 v2 cv ev gv v3), OS tInt 3 v1 t.vars, OS tInt 3 v2 L, OS tInt 3 cv (costsT t), OS tEdg 122 ev (pEdges t L), OS tBool 4 gv (goalsK t L (cntL t.vars L).toNat), OS tInt 3 v3 D] from hw.sel)
  repeat (first | refine go_run ?_ | (refine go_newP ?_; clear hw; intro p w hw) | (refine go_newWr ?_; clear hw; intro w hw) | (refine go_newS ?_; clear hw; intro s w hw))
  exact res_two (v := .pointer (some p)) (v' := .nilIface) rfl rfl rfl (.inr ⟨by rw [hbe]; exact h4, rfl, hu1, hu2, p, D, rfl, hD, hw⟩)
end Go.Proofs.YtemnlcnjpjdoaaaGreatDoor
