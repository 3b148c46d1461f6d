
/-
  LM-cut's arcs as a list, in plain Lean; the zones as closed sets.
-/
import Derived.Test.YtkmbenhffledpaaGreatTCut4
set_option linter.unusedSimpArgs false
set_option linter.unusedVariables false
namespace Go.Proofs.YtkmbenhffledpaaGreat
open Go.Sl
structure LArc where
  src : Int
  dst : Int
  op : Int
def tLArc : Ty LArc := ⟨3, fun a => [.int .i64 a.src, .int .i64 a.dst, .int .i64 a.op], fun _ => rfl, ⟨0, 0, 0⟩⟩
instance inTCut51 : OneT tLArc := ⟨fun x v hv => by simp only [tLArc, List.mem_cons, List.not_mem_nil, or_false] at hv; rcases hv with rfl | rfl | rfl <;> rfl⟩
def arcU (V : List Int) (u : Un) : List LArc := if hiV V u.needs < inf then [⟨grtI V u.needs, u.makes, u.op⟩] else []
def arcK (t : TTask) (V : List Int) (k : Nat) : List LArc := (List.range k).flatMap fun (i : Nat) => arcU V (un (unT t) i)
theorem arcK_zero (t : TTask) (V : List Int) : arcK t V 0 = [] := by simp [arcK]
theorem arcK_succ (t : TTask) (V : List Int) (k : Nat) : arcK t V (k + 1) = arcK t V k ++ arcU V (un (unT t) k) := by simp [arcK, List.range_succ]
theorem mem_arcK {t : TTask} {V : List Int} {k : Nat} {a : LArc} : a ∈ arcK t V k ↔ ∃ i : Nat, i < k ∧ hiV V (un (unT t) i).needs < inf ∧ a = ⟨grtI V (un (unT t) i).needs, (un (unT t) i).makes, (un (unT t) i).op⟩ := by
  unfold arcK
  rw [List.mem_flatMap]
  constructor
  · rintro ⟨i, hi, ha⟩
    unfold arcU at ha
    split at ha
    · exact ⟨i, List.mem_range.1 hi, ‹_›, List.mem_singleton.1 ha⟩
    · exact absurd ha List.not_mem_nil
  · rintro ⟨i, hi, h, rfl⟩
    exact ⟨i, List.mem_range.2 hi, by unfold arcU; rw [if_pos h]; exact List.mem_singleton.2 rfl⟩
theorem arcK_len (t : TTask) (V : List Int) : ∀ k, (arcK t V k).length ≤ k
  | 0 => by simp [arcK]
  | k + 1 => by
    rw [arcK_succ, List.length_append]
    have := arcK_len t V k
    have h : (arcU V (un (unT t) k)).length ≤ 1 := by unfold arcU; split <;> simp
    omega
theorem grtI_same {V l m : List Int} (h : SameM l m) (hl : ∀ f ∈ l, 0 ≤ f) : grtI V l = grtI V m := by
  have hm : ∀ f ∈ m, 0 ≤ f := fun f hf => hl f ((h f).2 hf)
  rcases grtI_ok (V := V) hl with ⟨e, h1⟩ | ⟨h0, h1⟩
  · have := (same_nil h).1 e
    subst this
    rw [h1]; rfl
  · rcases grtI_ok (V := V) hm with ⟨e, h2⟩ | ⟨_, h2⟩
    · have := (same_nil h).2 e
      subst this
      exact absurd h1.1 List.not_mem_nil
    · exact grt_uniq ((grtF_same h).1 h1) h2
/-- All arcs under costs. -/
def arcsT (t : TTask) (V : List Int) : List LArc := arcK t V (unT t).length
section
variable {t : TTask} {z V cs : List Int} {g0 : Int}
/-- Where an arc comes from. -/
theorem arc_un (hg : GoodT t) (hV : ∀ g : Int, 0 ≤ g → g < factN t → 0 ≤ dg V g) {a : LArc} (h : a ∈ arcsT t V) : ∃ u ∈ unT (withC t cs), FinN V u.needs ∧ u.makes = a.dst ∧ u.op = a.op ∧ u.cost = cs.getD a.op.toNat tInt.dflt ∧ ((u.needs = [] ∧ a.src = -1) ∨ (0 ≤ a.src ∧ GrtF V u.needs a.src)) ∧ (0 ≤ a.dst ∧ a.dst < factN t) ∧ a.src < factN t ∧ ∃ op : Nat, a.op = (op : Int) ∧ op < t.ops.length := by
  obtain ⟨i, hi, hf, rfl⟩ := mem_arcK.1 h
  obtain ⟨u1, u2, u3, u4, u5⟩ := unT_with (cs := cs) hi
  have hU := unT_ok hg
  have hn : ∀ f ∈ (un (unT t) i).needs, 0 ≤ f ∧ 0 ≤ dg V f := fun f hf => by
    have := hU.needs i hi f hf
    exact ⟨this.1, hV f this.1 this.2⟩
  have hm := hU.makes i hi
  obtain ⟨op, j, o1, _, o2⟩ := mem_unK.1 (un_mem hi)
  have o3 : un (unT t) (i : Int) = unE t.vars op (t.ops.getD op dOp) j := o2
  refine ⟨un (unT (withC t cs)) i, un_mem (by rw [u1]; exact hi), by rw [u4]; exact (hiV_fin hn).1 hf, u3, u2, u5, ?_, hm, ?_, op, by rw [o3]; rfl, o1⟩
  · rw [u4]
    rcases grtI_ok (V := V) (l := (un (unT t) i).needs) fun f hf => (hn f hf).1 with ⟨e, h1⟩ | h1
    · exact .inl ⟨e, h1⟩
    · exact .inr h1
  · rcases grtI_ok (V := V) (l := (un (unT t) i).needs) fun f hf => (hn f hf).1 with ⟨e, h1⟩ | h1
    · show grtI V (un (unT t) i).needs < _; omega
    · exact (hU.needs i hi _ h1.2.1).2
/-- The arc of a unary operator. -/
theorem un_arc (hg : GoodT t) (hV : ∀ g : Int, 0 ≤ g → g < factN t → 0 ≤ dg V g) {u : Un} (h : u ∈ unT (withC t cs)) (hf : FinN V u.needs) : ∃ a ∈ arcsT t V, a.dst = u.makes ∧ a.op = u.op ∧ u.cost = cs.getD a.op.toNat tInt.dflt ∧ ((u.needs = [] ∧ a.src = -1) ∨ (0 ≤ a.src ∧ GrtF V u.needs a.src)) := by
  obtain ⟨i, hi, rfl⟩ := un_of h
  have hi' : i < (unT t).length := by
    have h1 : ∀ k, k ≤ t.ops.length → (unK (withC t cs) k).length = (unK t k).length := by
      intro k
      induction k with
      | zero => intro _; simp [unK]
      | succ k ih =>
        intro hk
        rw [unK_succ, unK_succ, List.length_append, List.length_append, ih (by omega), withC_op (by omega), unO_len, unO_len]
    have h2 : (unT (withC t cs)).length = (unT t).length := by
      unfold unT; rw [withC_len]; exact h1 _ (Nat.le_refl _)
    omega
  obtain ⟨u1, u2, u3, u4, u5⟩ := unT_with (cs := cs) hi'
  have hU := unT_ok hg
  have hn : ∀ f ∈ (un (unT t) i).needs, 0 ≤ f ∧ 0 ≤ dg V f := fun f hf => by
    have := hU.needs i hi' f hf
    exact ⟨this.1, hV f this.1 this.2⟩
  rw [u4] at hf ⊢
  refine ⟨_, mem_arcK.2 ⟨i, hi', (hiV_fin hn).2 hf, rfl⟩, u3.symm, u2.symm, u5, ?_⟩
  rcases grtI_ok (V := V) (l := (un (unT t) i).needs) fun f hf => (hn f hf).1 with ⟨e, h1⟩ | h1
  · exact .inl ⟨e, h1⟩
  · exact .inr h1
theorem zt_arc (hg : GoodT t) (hV : ∀ g : Int, 0 ≤ g → g < factN t → 0 ≤ dg V g) {a : LArc} (h : a ∈ arcsT t V) (h0 : 0 ≤ a.src) (hc : cs.getD a.op.toNat tInt.dflt = 0) (hz : ZT (withC t cs) V g0 a.dst) : ZT (withC t cs) V g0 a.src := by
  obtain ⟨u, u1, u2, u3, u4, u5, u6, _⟩ := arc_un (cs := cs) hg hV h
  rcases u6 with ⟨_, e⟩ | ⟨_, hgr⟩
  · omega
  · exact .step u1 u2 hgr (by rw [u5]; exact hc) (by rw [u3]; exact hz)
theorem zt_of (hg : GoodT t) (hV : ∀ g : Int, 0 ≤ g → g < factN t → 0 ≤ dg V g) {B : Int → Prop} (hb : B g0) (hcl : ∀ a ∈ arcsT t V, 0 ≤ a.src → cs.getD a.op.toNat tInt.dflt = 0 → B a.dst → B a.src) {f : Int} (h : ZT (withC t cs) V g0 f) : B f := by
  induction h with
  | goal => exact hb
  | @step u f hu hf hgr hc _ ih =>
    obtain ⟨a, a1, a2, a3, a4, a5⟩ := un_arc hg hV hu hf
    rcases a5 with ⟨e, _⟩ | ⟨h0, hg2⟩
    · rw [e] at hgr; exact absurd hgr.1 List.not_mem_nil
    · have := hcl a a1 h0 (by rw [← a4]; exact hc) (by rw [a2]; exact ih)
      rw [grt_uniq hg2 hgr] at this
      exact this
theorem zs_arc (hg : GoodT t) (hV : ∀ g : Int, 0 ≤ g → g < factN t → 0 ≤ dg V g) {a : LArc} (h : a ∈ arcsT t V) (hs : a.src < 0 ∨ ZS (withC t cs) z V g0 a.src) (hz : ¬ ZT (withC t cs) V g0 a.dst) : ZS (withC t cs) z V g0 a.dst := by
  obtain ⟨u, u1, u2, u3, u4, u5, u6, _⟩ := arc_un (cs := cs) hg hV h
  rw [← u3] at hz ⊢
  rcases u6 with ⟨e, _⟩ | ⟨h0, hgr⟩
  · exact .start u1 e hz
  · rcases hs with hs | hs
    · omega
    · exact .step u1 u2 hgr hs hz
theorem zs_of (hg : GoodT t) (hV : ∀ g : Int, 0 ≤ g → g < factN t → 0 ≤ dg V g) {S : Int → Prop} (hb : ∀ f, StF t.vars z f → S f) (hcl : ∀ a ∈ arcsT t V, (a.src < 0 ∨ S a.src) → ¬ ZT (withC t cs) V g0 a.dst → S a.dst) {f : Int} (h : ZS (withC t cs) z V g0 f) : S f := by
  induction h with
  | st h => exact hb _ h
  | @start u hu hn hz =>
    obtain ⟨a, a1, a2, a3, a4, a5⟩ := un_arc hg hV hu (fun n h => by rw [hn] at h; exact absurd h List.not_mem_nil)
    rw [← a2] at hz ⊢
    rcases a5 with ⟨_, e⟩ | ⟨_, hg2⟩
    · exact hcl a a1 (.inl (by omega)) hz
    · rw [hn] at hg2; exact absurd hg2.1 List.not_mem_nil
  | @step u f hu hf hgr _ hz ih =>
    obtain ⟨a, a1, a2, a3, a4, a5⟩ := un_arc hg hV hu hf
    rw [← a2] at hz ⊢
    rcases a5 with ⟨e, _⟩ | ⟨_, hg2⟩
    · rw [e] at hgr; exact absurd hgr.1 List.not_mem_nil
    · exact hcl a a1 (.inr (by rw [grt_uniq hg2 hgr]; exact ih)) hz
theorem inCut_arc (hg : GoodT t) (hV : ∀ g : Int, 0 ≤ g → g < factN t → 0 ≤ dg V g) {i : Nat} : InCut (withC t cs) z V g0 i ↔ ∃ a ∈ arcsT t V, a.op = (i : Int) ∧ (a.src < 0 ∨ ZS (withC t cs) z V g0 a.src) ∧ ZT (withC t cs) V g0 a.dst := by
  constructor
  · rintro ⟨u, hu, ho, hf, hs, hz⟩
    obtain ⟨a, a1, a2, a3, a4, a5⟩ := un_arc hg hV hu hf
    refine ⟨a, a1, by rw [a3]; exact ho, ?_, by rw [a2]; exact hz⟩
    rcases a5 with ⟨e, h1⟩ | ⟨h0, hg2⟩
    · exact .inl (by omega)
    · rcases hs with e | ⟨f, hgr, hzs⟩
      · rw [e] at hg2; exact absurd hg2.1 List.not_mem_nil
      · exact .inr (by rw [grt_uniq hg2 hgr]; exact hzs)
  · rintro ⟨a, ha, ho, hs, hz⟩
    obtain ⟨u, u1, u2, u3, u4, u5, u6, _⟩ := arc_un (cs := cs) hg hV ha
    refine ⟨u, u1, by rw [u4]; exact ho, u2, ?_, by rw [u3]; exact hz⟩
    rcases u6 with ⟨e, _⟩ | ⟨h0, hgr⟩
    · exact .inl e
    · rcases hs with hs | hs
      · omega
      · exact .inr ⟨_, hgr, hs⟩
end
/-! ### Sets as lists of Booleans -/
def bAt (B : List Bool) (f : Int) : Bool := B.getD f.toNat tBool.dflt
def cntF (B : List Bool) : Nat := B.countP (fun b => !b)
theorem bAt_set {B : List Bool} {f g : Int} (h0 : 0 ≤ f) (hl : f < B.length) (hg : 0 ≤ g) : bAt (B.set f.toNat true) g = if g = f then true else bAt B g := by
  unfold bAt
  rw [set_at (by omega)]
  by_cases e : g = f
  · rw [if_pos e, if_pos (by rw [e])]
  · rw [if_neg e, if_neg (by omega)]
theorem cntF_set : ∀ {B : List Bool} {i : Nat}, i < B.length → B.getD i tBool.dflt = false → cntF (B.set i true) < cntF B
  | [], i, h, _ => by simp at h
  | b :: B, 0, _, h => by
    have e : b = false := h
    subst e
    simp [cntF]
  | b :: B, i + 1, h, h2 => by
    have ih := cntF_set (B := B) (i := i) (by simpa using h) h2
    unfold cntF at ih ⊢
    rw [List.set_cons_succ, List.countP_cons, List.countP_cons]; omega
theorem bAt_rep (n : Nat) (f : Int) : bAt (List.replicate n false) f = false := by
  unfold bAt
  by_cases h : f.toNat < n
  · simp [List.getD, h]
  · simp [List.getD, h]; rfl
end Go.Proofs.YtkmbenhffledpaaGreat
