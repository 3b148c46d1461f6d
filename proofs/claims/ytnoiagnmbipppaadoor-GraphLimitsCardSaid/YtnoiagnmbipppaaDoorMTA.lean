/-
  Several texts as one: TTask, TDefs, TBron, TLex, TExt, TNear, TFind, TGrow, TLimit.
-/
import Derived.Test.YtnoiagnmbipppaaDoorMSlA
import Derived.Test.YtnoiagnmbipppaaDoorMSlB
set_option linter.unusedSimpArgs false
set_option linter.unusedVariables false
/-
  Finite-domain tasks, in plain Lean, and how they lie in memory.
-/
namespace Go.Proofs.YtnoiagnmbipppaaDoor
open Go.Sl

structure Fact where
  var : Int
  val : Int
  deriving DecidableEq
def tFact : Ty Fact := ⟨2, fun f => [.int .i64 f.var, .int .i64 f.val], fun _ => rfl, ⟨0, 0⟩⟩
instance : OneT tFact := ⟨fun x v hv => by simp only [tFact, List.mem_cons, List.not_mem_nil, or_false] at hv; rcases hv with rfl | rfl <;> rfl⟩
structure Eff where
  when : List Fact
  var : Int
  val : Int
structure TOp where
  name : ByteArray
  cost : Int
  pre : List Fact
  effs : List Eff
structure TTask where
  vars : List Int
  init : List Int
  goal : List Fact
  ops : List TOp

structure EffV where
  when : Value
  var : Int
  val : Int
def tEff : Ty EffV := ⟨3, fun e => [e.when, .int .i64 e.var, .int .i64 e.val], fun _ => rfl, ⟨.slice none 0 0, 0, 0⟩⟩
structure OpV where
  name : ByteArray
  cost : Int
  pre : Value
  effs : Value
def tOp : Ty OpV := ⟨4, fun o => [.string o.name, .int .i64 o.cost, o.pre, o.effs], fun _ => rfl, ⟨ByteArray.empty, 0, .slice none 0 0, .slice none 0 0⟩⟩
instance : ShutT tEff := ⟨trivial⟩
instance : ShutT tOp := ⟨trivial⟩
def dEff : Eff := ⟨[], 0, 0⟩
def dOp : TOp := ⟨ByteArray.empty, 0, [], []⟩

structure REff (w : World) (v : EffV) (e : Eff) : Prop where
  var : v.var = e.var
  val : v.val = e.val
  when : RS tFact w v.when e.when
structure REffs (w : World) (s : Value) (vs : List EffV) (es : List Eff) : Prop where
  rs : RS tEff w s vs
  len : vs.length = es.length
  at_ : ∀ i, i < es.length → REff w (eget tEff vs i) (es.getD i dEff)
structure ROp (w : World) (v : OpV) (o : TOp) : Prop where
  name : v.name = o.name
  size : o.name.size ≤ 9223372036854775807
  cost : v.cost = o.cost
  pre : RS tFact w v.pre o.pre
  effs : ∃ vs, REffs w v.effs vs o.effs
structure ROps (w : World) (s : Value) (vs : List OpV) (os : List TOp) : Prop where
  rs : RS tOp w s vs
  len : vs.length = os.length
  at_ : ∀ i, i < os.length → ROp w (eget tOp vs i) (os.getD i dOp)
/-- A task's four fields. -/
structure RTask (w : World) (a b c d : Value) (vs : List OpV) (t : TTask) : Prop where
  vars : RS tInt w a t.vars
  init : RS tInt w b t.init
  goal : RS tFact w c t.goal
  ops : ROps w d vs t.ops
theorem REff.one {w : World} {v : EffV} {e : Eff} (h : REff w v e) : (tEff.enc v).all Value.oneCell' = true := by
  simp only [tEff, List.all_cons, List.all_nil, Bool.and_true, h.when.one]; rfl
theorem ROp.one {w : World} {v : OpV} {o : TOp} (h : ROp w v o) : (tOp.enc v).all Value.oneCell' = true := by
  obtain ⟨vs, he⟩ := h.effs
  simp only [tOp, List.all_cons, List.all_nil, Bool.and_true, h.pre.one, he.rs.one]; rfl
theorem REffs.at {w0 w : World} {Γ : List HP} {s : Value} {vs : List EffV} {es : List Eff} (h : REffs w0 s vs es) (hw : Sat w0 w Γ) : REffs w s vs es :=
  ⟨h.rs.at hw, h.len, fun i hi => ⟨(h.at_ i hi).var, (h.at_ i hi).val, (h.at_ i hi).when.at hw⟩⟩
theorem ROp.at {w0 w : World} {Γ : List HP} {v : OpV} {o : TOp} (h : ROp w0 v o) (hw : Sat w0 w Γ) : ROp w v o :=
  ⟨h.name, h.size, h.cost, h.pre.at hw, let ⟨vs, he⟩ := h.effs; ⟨vs, he.at hw⟩⟩
theorem ROps.at {w0 w : World} {Γ : List HP} {s : Value} {vs : List OpV} {os : List TOp} (h : ROps w0 s vs os) (hw : Sat w0 w Γ) : ROps w s vs os :=
  ⟨h.rs.at hw, h.len, fun i hi => (h.at_ i hi).at hw⟩
theorem RTask.at {w0 w : World} {Γ : List HP} {a b c d : Value} {vs : List OpV} {t : TTask} (h : RTask w0 a b c d vs t) (hw : Sat w0 w Γ) : RTask w a b c d vs t :=
  ⟨h.vars.at hw, h.init.at hw, h.goal.at hw, h.ops.at hw⟩
end Go.Proofs.YtnoiagnmbipppaaDoor
/-
  When a task is right, in plain Lean.
-/
namespace Go.Proofs.YtnoiagnmbipppaaDoor
open Go.Sl

theorem mem_getD {α : Type} {xs : List α} {i : Nat} (d : α) (h : i < xs.length) : xs.getD i d ∈ xs := by simp [List.getD, h]
theorem getD_at {α : Type} {l : List α} {d : α} {i : Nat} (h : i < l.length) : l.getD i d = l[i] := by simp [List.getD, h]
theorem iffF {p : Prop} (h : ¬ p) : (false = true) ↔ p := ⟨(fun e => by cases e), fun e => absurd e h⟩
theorem iffT {p : Prop} (h : p) : (true = true) ↔ p := ⟨fun _ => h, fun _ => rfl⟩
def StateOk (vars s : List Int) : Prop := s.length = vars.length ∧ ∀ i, i < s.length → 0 ≤ s.getD i tInt.dflt ∧ s.getD i tInt.dflt < vars.getD i tInt.dflt
def FactOk (vars : List Int) (x : Fact) : Prop := 0 ≤ x.var ∧ x.var < vars.length ∧ 0 ≤ x.val ∧ x.val < vars.getD x.var.toNat tInt.dflt
def FactsOk (vars : List Int) (f : List Fact) : Prop := ∀ i, i < f.length → FactOk vars (f.getD i tFact.dflt) ∧ (0 < i → (f.getD (i - 1) tFact.dflt).var < (f.getD i tFact.dflt).var)
def NameOk (b : ByteArray) : Prop := b.size ≤ 256 ∧ ∀ i, i < b.size → 32 ≤ bat b i ∧ bat b i ≤ 126
def EffOk (vars : List Int) (e : Eff) : Prop := FactsOk vars e.when ∧ FactsOk vars [⟨e.var, e.val⟩]
structure OpOk (vars : List Int) (o : TOp) : Prop where
  cost0 : 0 ≤ o.cost
  cost1 : o.cost ≤ 1048576
  effs : o.effs.length ≤ 64
  name : NameOk o.name
  pre : FactsOk vars o.pre
  eff : ∀ i, i < o.effs.length → EffOk vars (o.effs.getD i dEff)
structure GoodT (t : TTask) : Prop where
  vars : t.vars.length ≤ 64
  ops : t.ops.length ≤ 4096
  dom : ∀ i, i < t.vars.length → 1 ≤ t.vars.getD i tInt.dflt ∧ t.vars.getD i tInt.dflt ≤ 64
  init : StateOk t.vars t.init
  goal : FactsOk t.vars t.goal
  op : ∀ i, i < t.ops.length → OpOk t.vars (t.ops.getD i dOp)
def prodL (vars : List Int) : Int := vars.foldl (· * ·) 1
structure SmallT (t : TTask) : Prop where
  good : GoodT t
  vars : t.vars.length ≤ 12
  ops : t.ops.length ≤ 20
  effs : ∀ i, i < t.ops.length → (t.ops.getD i dOp).effs.length ≤ 8
  many : prodL t.vars ≤ 512
/-- A fact holds in a state. -/
def HoldF (s : List Int) (x : Fact) : Prop := 0 ≤ x.var ∧ x.var < s.length ∧ s.getD x.var.toNat tInt.dflt = x.val
def HoldFs (s : List Int) (f : List Fact) : Prop := ∀ i, i < f.length → HoldF s (f.getD i tFact.dflt)
theorem prodL_snoc (l : List Int) (x : Int) : prodL (l ++ [x]) = prodL l * x := by simp [prodL]
theorem take_snoc {α : Type} {l : List α} {k : Nat} (d : α) (h : k < l.length) : l.take (k + 1) = l.take k ++ [l.getD k d] := by
  rw [List.take_succ_eq_append_getElem h]; simp [List.getD, h]
theorem prodL_pos {l : List Int} (h : ∀ x ∈ l, 1 ≤ x) : 1 ≤ prodL l := by
  have key : ∀ (l : List Int) (a : Int), 1 ≤ a → (∀ x ∈ l, 1 ≤ x) → 1 ≤ l.foldl (· * ·) a := by
    intro l
    induction l with
    | nil => intro a ha _; exact ha
    | cons x l ih =>
      intro a ha hl
      refine ih (a * x) ?_ fun y hy => hl y (List.mem_cons_of_mem _ hy)
      have hx := hl x List.mem_cons_self
      have := Int.mul_le_mul ha hx (by omega) (by omega)
      simpa using this
  exact key l 1 (Int.le_refl _) h
theorem prodL_mono {l m : List Int} (hm : ∀ x ∈ m, 1 ≤ x) (hl : ∀ x ∈ l, 1 ≤ x) : prodL l ≤ prodL (l ++ m) := by
  induction m generalizing l with
  | nil => simp
  | cons x m ih =>
    have h1 := ih (l := l ++ [x]) (fun y hy => hm y (List.mem_cons_of_mem _ hy)) (fun y hy => by
      rcases List.mem_append.1 hy with h | h
      · exact hl y h
      · rw [List.mem_singleton.1 h]; exact hm x List.mem_cons_self)
    rw [prodL_snoc] at h1
    have h2 := prodL_pos hl
    have h3 := hm x List.mem_cons_self
    have h4 : prodL l * 1 ≤ prodL l * x := Int.mul_le_mul_of_nonneg_left h3 (by omega)
    have e : l ++ [x] ++ m = l ++ x :: m := by simp
    rw [e] at h1
    omega
end Go.Proofs.YtnoiagnmbipppaaDoor
/-
  Maximal cliques by sets of bits, in plain Lean: what the search with a pivot finds.
-/
namespace Go.Proofs.YtnoiagnmbipppaaDoor
open Go.Sl

/-- Sets of bits. -/
abbrev ib (x v : Nat) : Prop := x.testBit v = true
/-- The neighbours of each node as sets of bits: symmetric, no node its own neighbour. -/
structure Gr (n : Nat) (N : Nat → Nat) : Prop where
  sym : ∀ u v, ib (N u) v → ib (N v) u
  irr : ∀ u, ¬ ib (N u) u
  bd : ∀ u v, ib (N u) v → v < n
/-- A maximal clique. -/
structure MaxC (n : Nat) (N : Nat → Nat) (C : Nat) : Prop where
  bd : ∀ v, ib C v → v < n
  clq : ∀ u v, ib C u → ib C v → u ≠ v → ib (N u) v
  max : ∀ u, u < n → ¬ ib C u → ∃ v, ib C v ∧ ¬ ib (N u) v
structure Cand (n : Nat) (N : Nat → Nat) (R P C : Nat) : Prop where
  mx : MaxC n N C
  lo : ∀ v, ib R v → ib C v
  hi : ∀ v, ib C v → ib R v ∨ ib P v
structure BI (n : Nat) (N : Nat → Nat) (R P X : Nat) : Prop where
  rb : ∀ v, ib R v → v < n
  pb : ∀ v, ib P v → v < n
  xb : ∀ v, ib X v → v < n
  clq : ∀ u v, ib R u → ib R v → u ≠ v → ib (N u) v
  adj : ∀ u, ib P u ∨ ib X u → ∀ r, ib R r → ib (N u) r
  all : ∀ u, u < n → (∀ r, ib R r → ib (N u) r) → ib P u ∨ ib X u
section
variable {n : Nat} {N : Nat → Nat} {R P X C : Nat}
theorem BI.base (h : BI n N R P X) (hP : ∀ v, ¬ ib P v) (hX : ∀ v, ¬ ib X v) : Cand n N R P C ↔ C = R := by
  constructor
  · intro hc
    apply Nat.eq_of_testBit_eq
    intro i
    by_cases hi : ib C i
    · rcases hc.hi i hi with h1 | h1
      · exact hi.trans h1.symm
      · exact absurd h1 (hP i)
    · have hr : ¬ ib R i := fun hr => hi (hc.lo i hr)
      rw [Bool.eq_false_iff.2 hi, Bool.eq_false_iff.2 hr]
  · rintro rfl
    refine ⟨⟨h.rb, h.clq, fun u hu hn => ?_⟩, fun _ hv => hv, fun _ hv => .inl hv⟩
    refine Classical.byContradiction fun hno => ?_
    have hall : ∀ r, ib C r → ib (N u) r := fun r hr => Classical.byContradiction fun hh => hno ⟨r, hr, hh⟩
    rcases h.all u hu hall with h1 | h1
    · exact hP u h1
    · exact hX u h1
theorem BI.notR (hG : Gr n N) (h : BI n N R P X) {v : Nat} (hv : ib P v ∨ ib X v) : ¬ ib R v := fun hr => hG.irr v (h.adj v hv v hr)
theorem BI.child (hG : Gr n N) (h : BI n N R P X) {v R1 P1 X1 : Nat} (hv : ib P v) (h1 : ∀ u, ib R1 u ↔ ib R u ∨ u = v) (h2 : ∀ u, ib P1 u ↔ ib P u ∧ ib (N v) u) (h3 : ∀ u, ib X1 u ↔ ib X u ∧ ib (N v) u) : BI n N R1 P1 X1 where
  rb u hu := by
    rcases (h1 u).1 hu with h0 | rfl
    · exact h.rb u h0
    · exact h.pb _ hv
  pb u hu := h.pb u ((h2 u).1 hu).1
  xb u hu := h.xb u ((h3 u).1 hu).1
  clq a b ha hb hab := by
    rcases (h1 a).1 ha with ha | rfl
    · rcases (h1 b).1 hb with hb | rfl
      · exact h.clq a b ha hb hab
      · exact hG.sym _ _ (h.adj _ (.inl hv) a ha)
    · rcases (h1 b).1 hb with hb | rfl
      · exact h.adj _ (.inl hv) b hb
      · exact absurd rfl hab
  adj u hu r hr := by
    have hu2 : (ib P u ∨ ib X u) ∧ ib (N v) u := by
      rcases hu with hu | hu
      · exact ⟨.inl ((h2 u).1 hu).1, ((h2 u).1 hu).2⟩
      · exact ⟨.inr ((h3 u).1 hu).1, ((h3 u).1 hu).2⟩
    rcases (h1 r).1 hr with hr | rfl
    · exact h.adj u hu2.1 r hr
    · exact hG.sym _ _ hu2.2
  all u hu ha := by
    have hv2 : ib (N v) u := hG.sym _ _ (ha v ((h1 v).2 (.inr rfl)))
    rcases h.all u hu (fun r hr => ha r ((h1 r).2 (.inl hr))) with h0 | h0
    · exact .inl ((h2 u).2 ⟨h0, hv2⟩)
    · exact .inr ((h3 u).2 ⟨h0, hv2⟩)
theorem BI.next (h : BI n N R P X) {v P1 X1 : Nat} (hv : ib P v) (h2 : ∀ u, ib P1 u ↔ ib P u ∧ u ≠ v) (h3 : ∀ u, ib X1 u ↔ ib X u ∨ u = v) : BI n N R P1 X1 where
  rb := h.rb
  pb u hu := h.pb u ((h2 u).1 hu).1
  xb u hu := by
    rcases (h3 u).1 hu with h0 | rfl
    · exact h.xb u h0
    · exact h.pb _ hv
  clq := h.clq
  adj u hu r hr := by
    rcases hu with hu | hu
    · exact h.adj u (.inl ((h2 u).1 hu).1) r hr
    · rcases (h3 u).1 hu with h0 | rfl
      · exact h.adj u (.inr h0) r hr
      · exact h.adj _ (.inl hv) r hr
  all u hu ha := by
    rcases h.all u hu ha with h0 | h0
    · by_cases e : u = v
      · exact .inr ((h3 u).2 (.inr e))
      · exact .inl ((h2 u).2 ⟨h0, e⟩)
    · exact .inr ((h3 u).2 (.inl h0))
theorem BI.split (hG : Gr n N) (h : BI n N R P X) {v R1 P1 P2 : Nat} (hv : ib P v) (h1 : ∀ u, ib R1 u ↔ ib R u ∨ u = v) (h2 : ∀ u, ib P1 u ↔ ib P u ∧ ib (N v) u) (h3 : ∀ u, ib P2 u ↔ ib P u ∧ u ≠ v) :
    (Cand n N R P C ↔ Cand n N R1 P1 C ∨ Cand n N R P2 C) ∧ (Cand n N R1 P1 C → ib C v) ∧ (Cand n N R P2 C → ¬ ib C v) := by
  have hnr := h.notR hG (.inl hv)
  refine ⟨⟨fun hc => ?_, fun hc => ?_⟩, fun hc => hc.lo v ((h1 v).2 (.inr rfl)), fun hc hcv => ?_⟩
  · by_cases hcv : ib C v
    · refine .inl ⟨hc.mx, fun u hu => ?_, fun u hu => ?_⟩
      · rcases (h1 u).1 hu with h0 | rfl
        · exact hc.lo u h0
        · exact hcv
      · by_cases e : u = v
        · exact .inl ((h1 u).2 (.inr e))
        · rcases hc.hi u hu with h0 | h0
          · exact .inl ((h1 u).2 (.inl h0))
          · exact .inr ((h2 u).2 ⟨h0, hc.mx.clq v u hcv hu (fun hh => e hh.symm)⟩)
    · refine .inr ⟨hc.mx, hc.lo, fun u hu => ?_⟩
      rcases hc.hi u hu with h0 | h0
      · exact .inl h0
      · exact .inr ((h3 u).2 ⟨h0, fun e => hcv (e ▸ hu)⟩)
  · rcases hc with hc | hc
    · refine ⟨hc.mx, fun u hu => hc.lo u ((h1 u).2 (.inl hu)), fun u hu => ?_⟩
      rcases hc.hi u hu with h0 | h0
      · rcases (h1 u).1 h0 with h0 | rfl
        · exact .inl h0
        · exact .inr hv
      · exact .inr ((h2 u).1 h0).1
    · refine ⟨hc.mx, hc.lo, fun u hu => ?_⟩
      rcases hc.hi u hu with h0 | h0
      · exact .inl h0
      · exact .inr ((h3 u).1 h0).1
  · rcases hc.hi v hcv with h0 | h0
    · exact hnr h0
    · exact ((h3 v).1 h0).2 rfl
theorem BI.pivot (hG : Gr n N) (h : BI n N R P X) {u : Nat} (hu : ib P u ∨ ib X u) (hc : Cand n N R P C) : ∃ q, ib C q ∧ ib P q ∧ ¬ ib (N u) q := by
  refine Classical.byContradiction fun hno => ?_
  have hall : ∀ c, ib C c → ib (N u) c := fun c hcc => by
    rcases hc.hi c hcc with h0 | h0
    · exact h.adj u hu c h0
    · exact Classical.byContradiction fun hh => hno ⟨c, hcc, h0, hh⟩
  by_cases hcu : ib C u
  · exact hG.irr u (hall u hcu)
  · have hun : u < n := by
      rcases hu with h0 | h0
      · exact h.pb u h0
      · exact h.xb u h0
    obtain ⟨v, hv, hn⟩ := hc.mx.max u hun hcu
    exact hn (hall v hv)
end
/-! ### The least bit -/
/-- v is the least bit of x. -/
def Low (x v : Nat) : Prop := ib x v ∧ ∀ u, u < v → ¬ ib x u
theorem low_exists {x : Nat} (h : x ≠ 0) : ∃ v, Low x v := by
  have : ∃ v, ib x v := by
    refine Classical.byContradiction fun hno => h (Nat.eq_of_testBit_eq fun i => ?_)
    rw [Nat.zero_testBit]
    exact Bool.eq_false_iff.2 fun hh => hno ⟨i, hh⟩
  obtain ⟨v, hv⟩ := this
  induction v using Nat.strongRecOn with
  | _ v ih =>
    by_cases hh : ∃ u, u < v ∧ ib x u
    · obtain ⟨u, h1, h2⟩ := hh
      exact ih u h1 h2
    · exact ⟨v, hv, fun u hu hb => hh ⟨u, hu, hb⟩⟩
theorem low_unique {x v v' : Nat} (h : Low x v) (h' : Low x v') : v = v' := by
  rcases Nat.lt_trichotomy v v' with e | e | e
  · exact absurd h.1 (h'.2 v e)
  · exact e
  · exact absurd h'.1 (h.2 v' e)
theorem low_form {x v : Nat} (h : Low x v) : x = 2 ^ (v + 1) * (x / 2 ^ (v + 1)) + 2 ^ v := by
  apply Nat.eq_of_testBit_eq
  intro i
  rw [Nat.testBit_two_pow_mul_add _ (by rw [Nat.pow_succ]; have := Nat.two_pow_pos v; omega)]
  split
  · rename_i hi
    rw [Nat.testBit_two_pow]
    by_cases e : v = i
    · subst e; rw [decide_eq_true rfl]; exact h.1
    · rw [decide_eq_false e]
      exact Bool.eq_false_iff.2 (h.2 i (by omega))
  · rename_i hi
    rw [Nat.testBit_div_two_pow]
    congr 1; omega
theorem low_pred {x v : Nat} (h : Low x v) (i : Nat) : (x - 1).testBit i = if i < v then true else if i = v then false else x.testBit i := by
  have hp := Nat.two_pow_pos v
  have e : x - 1 = 2 ^ (v + 1) * (x / 2 ^ (v + 1)) + (2 ^ v - 1) := by
    have := low_form h; omega
  rw [e, Nat.testBit_two_pow_mul_add _ (by rw [Nat.pow_succ]; omega)]
  split
  · rename_i hi
    rw [Nat.testBit_two_pow_sub_one]
    by_cases e1 : i < v
    · rw [if_pos e1, decide_eq_true e1]
    · rw [if_neg e1, if_pos (by omega), decide_eq_false e1]
  · rename_i hi
    rw [if_neg (by omega), if_neg (by omega), Nat.testBit_div_two_pow]
    congr 1; omega
theorem low_strip {x v : Nat} (h : Low x v) (i : Nat) : ib (x &&& (x - 1)) i ↔ ib x i ∧ i ≠ v := by
  unfold ib
  rw [Nat.testBit_and, low_pred h, Bool.and_eq_true]
  by_cases e1 : i < v
  · have := h.2 i e1
    rw [if_pos e1]
    exact ⟨fun hh => absurd hh.1 this, fun hh => absurd hh.1 this⟩
  · rw [if_neg e1]
    by_cases e2 : i = v
    · rw [if_pos e2]
      exact ⟨fun hh => (by cases hh.2), fun hh => absurd e2 hh.2⟩
    · rw [if_neg e2]
      exact ⟨fun hh => ⟨hh.1, e2⟩, fun hh => ⟨hh.1, hh.1⟩⟩
theorem strip_lt {x : Nat} (h : x ≠ 0) : x &&& (x - 1) < x := by
  have := Nat.and_le_right (n := x) (m := x - 1)
  omega
theorem low_neg {x v : Nat} (h : Low x v) (hx : x < 2 ^ 64) : x &&& (2 ^ 64 - x) = 2 ^ v := by
  have hx0 : x ≠ 0 := fun e => by have := h.1; subst e; simp [ib] at this
  have hv : v < 64 := Nat.lt_of_not_le fun hle => by
    have h1 := h.1
    unfold ib at h1
    rw [Nat.testBit_lt_two_pow (Nat.lt_of_lt_of_le hx (Nat.pow_le_pow_right (by decide) hle))] at h1
    cases h1
  apply Nat.eq_of_testBit_eq
  intro i
  rw [Nat.testBit_and, show 2 ^ 64 - x = 2 ^ 64 - ((x - 1) + 1) by omega, Nat.testBit_two_pow_sub_succ (by omega), low_pred h, Nat.testBit_two_pow]
  by_cases e1 : i < v
  · rw [if_pos e1, Bool.eq_false_iff.2 (h.2 i e1), Bool.false_and, decide_eq_false (by omega)]
  · rw [if_neg e1]
    by_cases e2 : i = v
    · subst e2
      rw [if_pos rfl, show x.testBit i = true from h.1, decide_eq_true hv, decide_eq_true rfl]; rfl
    · rw [if_neg e2, show decide (v = i) = false from decide_eq_false fun hh => e2 hh.symm]
      cases x.testBit i <;> simp
theorem low_lt {x v k : Nat} (h : Low x v) (hx : x < 2 ^ k) : v < k := Nat.lt_of_not_le fun hle => by
  have h1 := h.1
  unfold ib at h1
  rw [Nat.testBit_lt_two_pow (Nat.lt_of_lt_of_le hx (Nat.pow_le_pow_right (by decide) hle))] at h1
  cases h1
end Go.Proofs.YtnoiagnmbipppaaDoor
/-
  Lists of nodes: sets of bits as ascending lists, the lexicographic order, and that a sorted list is settled by its members.
-/
namespace Go.Proofs.YtnoiagnmbipppaaDoor
open Go.Sl

/-- The members of a set of bits below k. -/
def bitsK (C : Nat) (k : Nat) : List Int := ((List.range k).filter fun v => C.testBit v).map fun (v : Nat) => (v : Int)
theorem bitsK_zero (C : Nat) : bitsK C 0 = [] := rfl
theorem bitsK_succ (C k : Nat) : bitsK C (k + 1) = bitsK C k ++ if C.testBit k then [(k : Int)] else [] := by
  unfold bitsK
  rw [List.range_succ, List.filter_append, List.map_append]
  congr 1
  simp only [List.filter_cons, List.filter_nil]
  split <;> rfl
theorem bitsK_len (C : Nat) : ∀ k, (bitsK C k).length ≤ k
  | 0 => Nat.le_refl _
  | k + 1 => by
    rw [bitsK_succ, List.length_append]
    have := bitsK_len C k
    split <;> simp <;> omega
theorem mem_bitsK {C k : Nat} {x : Int} : x ∈ bitsK C k ↔ ∃ v : Nat, v < k ∧ ib C v ∧ x = v := by
  simp only [bitsK, List.mem_map, List.mem_filter, List.mem_range]
  constructor
  · rintro ⟨v, ⟨h1, h2⟩, rfl⟩; exact ⟨v, h1, h2, rfl⟩
  · rintro ⟨v, h1, h2, rfl⟩; exact ⟨v, ⟨h1, h2⟩, rfl⟩
theorem bitsK_inj {C C' n : Nat} (h : ∀ v, ib C v → v < n) (h' : ∀ v, ib C' v → v < n) (he : bitsK C n = bitsK C' n) : C = C' := by
  apply Nat.eq_of_testBit_eq
  intro i
  have key : ib C i ↔ ib C' i := by
    constructor
    · intro hi
      have : (i : Int) ∈ bitsK C n := mem_bitsK.2 ⟨i, h i hi, hi, rfl⟩
      rw [he] at this
      obtain ⟨v, _, hv, e⟩ := mem_bitsK.1 this
      have : i = v := by omega
      rw [this]; exact hv
    · intro hi
      have : (i : Int) ∈ bitsK C' n := mem_bitsK.2 ⟨i, h' i hi, hi, rfl⟩
      rw [← he] at this
      obtain ⟨v, _, hv, e⟩ := mem_bitsK.1 this
      have : i = v := by omega
      rw [this]; exact hv
  exact Bool.eq_iff_iff.2 key
/-- Lexicographic comparison. -/
def lexC : List Int → List Int → Int
  | [], [] => 0
  | [], _ :: _ => -1
  | _ :: _, [] => 1
  | x :: xs, y :: ys => if x < y then -1 else if y < x then 1 else lexC xs ys
theorem lexC_self : ∀ xs, lexC xs xs = 0
  | [] => rfl
  | x :: xs => by simp [lexC, lexC_self xs]
theorem lexC_rng : ∀ xs ys, lexC xs ys = -1 ∨ lexC xs ys = 0 ∨ lexC xs ys = 1
  | [], [] => .inr (.inl rfl)
  | [], _ :: _ => .inl rfl
  | _ :: _, [] => .inr (.inr rfl)
  | x :: xs, y :: ys => by
    simp only [lexC]
    split
    · exact .inl rfl
    · split
      · exact .inr (.inr rfl)
      · exact lexC_rng xs ys
theorem lexC_swap : ∀ xs ys, lexC ys xs = - lexC xs ys
  | [], [] => rfl
  | [], _ :: _ => rfl
  | _ :: _, [] => rfl
  | x :: xs, y :: ys => by
    simp only [lexC]
    by_cases h1 : x < y
    · rw [if_pos h1, if_neg (by omega), if_pos h1]; rfl
    · by_cases h2 : y < x
      · rw [if_pos h2, if_neg h1, if_pos h2]
      · rw [if_neg h1, if_neg h2, if_neg h2, if_neg h1]; exact lexC_swap xs ys
theorem lexC_zero : ∀ {xs ys}, lexC xs ys = 0 → xs = ys
  | [], [], _ => rfl
  | [], _ :: _, h => by simp [lexC] at h
  | _ :: _, [], h => by simp [lexC] at h
  | x :: xs, y :: ys, h => by
    simp only [lexC] at h
    split at h
    · cases h
    · split at h
      · cases h
      · rw [lexC_zero h]; congr 1; omega
theorem lexC_trans : ∀ {xs ys zs}, lexC xs ys < 0 → lexC ys zs < 0 → lexC xs zs < 0
  | [], [], _, h, _ => by simp [lexC] at h
  | [], _ :: _, [], _, h => by simp [lexC] at h
  | [], _ :: _, _ :: _, _, _ => by simp [lexC]
  | _ :: _, [], _, h, _ => by simp [lexC] at h
  | _ :: _, _ :: _, [], _, h => by simp [lexC] at h
  | x :: xs, y :: ys, z :: zs, h1, h2 => by
    simp only [lexC] at h1 h2 ⊢
    by_cases a : x < y
    · by_cases b : y < z
      · rw [if_pos (by omega)]; decide
      · rw [if_neg b] at h2
        split at h2
        · cases h2
        · rw [if_pos (by omega)]; decide
    · rw [if_neg a] at h1
      split at h1
      · cases h1
      · by_cases b : y < z
        · rw [if_pos (by omega)]; decide
        · rw [if_neg b] at h2
          split at h2
          · cases h2
          · rw [if_neg (by omega), if_neg (by omega)]
            exact lexC_trans h1 h2
theorem lexC_pre : ∀ (l xs ys : List Int), lexC (l ++ xs) (l ++ ys) = lexC xs ys
  | [], _, _ => rfl
  | x :: l, xs, ys => by
    simp only [List.cons_append, lexC]
    rw [if_neg (by omega), if_neg (by omega)]
    exact lexC_pre l xs ys
/-- Sorted strictly. -/
def LexS (L : List (List Int)) : Prop := L.Pairwise fun a b => lexC a b < 0
theorem LexS.eq : ∀ {L M : List (List Int)}, LexS L → LexS M → (∀ x, x ∈ L ↔ x ∈ M) → L = M
  | [], [], _, _, _ => rfl
  | [], m :: M, _, _, h => absurd ((h m).2 List.mem_cons_self) (by simp)
  | l :: L, [], _, _, h => absurd ((h l).1 List.mem_cons_self) (by simp)
  | l :: L, m :: M, hL, hM, h => by
    have hl := List.pairwise_cons.1 hL
    have hm := List.pairwise_cons.1 hM
    have e : l = m := by
      refine Classical.byContradiction fun hne => ?_
      have h1 : l ∈ M := by
        rcases List.mem_cons.1 ((h l).1 List.mem_cons_self) with h1 | h1
        · exact absurd h1 hne
        · exact h1
      have h2 : m ∈ L := by
        rcases List.mem_cons.1 ((h m).2 List.mem_cons_self) with h2 | h2
        · exact absurd h2.symm hne
        · exact h2
      have h3 := hl.1 m h2
      have h4 := hm.1 l h1
      have := lexC_swap l m
      omega
    subst e
    congr 1
    have no : ∀ {X : List (List Int)}, (∀ b ∈ X, lexC l b < 0) → l ∉ X := fun hX hx => by
      have := hX l hx
      rw [lexC_self] at this
      omega
    refine LexS.eq hl.2 hm.2 fun x => ?_
    have hx := h x
    simp only [List.mem_cons] at hx
    constructor
    · intro hh
      rcases hx.1 (.inr hh) with e | h1
      · subst e; exact absurd hh (no hl.1)
      · exact h1
    · intro hh
      rcases hx.2 (.inr hh) with e | h1
      · subst e; exact absurd hh (no hm.1)
      · exact h1
end Go.Proofs.YtnoiagnmbipppaaDoor
/-
  The reference's enumeration of maximal cliques, in plain Lean: sorted, and just these.
-/
namespace Go.Proofs.YtnoiagnmbipppaaDoor
open Go.Sl

theorem bitsK_split (C k : Nat) : ∀ d, ∃ r, bitsK C (k + d) = bitsK C k ++ r ∧ ∀ x ∈ r, (k : Int) ≤ x
  | 0 => ⟨[], by simp, fun x hx => by simp at hx⟩
  | d + 1 => by
    obtain ⟨r, h1, h2⟩ := bitsK_split C k d
    refine ⟨r ++ if C.testBit (k + d) then [((k + d : Nat) : Int)] else [], ?_, fun x hx => ?_⟩
    · rw [show k + (d + 1) = (k + d) + 1 by omega, bitsK_succ, h1, List.append_assoc]
    · rcases List.mem_append.1 hx with hx | hx
      · exact h2 x hx
      · split at hx
        · rw [List.mem_singleton.1 hx]; omega
        · simp at hx
theorem bitsK_of_le {C k n : Nat} (h : k ≤ n) : ∃ r, bitsK C n = bitsK C k ++ r ∧ ∀ x ∈ r, (k : Int) ≤ x := by
  obtain ⟨d, rfl⟩ := Nat.exists_eq_add_of_le h
  exact bitsK_split C k d
theorem MaxC.ne {n : Nat} {N : Nat → Nat} {C : Nat} (h : MaxC n N C) (hn : 0 < n) : bitsK C n ≠ [] := fun he => by
  by_cases h0 : ib C 0
  · have : ((0 : Nat) : Int) ∈ bitsK C n := mem_bitsK.2 ⟨0, hn, h0, rfl⟩
    rw [he] at this; simp at this
  · obtain ⟨v, hv, _⟩ := h.max 0 hn h0
    have : (v : Int) ∈ bitsK C n := mem_bitsK.2 ⟨v, h.bd v hv, hv, rfl⟩
    rw [he] at this; simp at this
/-- E is what there is from node v on, l being taken below. -/
def ExtOk (n : Nat) (N : Nat → Nat) (l : List Int) (v : Nat) (E : List (List Int)) : Prop :=
  LexS E ∧ ∀ L, L ∈ E ↔ ∃ C, MaxC n N C ∧ bitsK C v = l ∧ L = bitsK C n
section
variable {n : Nat} {N : Nat → Nat} {l : List Int} {v : Nat} {E E1 E2 : List (List Int)}
theorem bitsK_in {C k : Nat} (hv : ib C k) : bitsK C (k + 1) = bitsK C k ++ [(k : Int)] := by rw [bitsK_succ, if_pos hv]
theorem bitsK_out {C k : Nat} (hv : ¬ ib C k) : bitsK C (k + 1) = bitsK C k := by rw [bitsK_succ, if_neg hv, List.append_nil]
theorem mem_of_bits {C k : Nat} {u : Nat} (h : (u : Int) ∈ bitsK C k) : ib C u ∧ u < k := by
  obtain ⟨w, hw, hb, e⟩ := mem_bitsK.1 h
  have : u = w := by omega
  rw [this]; exact ⟨hb, hw⟩
theorem ExtOk.yes (hv : v < n) (h1 : ExtOk n N (l ++ [(v : Int)]) (v + 1) E1) (h2 : ExtOk n N l (v + 1) E2) (hl : ∀ x ∈ l, 0 ≤ x ∧ x < v) (hf : ∀ u : Nat, (u : Int) ∈ l → ib (N v) u) : ExtOk n N l v (E1 ++ E2) := by
  refine ⟨List.pairwise_append.2 ⟨h1.1, h2.1, fun a ha b hb => ?_⟩, fun L => ?_⟩
  · obtain ⟨Ca, _, ca, rfl⟩ := (h1.2 a).1 ha
    obtain ⟨Cb, mb, cb, rfl⟩ := (h2.2 b).1 hb
    obtain ⟨ra, ea, _⟩ := bitsK_of_le (C := Ca) (show v + 1 ≤ n by omega)
    obtain ⟨rb, eb, hb2⟩ := bitsK_of_le (C := Cb) (show v + 1 ≤ n by omega)
    rw [ea, eb, ca, cb, List.append_assoc, lexC_pre]
    cases rb with
    | nil =>
      exfalso
      rw [List.append_nil, cb] at eb
      have hnv : ¬ ib Cb v := fun hh => by
        have : (v : Int) ∈ bitsK Cb n := mem_bitsK.2 ⟨v, hv, hh, rfl⟩
        rw [eb] at this
        have := (hl _ this).2
        omega
      obtain ⟨w, hw, hn⟩ := mb.max v hv hnv
      have : (w : Int) ∈ bitsK Cb n := mem_bitsK.2 ⟨w, mb.bd w hw, hw, rfl⟩
      rw [eb] at this
      exact hn (hf w this)
    | cons y rb =>
      have := hb2 y List.mem_cons_self
      simp only [List.cons_append, lexC]
      rw [if_pos (by omega)]; decide
  · rw [List.mem_append, h1.2, h2.2]
    constructor
    · rintro (⟨C, m, c, e⟩ | ⟨C, m, c, e⟩)
      · refine ⟨C, m, ?_, e⟩
        by_cases hb : ib C v
        · rw [bitsK_in hb] at c
          exact (List.append_inj' c rfl).1
        · rw [bitsK_out hb] at c
          have : (v : Int) ∈ bitsK C v := by rw [c]; simp
          have := (mem_of_bits this).2
          omega
      · refine ⟨C, m, ?_, e⟩
        by_cases hb : ib C v
        · rw [bitsK_in hb] at c
          have : (v : Int) ∈ l := by rw [← c]; simp
          have := (hl _ this).2
          omega
        · rw [bitsK_out hb] at c; exact c
    · rintro ⟨C, m, c, e⟩
      by_cases hb : ib C v
      · exact .inl ⟨C, m, by rw [bitsK_in hb, c], e⟩
      · exact .inr ⟨C, m, by rw [bitsK_out hb, c], e⟩
theorem ExtOk.no (h2 : ExtOk n N l (v + 1) E2) (hl : ∀ x ∈ l, 0 ≤ x ∧ x < v) {u : Nat} (hu : (u : Int) ∈ l) (hf : ¬ ib (N v) u) : ExtOk n N l v E2 := by
  refine ⟨h2.1, fun L => ?_⟩
  rw [h2.2]
  constructor
  · rintro ⟨C, m, c, e⟩
    refine ⟨C, m, ?_, e⟩
    by_cases hb : ib C v
    · rw [bitsK_in hb] at c
      have : (v : Int) ∈ l := by rw [← c]; simp
      have := (hl _ this).2
      omega
    · rw [bitsK_out hb] at c; exact c
  · rintro ⟨C, m, c, e⟩
    refine ⟨C, m, ?_, e⟩
    by_cases hb : ib C v
    · rw [← c] at hu
      have := mem_of_bits hu
      exact absurd (m.clq v u hb this.1 (by omega)) hf
    · rw [bitsK_out hb, c]
theorem ExtOk.end1 {C : Nat} (h : MaxC n N C) : ExtOk n N (bitsK C n) n [bitsK C n] := by
  refine ⟨List.pairwise_singleton _ _, fun L => ?_⟩
  rw [List.mem_singleton]
  exact ⟨fun e => ⟨C, h, rfl, e⟩, fun ⟨D, _, c, e⟩ => by rw [e, c]⟩
theorem ExtOk.end0 (h : ∀ C, MaxC n N C → bitsK C n ≠ l) : ExtOk n N l n [] :=
  ⟨List.Pairwise.nil, fun L => ⟨fun hh => by simp at hh, fun ⟨C, m, c, _⟩ => absurd c (h C m)⟩⟩
end
end Go.Proofs.YtnoiagnmbipppaaDoor
/-
  Graphs, in plain Lean: the check of a graph, and the neighbours of each node as sets of bits.
-/
namespace Go.Proofs.YtnoiagnmbipppaaDoor
open Go.Sl

structure Arc where
  src : Int
  dst : Int
  wt : Int
  deriving DecidableEq
def tArc : Ty Arc := ⟨3, fun a => [.int .i64 a.src, .int .i64 a.dst, .int .i64 a.wt], fun _ => rfl, ⟨0, 0, 0⟩⟩
def arcOk (n : Int) (a : Arc) : Prop := 0 ≤ a.src ∧ a.src < n ∧ 0 ≤ a.dst ∧ a.dst < n ∧ -1099511627776 ≤ a.wt ∧ a.wt ≤ 1099511627776
instance (n : Int) (a : Arc) : Decidable (arcOk n a) := by unfold arcOk; infer_instance
/-- The error code of a graph. -/
def checkCode (n : Int) (arcs : List Arc) : Int :=
  if n < 0 then 1 else if 4096 < n ∨ 65536 < (arcs.length : Int) then 5 else if ∀ a ∈ arcs, arcOk n a then 0 else 1
theorem checkCode_neg {n : Int} {arcs : List Arc} (h : n < 0) : checkCode n arcs = 1 := by simp [checkCode, h]
theorem checkCode_large {n : Int} {arcs : List Arc} (h : 0 ≤ n) (h1 : 4096 < n ∨ 65536 < (arcs.length : Int)) : checkCode n arcs = 5 := by simp only [checkCode, if_neg (Int.not_lt.2 h), h1, if_true]
theorem checkCode_bad {n : Int} {arcs : List Arc} (h : 0 ≤ n) (h1 : ¬ (4096 < n ∨ 65536 < (arcs.length : Int))) {k : Nat} (hk : k < arcs.length) (hb : ¬ arcOk n (arcs.getD k tArc.dflt)) : checkCode n arcs = 1 := by
  have : ¬ ∀ a ∈ arcs, arcOk n a := fun hh => hb (hh _ (mem_getD _ hk))
  simp only [checkCode, if_neg (Int.not_lt.2 h), h1, this, if_false]
theorem checkCode_ok {n : Int} {arcs : List Arc} (h : 0 ≤ n) (h1 : ¬ (4096 < n ∨ 65536 < (arcs.length : Int))) (hb : ∀ i, i < arcs.length → arcOk n (arcs.getD i tArc.dflt)) : checkCode n arcs = 0 := by
  have : ∀ a ∈ arcs, arcOk n a := fun a ha => by
    obtain ⟨i, hi, rfl⟩ := List.getElem_of_mem ha
    have := hb i hi
    simpa [List.getD, hi] using this
  simp only [checkCode, if_neg (Int.not_lt.2 h), h1, if_false, if_pos this]
theorem of_checkCode {n : Int} {arcs : List Arc} (h : checkCode n arcs = 0) : 0 ≤ n ∧ n ≤ 4096 ∧ arcs.length ≤ 65536 ∧ ∀ a ∈ arcs, arcOk n a := by
  unfold checkCode at h
  split at h
  · cases h
  · split at h
    · cases h
    · split at h
      · rename_i h1 h2 h3; exact ⟨by omega, by omega, by omega, h3⟩
      · cases h
/-- Two different nodes are connected. -/
def AdjA (arcs : List Arc) (u v : Nat) : Prop := u ≠ v ∧ ∃ a ∈ arcs, (a.src = u ∧ a.dst = v) ∨ (a.src = v ∧ a.dst = u)
theorem AdjA.symm {arcs : List Arc} {u v : Nat} (h : AdjA arcs u v) : AdjA arcs v u := ⟨fun e => h.1 e.symm, let ⟨a, ha, hh⟩ := h.2; ⟨a, ha, hh.symm⟩⟩
def setN (L : List Nat) (u v : Nat) : List Nat := L.set u (L.getD u tU64.dflt ||| 2 ^ v)
theorem setN_len (L : List Nat) (u v : Nat) : (setN L u v).length = L.length := by simp [setN]
theorem setN_bit {L : List Nat} {u v x y : Nat} (hu : u < L.length) : ib ((setN L u v).getD x tU64.dflt) y ↔ ib (L.getD x tU64.dflt) y ∨ (x = u ∧ y = v) := by
  unfold setN
  by_cases e : x = u
  · subst e
    have e2 : (L.set x (L.getD x tU64.dflt ||| 2 ^ v)).getD x tU64.dflt = L.getD x tU64.dflt ||| 2 ^ v := by simp [List.getD, hu]
    rw [e2]
    unfold ib
    rw [Nat.testBit_or, Nat.testBit_two_pow, Bool.or_eq_true, decide_eq_true_eq]
    constructor
    · rintro (h | h)
      · exact .inl h
      · exact .inr ⟨rfl, h.symm⟩
    · rintro (h | h)
      · exact .inl h
      · exact .inr h.2.symm
  · have e2 : (L.set u (L.getD u tU64.dflt ||| 2 ^ v)).getD x tU64.dflt = L.getD x tU64.dflt := by
      simp only [List.getD, List.getElem?_set, if_neg (fun h => e h.symm : ¬ u = x)]
    rw [e2]
    exact ⟨.inl, fun h => h.elim id fun hh => absurd hh.1 e⟩
def stepN (L : List Nat) (a : Arc) : List Nat := if a.src = a.dst then L else setN (setN L a.src.toNat a.dst.toNat) a.dst.toNat a.src.toNat
def nearK (n : Nat) (arcs : List Arc) (k : Nat) : List Nat := (arcs.take k).foldl stepN (List.replicate n 0)
theorem nearK_zero (n : Nat) (arcs : List Arc) : nearK n arcs 0 = List.replicate n 0 := rfl
theorem nearK_succ {n : Nat} {arcs : List Arc} {k : Nat} (h : k < arcs.length) : nearK n arcs (k + 1) = stepN (nearK n arcs k) (arcs.getD k tArc.dflt) := by
  rw [nearK, take_snoc tArc.dflt h, List.foldl_append]; rfl
theorem stepN_len (L : List Nat) (a : Arc) : (stepN L a).length = L.length := by unfold stepN; split <;> simp [setN]
theorem nearK_len {n : Nat} {arcs : List Arc} : ∀ k, k ≤ arcs.length → (nearK n arcs k).length = n
  | 0, _ => by simp [nearK]
  | k + 1, h => by rw [nearK_succ (by omega), stepN_len, nearK_len k (by omega)]
theorem nearK_bit {n : Nat} {arcs : List Arc} (hok : ∀ a ∈ arcs, arcOk n a) {x y : Nat} : ∀ k, k ≤ arcs.length → (ib ((nearK n arcs k).getD x tU64.dflt) y ↔ AdjA (arcs.take k) x y)
  | 0, _ => by
    constructor
    · intro h
      have e : (nearK n arcs 0).getD x tU64.dflt = 0 := by
        rw [nearK_zero]
        simp only [List.getD, List.getElem?_replicate]
        split <;> rfl
      rw [e] at h; simp [ib] at h
    · rintro ⟨_, a, ha, _⟩; simp at ha
  | k + 1, h => by
    have ih := nearK_bit hok (x := x) (y := y) k (by omega)
    have hl := nearK_len (n := n) (arcs := arcs) k (by omega)
    have ha := hok _ (mem_getD tArc.dflt (show k < arcs.length by omega))
    unfold arcOk at ha
    have hadj : AdjA (arcs.take (k + 1)) x y ↔ AdjA (arcs.take k) x y ∨ (x ≠ y ∧ (((arcs.getD k tArc.dflt).src = x ∧ (arcs.getD k tArc.dflt).dst = y) ∨ ((arcs.getD k tArc.dflt).src = y ∧ (arcs.getD k tArc.dflt).dst = x))) := by
      rw [take_snoc tArc.dflt (by omega)]
      unfold AdjA
      constructor
      · rintro ⟨hne, a, hm, hh⟩
        rcases List.mem_append.1 hm with hm | hm
        · exact .inl ⟨hne, a, hm, hh⟩
        · rw [List.mem_singleton.1 hm] at hh; exact .inr ⟨hne, hh⟩
      · rintro (⟨hne, a, hm, hh⟩ | ⟨hne, hh⟩)
        · exact ⟨hne, a, List.mem_append_left _ hm, hh⟩
        · exact ⟨hne, _, List.mem_append_right _ (List.mem_singleton.2 rfl), hh⟩
    rw [nearK_succ (by omega), hadj, ← ih]
    unfold stepN
    split
    · rename_i e
      refine ⟨.inl, fun h => h.elim id fun hh => ?_⟩
      omega
    · rename_i e
      rw [setN_bit (by rw [setN_len]; omega), setN_bit (by omega)]
      constructor
      · rintro ((h | h) | h)
        · exact .inl h
        · exact .inr ⟨by omega, by omega⟩
        · exact .inr ⟨by omega, by omega⟩
      · rintro (h | ⟨h1, h2 | h2⟩)
        · exact .inl (.inl h)
        · exact .inl (.inr ⟨by omega, by omega⟩)
        · exact .inr ⟨by omega, by omega⟩
def nearA (n : Nat) (arcs : List Arc) : List Nat := nearK n arcs arcs.length
def nbA (n : Nat) (arcs : List Arc) (u : Nat) : Nat := (nearA n arcs).getD u tU64.dflt
theorem nbA_bit {n : Nat} {arcs : List Arc} (hok : ∀ a ∈ arcs, arcOk n a) {x y : Nat} : ib (nbA n arcs x) y ↔ AdjA arcs x y := by
  have := nearK_bit hok (x := x) (y := y) arcs.length (Nat.le_refl _)
  rwa [List.take_length] at this
theorem AdjA.lt {n : Nat} {arcs : List Arc} (hok : ∀ a ∈ arcs, arcOk n a) {x y : Nat} (h : AdjA arcs x y) : x < n ∧ y < n := by
  obtain ⟨_, a, ha, hh⟩ := h
  have := hok a ha
  unfold arcOk at this
  rcases hh with hh | hh <;> constructor <;> omega
theorem nbA_gr {n : Nat} {arcs : List Arc} (hok : ∀ a ∈ arcs, arcOk n a) : Gr n (nbA n arcs) :=
  ⟨fun _ _ h => (nbA_bit hok).2 ((nbA_bit hok).1 h).symm, fun _ h => ((nbA_bit hok).1 h).1 rfl, fun _ _ h => (((nbA_bit hok).1 h).lt hok).2⟩
/-- Sets of nodes below n. -/
theorem lt_of_bits {C n : Nat} (h : ∀ v, ib C v → v < n) : C < 2 ^ n := Nat.lt_pow_two_of_testBit C fun i hi => Bool.eq_false_iff.2 fun hh => by have := h i hh; omega
theorem nearK_lt {n : Nat} {arcs : List Arc} (hok : ∀ a ∈ arcs, arcOk n a) {k x : Nat} (hk : k ≤ arcs.length) : (nearK n arcs k).getD x tU64.dflt < 2 ^ n := lt_of_bits fun v hv => by
  have := (nearK_bit hok k hk).1 hv
  exact (AdjA.lt (arcs := arcs.take k) (fun a ha => hok a (List.mem_of_mem_take ha)) this).2
end Go.Proofs.YtnoiagnmbipppaaDoor
/-
  What the search for maximal cliques has found, round after round, in plain Lean.
-/
namespace Go.Proofs.YtnoiagnmbipppaaDoor
open Go.Sl

theorem ib_and {a b v : Nat} : ib (a &&& b) v ↔ ib a v ∧ ib b v := by
  unfold ib; rw [Nat.testBit_and, Bool.and_eq_true]
theorem ib_orN {a b v : Nat} : ib (a ||| b) v ↔ ib a v ∨ ib b v := by
  unfold ib; rw [Nat.testBit_or, Bool.or_eq_true]
theorem ib_two {k v : Nat} : ib (2 ^ k) v ↔ v = k := by
  unfold ib; rw [Nat.testBit_two_pow, decide_eq_true_eq]; exact ⟨fun h => h.symm, fun h => h.symm⟩
theorem ib_lt64 {a v : Nat} (ha : a < 18446744073709551616) (h : ib a v) : v < 64 := Nat.lt_of_not_le fun hle => by
  unfold ib at h
  rw [Nat.testBit_lt_two_pow (Nat.lt_of_lt_of_le (show a < 2 ^ 64 from ha) (Nat.pow_le_pow_right (by decide) hle))] at h
  cases h
theorem ib_out {a b v : Nat} (ha : a < 18446744073709551616) (hb : b < 18446744073709551616) : ib (a &&& nb64 b) v ↔ ib a v ∧ ¬ ib b v := by
  rw [ib_and]
  constructor
  · rintro ⟨h1, h2⟩
    refine ⟨h1, fun h3 => ?_⟩
    unfold ib at h2 h3
    rw [nb64_bit hb, h3] at h2
    simp at h2
  · rintro ⟨h1, h2⟩
    refine ⟨h1, ?_⟩
    unfold ib at h2 ⊢
    rw [nb64_bit hb, decide_eq_true (ib_lt64 ha h1), Bool.eq_false_iff.2 h2]; rfl
theorem and_lt {a b v : Nat} (h1 : ib a v) (h2 : ¬ ib b v) : a &&& b < a := by
  have h := Nat.and_le_left (n := a) (m := b)
  have hne : a &&& b ≠ a := fun e => by
    rw [← e] at h1
    exact h2 (ib_and.1 h1).2
  omega
theorem none_zero {x : Nat} (h : x = 0) (v : Nat) : ¬ ib x v := by subst h; simp [ib]
theorem zero_none {x : Nat} (h : ∀ v, ¬ ib x v) : x = 0 := Nat.eq_of_testBit_eq fun i => by rw [Nat.zero_testBit]; exact Bool.eq_false_iff.2 (h i)
/-- What a search from l found on has found. -/
structure FindOk (n : Nat) (N : Nat → Nat) (R P l : Nat) (r : Bool) (M : List Nat) : Prop where
  nd : M.Nodup
  mem : ∀ C ∈ M, Cand n N R P C
  all : r = true → ∀ C, Cand n N R P C → C ∈ M
  le : r = true → l + M.length ≤ 4096
  gt : r = false → l + M.length = 4097
structure FI (n : Nat) (N : Nat → Nat) (R P l q p x : Nat) (M : List Nat) : Prop where
  bi : BI n N R p x
  ple : p ≤ P
  qp : ∀ v, ib q v → ib p v
  meet : ∀ C, Cand n N R p C → ∃ u, ib C u ∧ ib q u
  nd : M.Nodup
  mem : ∀ C ∈ M, Cand n N R P C ∧ ¬ Cand n N R p C
  all : ∀ C, Cand n N R P C → C ∈ M ∨ Cand n N R p C
  sub : ∀ C, Cand n N R p C → Cand n N R P C
  le : l + M.length ≤ 4096
section
variable {n : Nat} {N : Nat → Nat} {R P X l q p x : Nat} {M : List Nat}
theorem FindOk.base (h : BI n N R P X) (hP : P = 0) (hX : X = 0) (hl : l ≤ 4096) : FindOk n N R P l (decide (l + 1 ≤ 4096)) [R] where
  nd := by simp
  mem C hC := by rw [List.mem_singleton.1 hC]; exact (h.base (none_zero hP) (none_zero hX)).2 rfl
  all _ C hC := List.mem_singleton.2 ((h.base (none_zero hP) (none_zero hX)).1 hC)
  le hr := by simpa using hr
  gt hr := by simp at hr; simp; omega
theorem FI.start (hG : Gr n N) (h : BI n N R P X) {u : Nat} (hu : ib P u ∨ ib X u) (hq : ∀ v, ib q v ↔ ib P v ∧ ¬ ib (N u) v) (hl : l ≤ 4096) : FI n N R P l q P X [] where
  bi := h
  ple := Nat.le_refl _
  qp v hv := ((hq v).1 hv).1
  meet C hC := by
    obtain ⟨w, h1, h2, h3⟩ := h.pivot hG hu hC
    exact ⟨w, h1, (hq w).2 ⟨h2, h3⟩⟩
  nd := List.nodup_nil
  mem C hC := by simp at hC
  all C hC := .inr hC
  sub _ hC := hC
  le := by simpa using hl
theorem FI.step (hG : Gr n N) (h : FI n N R P l q p x M) {v R1 P1 p' x' q' : Nat} {M1 : List Nat} (hv : ib q v) (h1 : ∀ u, ib R1 u ↔ ib R u ∨ u = v) (h2 : ∀ u, ib P1 u ↔ ib p u ∧ ib (N v) u) (hf : FindOk n N R1 P1 (l + M.length) true M1)
    (hp : ∀ u, ib p' u ↔ ib p u ∧ u ≠ v) (hx : ∀ u, ib x' u ↔ ib x u ∨ u = v) (hq : ∀ u, ib q' u ↔ ib q u ∧ u ≠ v) (hple : p' ≤ p) : FI n N R P l q' p' x' (M ++ M1) := by
  have hs := fun C => h.bi.split (C := C) hG (h.qp v hv) h1 h2 hp
  refine ⟨h.bi.next (h.qp v hv) hp hx, Nat.le_trans hple h.ple, fun u hu => ?_, fun C hC => ?_, ?_, fun C hC => ?_, fun C hC => ?_, fun C hC => h.sub C ((hs C).1.2 (.inr hC)), ?_⟩
  · have := (hq u).1 hu
    exact (hp u).2 ⟨h.qp u this.1, this.2⟩
  · obtain ⟨u, a, b⟩ := h.meet C ((hs C).1.2 (.inr hC))
    have hn := (hs C).2.2 hC
    exact ⟨u, a, (hq u).2 ⟨b, fun e => hn (e ▸ a)⟩⟩
  · refine List.nodup_append.2 ⟨h.nd, hf.nd, fun a ha b hb e => ?_⟩
    subst e
    exact (h.mem a ha).2 ((hs a).1.2 (.inl (hf.mem a hb)))
  · rcases List.mem_append.1 hC with hC | hC
    · exact ⟨(h.mem C hC).1, fun hh => (h.mem C hC).2 ((hs C).1.2 (.inr hh))⟩
    · have hc := hf.mem C hC
      exact ⟨h.sub C ((hs C).1.2 (.inl hc)), fun hh => (hs C).2.2 hh ((hs C).2.1 hc)⟩
  · rcases h.all C hC with hh | hh
    · exact .inl (List.mem_append_left _ hh)
    · rcases (hs C).1.1 hh with hh | hh
      · exact .inl (List.mem_append_right _ (hf.all rfl C hh))
      · exact .inr hh
  · have := hf.le rfl
    rw [List.length_append]; omega
theorem FI.fail (hG : Gr n N) (h : FI n N R P l q p x M) {v R1 P1 : Nat} {M1 : List Nat} (hv : ib q v) (h1 : ∀ u, ib R1 u ↔ ib R u ∨ u = v) (h2 : ∀ u, ib P1 u ↔ ib p u ∧ ib (N v) u) (hf : FindOk n N R1 P1 (l + M.length) false M1) :
    FindOk n N R P l false (M ++ M1) := by
  have hs := fun C => (h.bi.split (C := C) (P2 := p &&& (p ^^^ 2 ^ v)) hG (h.qp v hv) h1 h2 (fun u => by
    unfold ib
    rw [Nat.testBit_and, Nat.testBit_xor, Nat.testBit_two_pow]
    by_cases e : u = v
    · subst e
      have hp : p.testBit u = true := h.qp u hv
      simp [hp]
    · have e2 : ¬ v = u := fun hh => e hh.symm
      simp [e, e2])).1.2
  refine ⟨List.nodup_append.2 ⟨h.nd, hf.nd, fun a ha b hb e => ?_⟩, fun C hC => ?_, fun hr => (by cases hr), fun hr => (by cases hr), fun _ => ?_⟩
  · subst e
    exact (h.mem a ha).2 (hs a (.inl (hf.mem a hb)))
  · rcases List.mem_append.1 hC with hC | hC
    · exact (h.mem C hC).1
    · exact h.sub C (hs C (.inl (hf.mem C hC)))
  · have := hf.gt rfl
    rw [List.length_append]; omega
theorem FI.done (h : FI n N R P l q p x M) (hq : q = 0) : FindOk n N R P l true M := by
  have hno : ∀ C, ¬ Cand n N R p C := fun C hC => by
    obtain ⟨u, _, hu⟩ := h.meet C hC
    exact none_zero hq u hu
  exact ⟨h.nd, fun C hC => (h.mem C hC).1, fun _ C hC => (h.all C hC).elim id fun hh => absurd hh (hno C), fun _ => h.le, fun hr => (by cases hr)⟩
end
end Go.Proofs.YtnoiagnmbipppaaDoor
/-
  Every clique lies in a maximal one.
-/
namespace Go.Proofs.YtnoiagnmbipppaaDoor
open Go.Sl
/-- Every clique lies in a maximal one. -/
structure CliqM (n : Nat) (N : Nat → Nat) (C : Nat) : Prop where
  bd : ∀ v, ib C v → v < n
  clq : ∀ u v, ib C u → ib C v → u ≠ v → ib (N u) v
theorem ib_or {x v u : Nat} : ib (x ||| 2 ^ v) u ↔ ib x u ∨ u = v := by
  unfold ib
  rw [Nat.testBit_or, Nat.testBit_two_pow, Bool.or_eq_true, decide_eq_true_eq]
  constructor
  · rintro (h | h)
    · exact .inl h
    · exact .inr h.symm
  · rintro (h | h)
    · exact .inl h
    · exact .inr h.symm
theorem clq_grow {n : Nat} {N : Nat → Nat} (hG : Gr n N) : ∀ (m : Nat) (C : Nat), CliqM n N C → 2 ^ n - C ≤ m → ∃ C', MaxC n N C' ∧ ∀ v, ib C v → ib C' v := by
  intro m
  induction m with
  | zero =>
    intro C hC hm
    exfalso
    have : C < 2 ^ n := Nat.lt_pow_two_of_testBit C fun i hi => Bool.eq_false_iff.2 fun h => by have := hC.bd i h; omega
    omega
  | succ m ih =>
    intro C hC hm
    by_cases hx : ∃ u, u < n ∧ ¬ ib C u ∧ ∀ v, ib C v → ib (N u) v
    · obtain ⟨u, hu, hnu, hall⟩ := hx
      have hgt : C < C ||| 2 ^ u := by
        have h1 : C ≤ C ||| 2 ^ u := Nat.left_le_or
        have h2 : C ≠ C ||| 2 ^ u := fun e => hnu (by rw [e]; exact ib_or.2 (.inr rfl))
        omega
      have hC2 : CliqM n N (C ||| 2 ^ u) := ⟨fun v hv => by
          rcases ib_or.1 hv with hv | rfl
          · exact hC.bd v hv
          · exact hu, fun a b ha hb hab => by
          rcases ib_or.1 ha with ha' | ea
          · rcases ib_or.1 hb with hb' | eb
            · exact hC.clq a b ha' hb' hab
            · rw [eb]; exact hG.sym _ _ (hall a ha')
          · rcases ib_or.1 hb with hb' | eb
            · rw [ea]; exact hall b hb'
            · exact absurd (ea.trans eb.symm) hab⟩
      have hlt : C < 2 ^ n := Nat.lt_pow_two_of_testBit C fun i hi => Bool.eq_false_iff.2 fun h => by have := hC.bd i h; omega
      obtain ⟨C', h1, h2⟩ := ih _ hC2 (by omega)
      exact ⟨C', h1, fun v hv => h2 v (ib_or.2 (.inl hv))⟩
    · exact ⟨C, ⟨hC.bd, hC.clq, fun u hu hnu => Classical.byContradiction fun hno => hx ⟨u, hu, hnu, fun v hv => Classical.byContradiction fun hh => hno ⟨v, hv, hh⟩⟩⟩, fun v hv => hv⟩
/-- The list of the maximal cliques. -/
def CliqL (n : Nat) (N : Nat → Nat) (Cs : List (List Int)) : Prop := ∀ l, l ∈ Cs ↔ ∃ C, MaxC n N C ∧ l = bitsK C n
end Go.Proofs.YtnoiagnmbipppaaDoor
/-
  Groups of three nodes, in plain Lean: the graph, and its 3^g maximal cliques.
-/
namespace Go.Proofs.YtnoiagnmbipppaaDoor
open Go.Sl

theorem sub_len {α : Type} [DecidableEq α] : ∀ {L M : List α}, L.Nodup → (∀ x ∈ L, x ∈ M) → L.length ≤ M.length
  | [], _, _, _ => Nat.zero_le _
  | x :: L, M, hd, h => by
    obtain ⟨h1, h2⟩ := List.nodup_cons.1 hd
    have hx := h x List.mem_cons_self
    have h3 := sub_len (L := L) (M := M.erase x) h2 fun y hy => (List.mem_erase_of_ne (fun (e : y = x) => by subst e; exact h1 hy)).2 (h y (List.mem_cons_of_mem _ hy))
    rw [List.length_erase_of_mem hx] at h3
    have := List.length_pos_of_mem hx
    simp only [List.length_cons]
    omega
def cliqsG : Nat → List Nat
  | 0 => [0]
  | g + 1 => (cliqsG g).flatMap fun C => [C ||| 2 ^ (3 * g), C ||| 2 ^ (3 * g + 1), C ||| 2 ^ (3 * g + 2)]
theorem len_fm3 {f : Nat → List Nat} (h : ∀ x, (f x).length = 3) : ∀ l : List Nat, (l.flatMap f).length = 3 * l.length
  | [] => rfl
  | x :: l => by rw [List.flatMap_cons, List.length_append, len_fm3 h l, h x, List.length_cons]; omega
theorem cliqsG_len : ∀ g, (cliqsG g).length = 3 ^ g
  | 0 => rfl
  | g + 1 => by
    have := cliqsG_len g
    rw [cliqsG, len_fm3 (fun _ => rfl), this, Nat.pow_succ]; omega
structure GrpC (g C : Nat) : Prop where
  bd : ∀ v, ib C v → v < 3 * g
  one : ∀ i, i < g → ∃ w, w < 3 ∧ ib C (3 * i + w) ∧ ∀ w', w' < 3 → ib C (3 * i + w') → w' = w
theorem grp_add {g C w : Nat} (h : GrpC g C) (hw : w < 3) : GrpC (g + 1) (C ||| 2 ^ (3 * g + w)) := by
  refine ⟨fun v hv => ?_, fun i hi => ?_⟩
  · rcases ib_orN.1 hv with hv | hv
    · have := h.bd v hv; omega
    · have := ib_two.1 hv; omega
  · by_cases e : i = g
    · refine ⟨w, hw, ib_orN.2 (.inr (ib_two.2 (by omega))), fun w' hw' hb => ?_⟩
      rcases ib_orN.1 hb with hb | hb
      · have := h.bd _ hb; omega
      · have := ib_two.1 hb; omega
    · obtain ⟨x, hx, hb, hu⟩ := h.one i (by omega)
      refine ⟨x, hx, ib_orN.2 (.inl hb), fun w' hw' hb => ?_⟩
      rcases ib_orN.1 hb with hb | hb
      · exact hu w' hw' hb
      · have := ib_two.1 hb; omega
theorem grp_cut {g C : Nat} (h : GrpC (g + 1) C) : ∃ C0 w, w < 3 ∧ GrpC g C0 ∧ C = C0 ||| 2 ^ (3 * g + w) := by
  obtain ⟨w, hw, hb, hu⟩ := h.one g (by omega)
  have hm : ∀ v, ib (C % 2 ^ (3 * g)) v ↔ v < 3 * g ∧ ib C v := fun v => by
    unfold ib; rw [Nat.testBit_mod_two_pow, Bool.and_eq_true, decide_eq_true_eq]
  refine ⟨C % 2 ^ (3 * g), w, hw, ⟨fun v hv => ((hm v).1 hv).1, fun i hi => ?_⟩, ?_⟩
  · obtain ⟨x, hx, hbx, hux⟩ := h.one i (by omega)
    exact ⟨x, hx, (hm _).2 ⟨by omega, hbx⟩, fun w' hw' hb' => hux w' hw' ((hm _).1 hb').2⟩
  · apply Nat.eq_of_testBit_eq
    intro v
    apply Bool.eq_iff_iff.2
    show ib C v ↔ ib (C % 2 ^ (3 * g) ||| 2 ^ (3 * g + w)) v
    rw [ib_orN, ib_two, hm]
    constructor
    · intro hv
      by_cases e : v < 3 * g
      · exact .inl ⟨e, hv⟩
      · have h1 := h.bd v hv
        have := hu (v - 3 * g) (by omega) (by rw [show 3 * g + (v - 3 * g) = v by omega]; exact hv)
        exact .inr (by omega)
    · rintro (h1 | h1)
      · exact h1.2
      · rw [h1]; exact hb
theorem mem_cliqsG : ∀ {g C : Nat}, C ∈ cliqsG g ↔ GrpC g C
  | 0, C => by
    rw [cliqsG, List.mem_singleton]
    constructor
    · rintro rfl; exact ⟨fun v hv => absurd hv (none_zero rfl v), fun i hi => absurd hi (Nat.not_lt_zero _)⟩
    · intro h; exact zero_none fun v hv => by have := h.bd v hv; omega
  | g + 1, C => by
    rw [cliqsG, List.mem_flatMap]
    constructor
    · rintro ⟨C0, h0, h1⟩
      have h0 := mem_cliqsG.1 h0
      simp only [List.mem_cons, List.not_mem_nil, or_false] at h1
      rcases h1 with rfl | rfl | rfl
      · exact grp_add (w := 0) h0 (by decide)
      · exact grp_add (w := 1) h0 (by decide)
      · exact grp_add (w := 2) h0 (by decide)
    · intro h
      obtain ⟨C0, w, hw, h0, rfl⟩ := grp_cut h
      refine ⟨C0, mem_cliqsG.2 h0, ?_⟩
      have : w = 0 ∨ w = 1 ∨ w = 2 := by omega
      rcases this with rfl | rfl | rfl <;> simp
theorem or_low {g A B x y : Nat} (hA : ∀ v, ib A v → v < 3 * g) (hB : ∀ v, ib B v → v < 3 * g) (hx : 3 * g ≤ x) (hy : 3 * g ≤ y) (h : A ||| 2 ^ x = B ||| 2 ^ y) : A = B ∧ x = y := by
  have h1 : ∀ v, (ib A v ∨ v = x) ↔ (ib B v ∨ v = y) := fun v => by
    rw [← ib_two (k := x), ← ib_two (k := y), ← ib_orN, ← ib_orN, h]
  constructor
  · apply Nat.eq_of_testBit_eq
    intro v
    apply Bool.eq_iff_iff.2
    show ib A v ↔ ib B v
    constructor
    · intro hv
      rcases (h1 v).1 (.inl hv) with h2 | h2
      · exact h2
      · have := hA v hv; omega
    · intro hv
      rcases (h1 v).2 (.inl hv) with h2 | h2
      · exact h2
      · have := hB v hv; omega
  · rcases (h1 x).1 (.inr rfl) with h2 | h2
    · have := hB x h2; omega
    · exact h2
theorem cliqsG_nodup : ∀ g, (cliqsG g).Nodup
  | 0 => by simp [cliqsG]
  | g + 1 => by
    have ih := cliqsG_nodup g
    rw [cliqsG]
    refine List.pairwise_flatMap.2 ⟨fun A hA => ?_, ?_⟩
    · have hb := (mem_cliqsG.1 hA).bd
      have key : ∀ {x y : Nat}, 3 * g ≤ x → 3 * g ≤ y → x ≠ y → A ||| 2 ^ x ≠ A ||| 2 ^ y := fun hx hy hne e => hne (or_low hb hb hx hy e).2
      have k1 := key (x := 3 * g) (y := 3 * g + 1) (by omega) (by omega) (by omega)
      have k2 := key (x := 3 * g) (y := 3 * g + 2) (by omega) (by omega) (by omega)
      have k3 := key (x := 3 * g + 1) (y := 3 * g + 2) (by omega) (by omega) (by omega)
      refine List.pairwise_cons.2 ⟨fun b hb => ?_, List.pairwise_cons.2 ⟨fun b hb => ?_, List.pairwise_singleton _ _⟩⟩
      · simp only [List.mem_cons, List.not_mem_nil, or_false] at hb
        rcases hb with rfl | rfl
        · exact k1
        · exact k2
      · rw [List.mem_singleton.1 hb]; exact k3
    · refine List.Pairwise.imp_of_mem (fun {A B} hA hB hne x hx y hy e => ?_) ih
      have bA := (mem_cliqsG.1 hA).bd
      have bB := (mem_cliqsG.1 hB).bd
      have ex : ∃ p, 3 * g ≤ p ∧ x = A ||| 2 ^ p := by
        simp only [List.mem_cons, List.not_mem_nil, or_false] at hx
        rcases hx with rfl | rfl | rfl
        · exact ⟨_, Nat.le_refl _, rfl⟩
        · exact ⟨_, by omega, rfl⟩
        · exact ⟨_, by omega, rfl⟩
      have ey : ∃ p, 3 * g ≤ p ∧ y = B ||| 2 ^ p := by
        simp only [List.mem_cons, List.not_mem_nil, or_false] at hy
        rcases hy with rfl | rfl | rfl
        · exact ⟨_, Nat.le_refl _, rfl⟩
        · exact ⟨_, by omega, rfl⟩
        · exact ⟨_, by omega, rfl⟩
      obtain ⟨p, hp, rfl⟩ := ex
      obtain ⟨q, hq, rfl⟩ := ey
      exact hne (or_low bA bB hp hq e).1
theorem maxG {g : Nat} {N : Nat → Nat} (hN : ∀ u v, ib (N u) v ↔ u < 3 * g ∧ v < 3 * g ∧ u / 3 ≠ v / 3) {C : Nat} : MaxC (3 * g) N C ↔ GrpC g C := by
  constructor
  · intro h
    refine ⟨h.bd, fun i hi => ?_⟩
    have hex : ∃ w, w < 3 ∧ ib C (3 * i + w) := by
      by_cases h0 : ib C (3 * i)
      · exact ⟨0, by decide, h0⟩
      · obtain ⟨v, hv, hn⟩ := h.max (3 * i) (by omega) h0
        have hb := h.bd v hv
        rw [hN] at hn
        have : v / 3 = i := by omega
        exact ⟨v - 3 * i, by omega, by rw [show 3 * i + (v - 3 * i) = v by omega]; exact hv⟩
    obtain ⟨w, hw, hb⟩ := hex
    refine ⟨w, hw, hb, fun w' hw' hb' => Classical.byContradiction fun hne => ?_⟩
    have := (hN _ _).1 (h.clq _ _ hb' hb (by omega))
    omega
  · intro h
    refine ⟨h.bd, fun u v hu hv hne => (hN _ _).2 ⟨h.bd u hu, h.bd v hv, fun e => ?_⟩, fun u hu hnu => ?_⟩
    · have b1 := h.bd u hu
      obtain ⟨w, _, _, hun⟩ := h.one (u / 3) (by omega)
      have e1 := hun (u - 3 * (u / 3)) (by omega) (by rw [show 3 * (u / 3) + (u - 3 * (u / 3)) = u by omega]; exact hu)
      have e2 := hun (v - 3 * (u / 3)) (by omega) (by rw [show 3 * (u / 3) + (v - 3 * (u / 3)) = v by omega]; exact hv)
      omega
    · obtain ⟨w, hw, hb, _⟩ := h.one (u / 3) (by omega)
      exact ⟨_, hb, fun hh => by have := (hN _ _).1 hh; omega⟩
theorem LexS.nodup {L : List (List Int)} (h : LexS L) : L.Nodup := h.imp fun {a b} hab e => by rw [e, lexC_self] at hab; omega
theorem countG {g : Nat} {N : Nat → Nat} (hN : ∀ u v, ib (N u) v ↔ u < 3 * g ∧ v < 3 * g ∧ u / 3 ≠ v / 3) {Cs : List (List Int)} (h1 : LexS Cs) (h2 : CliqL (3 * g) N Cs) : Cs.length = 3 ^ g := by
  have hm : ∀ x, x ∈ (cliqsG g).map (fun C => bitsK C (3 * g)) ↔ x ∈ Cs := fun x => by
    rw [h2, List.mem_map]
    constructor
    · rintro ⟨C, hC, rfl⟩; exact ⟨C, (maxG hN).2 (mem_cliqsG.1 hC), rfl⟩
    · rintro ⟨C, hC, rfl⟩; exact ⟨C, mem_cliqsG.2 ((maxG hN).1 hC), rfl⟩
  have hd : ((cliqsG g).map fun C => bitsK C (3 * g)).Nodup := by
    refine List.pairwise_map.2 (List.Pairwise.imp_of_mem (fun ha hb hne e => ?_) (cliqsG_nodup g))
    exact hne (bitsK_inj (mem_cliqsG.1 ha).bd (mem_cliqsG.1 hb).bd e)
  have a1 := sub_len hd fun x hx => (hm x).1 hx
  have a2 := sub_len h1.nodup fun x hx => (hm x).2 hx
  rw [List.length_map, cliqsG_len] at a1 a2
  omega
theorem fullG {g : Nat} {N : Nat → Nat} (hN : ∀ u v, ib (N u) v ↔ u < 3 * g ∧ v < 3 * g ∧ u / 3 ≠ v / 3) {M : List Nat} (h1 : M.Nodup) (h2 : ∀ C ∈ M, MaxC (3 * g) N C) : M.length ≤ 3 ^ g := by
  rw [← cliqsG_len g]
  exact sub_len h1 fun C hC => mem_cliqsG.2 ((maxG hN).1 (h2 C hC))
/-! ### The arcs -/
def arcW (i v w : Nat) : List Arc := (List.range w).map fun (k : Nat) => ⟨3 * (i : Int) + k, v, 0⟩
def arcV (i v : Nat) : List Arc := (List.range v).flatMap fun v => arcW i v 3
def arcI (g : Nat) : List Arc := (List.range g).flatMap fun i => arcV i (3 * i)
theorem arcW_len (i v w : Nat) : (arcW i v w).length = w := by simp [arcW]
theorem arcW_succ (i v w : Nat) : arcW i v (w + 1) = arcW i v w ++ [⟨3 * (i : Int) + w, v, 0⟩] := by simp [arcW, List.range_succ]
theorem arcV_succ (i v : Nat) : arcV i (v + 1) = arcV i v ++ arcW i v 3 := by simp [arcV, List.range_succ]
theorem arcI_succ (g : Nat) : arcI (g + 1) = arcI g ++ arcV g (3 * g) := by simp [arcI, List.range_succ]
theorem arcV_len (i : Nat) : ∀ v, (arcV i v).length = 3 * v
  | 0 => rfl
  | v + 1 => by rw [arcV_succ, List.length_append, arcV_len i v, arcW_len]; omega
theorem arcI_len : ∀ g, g ≤ 9 → (arcI g).length ≤ 81 * g
  | 0, _ => Nat.le_refl _
  | g + 1, h => by
    have := arcI_len g (by omega)
    rw [arcI_succ, List.length_append, arcV_len]; omega
theorem mem_arcI {g : Nat} {a : Arc} : a ∈ arcI g ↔ ∃ i v w : Nat, i < g ∧ v < 3 * i ∧ w < 3 ∧ a = ⟨3 * (i : Int) + w, v, 0⟩ := by
  simp only [arcI, arcV, arcW, List.mem_flatMap, List.mem_map, List.mem_range]
  constructor
  · rintro ⟨i, hi, v, hv, w, hw, rfl⟩; exact ⟨i, v, w, hi, hv, hw, rfl⟩
  · rintro ⟨i, v, w, hi, hv, hw, rfl⟩; exact ⟨i, hi, v, hv, w, hw, rfl⟩
theorem arcI_ok {g : Nat} : ∀ a ∈ arcI g, arcOk ((3 * g : Nat) : Int) a := fun a ha => by
  obtain ⟨i, v, w, hi, hv, hw, rfl⟩ := mem_arcI.1 ha
  unfold arcOk
  simp only
  omega
theorem arcI_adj {g u v : Nat} : AdjA (arcI g) u v ↔ u < 3 * g ∧ v < 3 * g ∧ u / 3 ≠ v / 3 := by
  constructor
  · rintro ⟨hne, a, ha, hh⟩
    obtain ⟨i, x, w, hi, hx, hw, rfl⟩ := mem_arcI.1 ha
    simp only at hh
    omega
  · rintro ⟨hu, hv, hne⟩
    refine ⟨fun e => hne (by rw [e]), ?_⟩
    rcases Nat.lt_trichotomy (u / 3) (v / 3) with h | h | h
    · exact ⟨_, mem_arcI.2 ⟨v / 3, u, v % 3, by omega, by omega, by omega, rfl⟩, .inr ⟨by simp only; omega, rfl⟩⟩
    · exact absurd h hne
    · exact ⟨_, mem_arcI.2 ⟨u / 3, v, u % 3, by omega, by omega, by omega, rfl⟩, .inl ⟨by simp only; omega, rfl⟩⟩
end Go.Proofs.YtnoiagnmbipppaaDoor
