/-
  When a task is right, in plain Lean.
-/
import Derived.Test.YtlgombjhcpgleaaTTask
namespace Go.Proofs.Ytlgombjhcpgleaa
open Go.Sl

theorem mem_getD {α : Type} {xs : List α} {i : Nat} (d : α) (h : i < xs.length) : xs.getD i d ∈ xs := by simp [List.getD, h]
theorem getD_at {α : Type} {l : List α} {d : α} {i : Nat} (h : i < l.length) : l.getD i d = l[i] := by simp [List.getD, h]
theorem iffF {p : Prop} (h : ¬ p) : (false = true) ↔ p := ⟨(fun e => by cases e), fun e => absurd e h⟩
theorem iffT {p : Prop} (h : p) : (true = true) ↔ p := ⟨fun _ => h, fun _ => rfl⟩
def StateOk (vars s : List Int) : Prop := s.length = vars.length ∧ ∀ i, i < s.length → 0 ≤ s.getD i tInt.dflt ∧ s.getD i tInt.dflt < vars.getD i tInt.dflt
def FactOk (vars : List Int) (x : Fact) : Prop := 0 ≤ x.var ∧ x.var < vars.length ∧ 0 ≤ x.val ∧ x.val < vars.getD x.var.toNat tInt.dflt
def FactsOk (vars : List Int) (f : List Fact) : Prop := ∀ i, i < f.length → FactOk vars (f.getD i tFact.dflt) ∧ (0 < i → (f.getD (i - 1) tFact.dflt).var < (f.getD i tFact.dflt).var)
def NameOk (b : ByteArray) : Prop := b.size ≤ 256 ∧ ∀ i, i < b.size → 32 ≤ bat b i ∧ bat b i ≤ 126
def EffOk (vars : List Int) (e : Eff) : Prop := FactsOk vars e.when ∧ FactsOk vars [⟨e.var, e.val⟩]
structure OpOk (vars : List Int) (o : TOp) : Prop where
  cost0 : 0 ≤ o.cost
  cost1 : o.cost ≤ 1048576
  effs : o.effs.length ≤ 64
  name : NameOk o.name
  pre : FactsOk vars o.pre
  eff : ∀ i, i < o.effs.length → EffOk vars (o.effs.getD i dEff)
structure GoodT (t : TTask) : Prop where
  vars : t.vars.length ≤ 64
  ops : t.ops.length ≤ 4096
  dom : ∀ i, i < t.vars.length → 1 ≤ t.vars.getD i tInt.dflt ∧ t.vars.getD i tInt.dflt ≤ 64
  init : StateOk t.vars t.init
  goal : FactsOk t.vars t.goal
  op : ∀ i, i < t.ops.length → OpOk t.vars (t.ops.getD i dOp)
def prodL (vars : List Int) : Int := vars.foldl (· * ·) 1
structure SmallT (t : TTask) : Prop where
  good : GoodT t
  vars : t.vars.length ≤ 12
  ops : t.ops.length ≤ 20
  effs : ∀ i, i < t.ops.length → (t.ops.getD i dOp).effs.length ≤ 8
  many : prodL t.vars ≤ 512
/-- A fact holds in a state. -/
def HoldF (s : List Int) (x : Fact) : Prop := 0 ≤ x.var ∧ x.var < s.length ∧ s.getD x.var.toNat tInt.dflt = x.val
def HoldFs (s : List Int) (f : List Fact) : Prop := ∀ i, i < f.length → HoldF s (f.getD i tFact.dflt)
theorem prodL_snoc (l : List Int) (x : Int) : prodL (l ++ [x]) = prodL l * x := by simp [prodL]
theorem take_snoc {α : Type} {l : List α} {k : Nat} (d : α) (h : k < l.length) : l.take (k + 1) = l.take k ++ [l.getD k d] := by
  rw [List.take_succ_eq_append_getElem h]; simp [List.getD, h]
theorem prodL_pos {l : List Int} (h : ∀ x ∈ l, 1 ≤ x) : 1 ≤ prodL l := by
  have key : ∀ (l : List Int) (a : Int), 1 ≤ a → (∀ x ∈ l, 1 ≤ x) → 1 ≤ l.foldl (· * ·) a := by
    intro l
    induction l with
    | nil => intro a ha _; exact ha
    | cons x l ih =>
      intro a ha hl
      refine ih (a * x) ?_ fun y hy => hl y (List.mem_cons_of_mem _ hy)
      have hx := hl x List.mem_cons_self
      have := Int.mul_le_mul ha hx (by omega) (by omega)
      simpa using this
  exact key l 1 (Int.le_refl _) h
theorem prodL_mono {l m : List Int} (hm : ∀ x ∈ m, 1 ≤ x) (hl : ∀ x ∈ l, 1 ≤ x) : prodL l ≤ prodL (l ++ m) := by
  induction m generalizing l with
  | nil => simp
  | cons x m ih =>
    have h1 := ih (l := l ++ [x]) (fun y hy => hm y (List.mem_cons_of_mem _ hy)) (fun y hy => by
      rcases List.mem_append.1 hy with h | h
      · exact hl y h
      · rw [List.mem_singleton.1 h]; exact hm x List.mem_cons_self)
    rw [prodL_snoc] at h1
    have h2 := prodL_pos hl
    have h3 := hm x List.mem_cons_self
    have h4 : prodL l * 1 ≤ prodL l * x := Int.mul_le_mul_of_nonneg_left h3 (by omega)
    have e : l ++ [x] ++ m = l ++ x :: m := by simp
    rw [e] at h1
    omega
end Go.Proofs.Ytlgombjhcpgleaa
