
/-
  How the arguments of the statements are read: tasks, lists of numbers, small numbers.
-/
import Derived.Test.YtgbijampdkahjaaRows
import Derived.Test.YtgbijampdkahjaaMTA
import Derived.Test.YtgbijampdkahjaaMSlB
import Derived.Test.YtgbijampdkahjaaTypes
import Derived.ProofKit
import Derived.ChangeOld
import Derived.Carry
import Derived.OpenShut
set_option linter.unusedSimpArgs false
set_option linter.unusedVariables false
namespace Go.Proofs.Ytgbijampdkahjaa
open Go.Sl Go.ChangeShapes Go.WideShapes Go.ChangeAt Go.RowKit

theorem own : ownKnob Try.prog.godebug = none := by kernel_rfl
theorem laidOut : laidOutB Try.prog = true := by kernel_rfl
theorem cells_int : Try.prog.cellsOf 3 = 1 := by kernel_rfl
theorem cells_str : Try.prog.cellsOf 9 = 1 := by kernel_rfl
theorem cells_fact : Try.prog.cellsOf 89 = 2 := by kernel_rfl
theorem cells_facts : Try.prog.cellsOf 23 = 1 := by kernel_rfl
theorem cells_eff : Try.prog.cellsOf 87 = 3 := by kernel_rfl
theorem cells_effs : Try.prog.cellsOf 29 = 1 := by kernel_rfl
theorem cells_op : Try.prog.cellsOf 31 = 4 := by kernel_rfl
theorem cells_ops : Try.prog.cellsOf 24 = 1 := by kernel_rfl
theorem cells_ints : Try.prog.cellsOf 22 = 1 := by kernel_rfl
theorem cells_task : Try.prog.cellsOf 26 = 4 := by kernel_rfl

theorem wf_int {n : Int} (h : (Lit.int .i64 n).wf = true) : -9223372036854775808 ≤ n ∧ n ≤ 9223372036854775807 := by
  simpa [Lit.wf, IntKind.min, IntKind.max, IntKind.signed, IntKind.bits] using h
section
variable {H : Type} {enc : TypeId × Value → H} {w : World} {base : Nat} {spare : Nat → Bool} {held : Bool}
theorem rd_fact : Rd enc Try.prog w base spare held 89 tFact fun _ => True := by
  intro fuel cs y h
  have hl := rd_len (i := 0) inferInstance cells_fact h
  match cs, hl with
  | [c0, c1], _ =>
    obtain ⟨_, _, h0⟩ := rd_field (i := 0) inferInstance cells_int h
    obtain ⟨_, _, h1⟩ := rd_field (i := 1) inferInstance cells_int h
    obtain ⟨x0, e0, _⟩ := rd_int Try.underlying3 _ _ _ h0
    obtain ⟨x1, e1, _⟩ := rd_int Try.underlying3 _ _ _ h1
    simp [tInt] at e0 e1
    subst e0 e1
    exact ⟨⟨x0, x1⟩, rfl, trivial⟩
theorem rd_eff : Rd enc Try.prog w base spare held 87 tEff fun x => ∃ e, REff w x e := by
  intro fuel cs y h
  have hl := rd_len (i := 0) inferInstance cells_eff h
  match cs, hl with
  | [c0, c1, c2], _ =>
    obtain ⟨_, _, h0⟩ := rd_field (i := 0) inferInstance cells_facts h
    obtain ⟨_, _, h1⟩ := rd_field (i := 1) inferInstance cells_int h
    obtain ⟨_, _, h2⟩ := rd_field (i := 2) inferInstance cells_int h
    obtain ⟨a, e0, f, hf, _⟩ := rd_slice Try.underlying23 cells_fact (by decide) rd_fact _ _ _ h0
    obtain ⟨x1, e1, _⟩ := rd_int Try.underlying3 _ _ _ h1
    obtain ⟨x2, e2, _⟩ := rd_int Try.underlying3 _ _ _ h2
    simp [tInt, tVal] at e0 e1 e2
    subst e0 e1 e2
    exact ⟨⟨c0, x1, x2⟩, rfl, ⟨f, x1, x2⟩, rfl, rfl, hf⟩
/-- Behind each value something that it stands for. -/
theorem list_of_all {α β : Type} {Q : α → β → Prop} : ∀ (xs : List α), (∀ x ∈ xs, ∃ y, Q x y) → ∃ ys : List β, xs.length = ys.length ∧ ∀ (i : Nat) x y, xs[i]? = some x → ys[i]? = some y → Q x y
  | [], _ => ⟨[], rfl, by simp⟩
  | x :: xs, h => by
    obtain ⟨ys, hl, hq⟩ := list_of_all xs fun x hx => h x (by simp [hx])
    obtain ⟨y, hy⟩ := h x (by simp)
    refine ⟨y :: ys, by simp [hl], fun i a b ha hb => ?_⟩
    cases i with
    | zero => simp at ha hb; subst ha hb; exact hy
    | succ i => simp at ha hb; exact hq i a b ha hb
theorem rd_effs {s : Value} {vs : List EffV} (hs : RS tEff w s vs) (h : ∀ x ∈ vs, ∃ e, REff w x e) : ∃ es, REffs w s vs es := by
  obtain ⟨es, hl, hq⟩ := list_of_all vs h
  refine ⟨es, hs, hl, fun i hi => ?_⟩
  rw [eget_eq]
  exact hq i _ _ (by simp [List.getD, show i < vs.length by omega]) (by simp [List.getD, hi])
theorem rd_op : Rd enc Try.prog w base spare held 31 tOp fun x => ∃ o, ROp w x o := by
  intro fuel cs y h
  have hl := rd_len (i := 0) inferInstance cells_op h
  match cs, hl with
  | [c0, c1, c2, c3], _ =>
    obtain ⟨_, _, h0⟩ := rd_field (i := 0) inferInstance cells_str h
    obtain ⟨_, _, h1⟩ := rd_field (i := 1) inferInstance cells_int h
    obtain ⟨_, _, h2⟩ := rd_field (i := 2) inferInstance cells_facts h
    obtain ⟨_, _, h3⟩ := rd_field (i := 3) inferInstance cells_effs h
    obtain ⟨x1, e1, _⟩ := rd_int Try.underlying3 _ _ _ h1
    obtain ⟨a2, e2, f, hf, _⟩ := rd_slice Try.underlying23 cells_fact (by decide) rd_fact _ _ _ h2
    obtain ⟨a3, e3, xs, hx, hg⟩ := rd_slice Try.underlying29 cells_eff (by decide) rd_eff _ _ _ h3
    obtain ⟨nm, e0, _, hnm⟩ := DataW.trod_string Try.underlying9 h0
    simp [tInt, tVal] at e0 e1 e2 e3
    subst e0 e1 e2 e3
    obtain ⟨es, hes⟩ := rd_effs hx hg
    exact ⟨⟨nm, x1, c2, c3⟩, rfl, ⟨nm, x1, f, es⟩, rfl, hnm, rfl, hf, xs, hes⟩
theorem rd_ops {s : Value} {vs : List OpV} (hs : RS tOp w s vs) (h : ∀ x ∈ vs, ∃ o, ROp w x o) : ∃ os, ROps w s vs os := by
  obtain ⟨os, hl, hq⟩ := list_of_all vs h
  refine ⟨os, hs, hl, fun i hi => ?_⟩
  rw [eget_eq]
  exact hq i _ _ (by simp [List.getD, show i < vs.length by omega]) (by simp [List.getD, hi])
set_option maxRecDepth 100000 in
theorem rd_task {v : Value} {r : Reach} {b0 : Nat} {d : DataW H} {p : List MemPlace} (hv : Value.okWide Try.prog w r b0 26 v) (h : DataW.Trod enc Try.prog w base spare held 26 v d p) :
    ∃ a b c d vs t, v = .agg #[a, b, c, d] ∧ RTask w a b c d vs t := by
  obtain ⟨cs, rfl, _⟩ := okWide_struct Try.underlying26 hv
  obtain ⟨fuel, h⟩ := h
  obtain ⟨l⟩ := cs
  have hl := rd_len (i := 0) inferInstance cells_task h
  simp only [Value.cells] at hl h
  match l, hl with
  | [c0, c1, c2, c3], _ =>
    obtain ⟨_, _, h0⟩ := rd_field (i := 0) inferInstance cells_ints h
    obtain ⟨_, _, h1⟩ := rd_field (i := 1) inferInstance cells_ints h
    obtain ⟨_, _, h2⟩ := rd_field (i := 2) inferInstance cells_facts h
    obtain ⟨_, _, h3⟩ := rd_field (i := 3) inferInstance cells_ops h
    obtain ⟨a0, e0, vars, hvars, _⟩ := rd_slice Try.underlying22 cells_int (by decide) (rd_int Try.underlying3) _ _ _ h0
    obtain ⟨a1, e1, ini, hini, _⟩ := rd_slice Try.underlying22 cells_int (by decide) (rd_int Try.underlying3) _ _ _ h1
    obtain ⟨a2, e2, f, hf, _⟩ := rd_slice Try.underlying23 cells_fact (by decide) rd_fact _ _ _ h2
    obtain ⟨a3, e3, xs, hx, hg⟩ := rd_slice Try.underlying24 cells_op (by decide) rd_op _ _ _ h3
    simp [tVal] at e0 e1 e2 e3
    subst e0 e1 e2 e3
    obtain ⟨os, hos⟩ := rd_ops hx hg
    exact ⟨c0, c1, c2, c3, xs, ⟨vars, ini, f, os⟩, rfl, hvars, hini, hf, hos⟩
end
end Go.Proofs.Ytgbijampdkahjaa
