/-
  The operations of the model as steps of the generator ('opsW'): what each yields, and what it does to what the call owns.
-/
import Derived.Test.YtlgombjhcpgleaaSlHeap
import Derived.Laws.Sem
import Derived.Laws.Cells
import Derived.Laws.Small
import Derived.Laws.Slices
import Derived.Laws.World
import Derived.Laws.BitsLemmas
import Derived.WideLaws
import Derived.ChangeKeysEq
import Derived.Conc.MuLone
namespace Go.Sl
/-- From w to w' blocks of cells alone have changed; none is new. -/
def Kept (w w' : World) : Prop := w'.heap.size = w.heap.size ∧ ∀ k : Nat, (∀ cs t f, w.heap[k]? ≠ some (Obj.cells cs t f)) → w'.heap[k]? = w.heap[k]?
theorem kept_putB {w : World} {b : Nat} {cs : Array Value} {t : TypeId} {f : Nat × Nat} {o : Obj} (h : w.heap[b]? = some (.cells cs t f)) : Kept w (putB w b o) :=
  ⟨by simp [putB], fun k hk => by
    have hne : b ≠ k := fun e => by subst e; exact hk _ _ _ h
    simp only [putB]; rw [Array.getElem?_setIfInBounds_ne hne]⟩
theorem Kept.refl (w : World) : Kept w w := ⟨rfl, fun _ _ => rfl⟩
theorem Kept.trans {a b c : World} (h : Kept a b) (k : Kept b c) : Kept a c := ⟨k.1.trans h.1, fun i hi => by
  have := h.2 i hi
  rw [← this]; exact k.2 i (by rw [this]; exact hi)⟩
open Go.RowKit (Below)

/-! ### Types, by closed facts on the program's table -/
def sliceB (P : Program) (t e sz by_ : Nat) : Bool := (match P.underlying t with | some (.slice e') => e' == e | _ => false) && (match P.info? e with | some i => i.size == sz && i.bytes == by_ | none => false)
class SliceT (P : Program) (t : Nat) (e sz by_ : outParam Nat) : Prop where
  ok : sliceB P t e sz by_ = true
def cellB (P : Program) (t : Nat) : Bool := match P.underlying t, P.info? t with | some (.struct _), _ | some (.array ..), _ => false | some _, some i => i.size == 1 | _, _ => false
class CellT (P : Program) (t : Nat) : Prop where
  ok : cellB P t = true
def aggB (P : Program) (t n : Nat) : Bool := (match P.underlying t with | some (.struct _) | some (.array ..) => true | _ => false) && (match P.info? t with | some i => i.size == n | none => false)
class AggT (P : Program) (t : Nat) (n : outParam Nat) : Prop where
  ok : aggB P t n = true
class ZeroT (P : Program) (t : Nat) (zs : outParam (List Value)) : Prop where
  ok : ((P.info? t).bind (·.zero)).map (·.cells.toList) = some zs
def fieldB (P : Program) (t f off ft : Nat) : Bool := match P.underlying t with | some (.struct fs) => (match fs[f]? with | some x => x.offset == off && x.type == ft && (match P.info? x.type with | some i => !(i.size == 0) | none => false) | none => false) | _ => false
class FieldT (P : Program) (t f : Nat) (off ft : outParam Nat) : Prop where
  ok : fieldB P t f off ft = true
def plainB (P : Program) (t : Nat) : Bool := match P.underlying t with | some (.interface _) | none => false | some _ => true
class PlainT (P : Program) (t : Nat) : Prop where
  ok : plainB P t = true
class IfaceT (P : Program) (t : Nat) : Prop where
  ok : (match P.underlying t with | some (.interface _) => true | _ => false) = true

section
variable {P : Program}
theorem SliceT.und {t e sz by_ : Nat} (h : SliceT P t e sz by_) : P.underlying t = some (.slice e) := by
  have h := h.ok
  simp only [sliceB, Bool.and_eq_true] at h
  have h1 := h.1
  split at h1
  · rename_i e' he; rw [he]; simp at h1; rw [h1]
  · cases h1
theorem SliceT.info {t e sz by_ : Nat} (h : SliceT P t e sz by_) : ∃ i, P.info? e = some i ∧ i.size = sz ∧ i.bytes = by_ := by
  have h := h.ok
  simp only [sliceB, Bool.and_eq_true] at h
  have h2 := h.2
  split at h2
  · rename_i i hi; simp at h2; exact ⟨i, hi, h2.1, h2.2⟩
  · cases h2
theorem SliceT.size {t e sz by_ : Nat} (h : SliceT P t e sz by_) (w : World) : (sizeOf e).run P w = .ok sz w := by
  obtain ⟨i, hi, hs, _⟩ := h.info
  simp [sizeOf, typeInfo, hi, hs]
theorem CellT.plain {t : Nat} (h : CellT P t) : (∀ w, (isAgg t).run P w = .ok false w) ∧ ∀ w, (sizeOf t).run P w = .ok 1 w := by
  have h := h.ok
  simp only [cellB] at h
  split at h
  · cases h
  · cases h
  · rename_i d i h1 h2 hd hi
    refine ⟨fun w => ?_, fun w => ?_⟩
    · simp only [isAgg, Sem.run_bind, run_underlying hd, Result.andThen_ok]
      cases d <;> first | rfl | (exfalso; simp_all)
    · simp at h; simp [sizeOf, typeInfo, hi, h]
  · cases h
theorem AggT.agg {t n : Nat} (h : AggT P t n) : (∀ w, (isAgg t).run P w = .ok true w) ∧ ∀ w, (sizeOf t).run P w = .ok n w := by
  have h := h.ok
  simp only [aggB, Bool.and_eq_true] at h
  obtain ⟨h1, h2⟩ := h
  split at h2
  · rename_i i hi
    simp at h2
    refine ⟨fun w => ?_, fun w => by simp [sizeOf, typeInfo, hi, h2]⟩
    split at h1
    · rename_i fs hd; simp [isAgg, run_underlying hd]
    · rename_i a b hd; simp [isAgg, run_underlying hd]
    · cases h1
  · cases h2
theorem ZeroT.zero {t : Nat} {zs : List Value} (h : ZeroT P t zs) : ∃ v, v.cells = zs.toArray ∧ ∀ w, (zeroValue t).run P w = .ok v w := by
  have h := h.ok
  cases hi : P.info? t with
  | none => simp [hi] at h
  | some i =>
    simp only [hi, Option.bind_some] at h
    cases hz : i.zero with
    | none => simp [hz] at h
    | some v =>
      simp only [hz, Option.map_some, Option.some.injEq] at h
      exact ⟨v, by rw [← h], fun w => by simp [zeroValue, typeInfo, hi, hz]⟩
theorem FieldT.place {t f off ft : Nat} (h : FieldT P t f off ft) : ∃ fs fld, P.underlying t = some (.struct fs) ∧ fs[f]? = some fld ∧ fld.offset = off ∧ fld.type = ft ∧ ∀ (a : Addr) w, (fieldPlace a fld).run P w = .ok (a.add off) w := by
  have h := h.ok
  simp only [fieldB] at h
  split at h
  · rename_i fs hd
    split at h
    · rename_i x hx
      simp only [Bool.and_eq_true, beq_iff_eq] at h
      refine ⟨fs, x, hd, hx, h.1.1, h.1.2, fun a w => ?_⟩
      have h2 := h.2
      split at h2
      · rename_i i hi
        simp at h2
        simp [fieldPlace, sizeOf, typeInfo, hi, h2, h.1.1]
      · cases h2
    · cases h
  · cases h
theorem PlainT.und {t : Nat} (h : PlainT P t) : ∃ d, P.underlying t = some d ∧ ∀ ms, d ≠ .interface ms := by
  have h := h.ok
  simp only [plainB] at h
  split at h
  · cases h
  · cases h
  · rename_i d hn hd; exact ⟨d, hd, fun ms e => hn ms e⟩
theorem IfaceT.und {t : Nat} (h : IfaceT P t) : P.underlying t = some (.interface (P.methodsAt t)) := by
  have h := h.ok
  split at h
  · rename_i ms hd; simp [Program.methodsAt, hd]
  · cases h

/-! ### Numbers -/
theorem wrap_in {n : Int} (h0 : -9223372036854775808 ≤ n) (h1 : n ≤ 9223372036854775807) : IntKind.i64.wrap n = n := by rw [IntKind.wrap_i64]; omega

/-! ### The steps -/
section
variable {ops : Array Oper} {K : Fr → World → Prop} {r : List Oper} {ρ : Fr} {w : World} {d : Nat} {ty : TypeId} {pos : String} {af : Array Edge} {g : Option (Nat × Bool)} {dst : Option Nat}

theorem ops_nil (h : K ρ w) : opsW P ops K [] ρ w := h
theorem ops_here {o : Oper} (h : opsW P ops K (o :: r) ρ w) : opsW P ops K (o :: r) ρ w := h
theorem step_pure {op : Op} {v : Value} (hc : cls P op = .pure) (hv : PureV P ⟨some d, op, ty, pos, af, none⟩ ρ v) (h : opsW P ops K r (upd ρ d v) w) : opsW P ops K (⟨some d, op, ty, pos, af, none⟩ :: r) ρ w := by
  simp only [opsW, opV, hc]; exact ⟨v, hv, h⟩
theorem step_read {op : Op} {v : Value} (hc : cls P op = .read) (hv : ReadV P ⟨some d, op, ty, pos, af, none⟩ ρ w v) (h : opsW P ops K r (upd ρ d v) w) : opsW P ops K (⟨some d, op, ty, pos, af, none⟩ :: r) ρ w := by
  simp only [opsW, opV, hc]; exact ⟨v, hv, h⟩
theorem step_eff {op : Op} (hc : cls P op = .eff) (h : opW P ⟨dst, op, ty, pos, af, none⟩ ρ w fun v w' => opsW P ops K r (updo ρ dst v) w') : opsW P ops K (⟨dst, op, ty, pos, af, none⟩ :: r) ρ w := by
  simp only [opsW, opV, hc]; exact h

/-- A value that is there only under a condition. -/
def gv (c : Bool) (v : Value) : Value := bif c then v else undef
theorem andL {a b : Bool} (h : (a && b) = true) : a = true := (Bool.and_eq_true _ _ ▸ h).1
theorem gv_true {c : Bool} {v : Value} (h : c = true) : gv c v = v := by rw [h]; rfl
/-- What a guard asks. -/
def Gd (v : Value) (want c : Bool) : Prop := asks v want = c
theorem Gd_bool (b want : Bool) : Gd (.bool b) want (b == want) := rfl
theorem Gd_gv (c b want : Bool) : Gd (gv c (.bool b)) want (c && (b == want)) := by cases c <;> rfl
theorem step_guard_pure {op : Op} {j : Nat} {want c : Bool} {t : Nat} {v : Value} (hc : cls P op = .pure) (hj : gslot ops j = some t) (hg : Gd (ρ t) want c)
    (hv : c = true → PureV P ⟨some d, op, ty, pos, af, none⟩ ρ v) (h : opsW P ops K r (upd ρ d (gv c v)) w) : opsW P ops K (⟨some d, op, ty, pos, af, some (j, want)⟩ :: r) ρ w := by
  simp only [opsW, opV, hc, guardB, hj]
  unfold Gd at hg
  rw [hg]
  refine ⟨fun h1 => ⟨v, hv h1, ?_⟩, fun h1 => ?_⟩
  · rw [h1] at h; exact h
  · rw [h1] at h; exact h
theorem step_guard_read {op : Op} {j : Nat} {want c : Bool} {t : Nat} {v : Value} (hc : cls P op = .read) (hj : gslot ops j = some t) (hg : Gd (ρ t) want c)
    (hv : c = true → ReadV P ⟨some d, op, ty, pos, af, none⟩ ρ w v) (h : opsW P ops K r (upd ρ d (gv c v)) w) : opsW P ops K (⟨some d, op, ty, pos, af, some (j, want)⟩ :: r) ρ w := by
  simp only [opsW, opV, hc, guardB, hj]
  unfold Gd at hg
  rw [hg]
  refine ⟨fun h1 => ⟨v, hv h1, ?_⟩, fun h1 => ?_⟩
  · rw [h1] at h; exact h
  · rw [h1] at h; exact h
theorem step_guard {op : Op} {j : Nat} {want c : Bool} {t : Nat} (hj : gslot ops j = some t) (hg : Gd (ρ t) want c)
    (h1 : c = true → opsW P ops K (⟨some d, op, ty, pos, af, none⟩ :: r) ρ w) (h0 : c = false → opsW P ops K r (upd ρ d undef) w) : opsW P ops K (⟨some d, op, ty, pos, af, some (j, want)⟩ :: r) ρ w := by
  simp only [opsW, guardB, hj] at h1 ⊢
  unfold Gd at hg
  rw [hg]
  exact ⟨h1, h0⟩

theorem step_guard_t {op : Op} {j : Nat} {want : Bool} {t : Nat} (hj : gslot ops j = some t) (hg : asks (ρ t) want = true)
    (h1 : opsW P ops K (⟨dst, op, ty, pos, af, none⟩ :: r) ρ w) : opsW P ops K (⟨dst, op, ty, pos, af, some (j, want)⟩ :: r) ρ w := by
  simp only [opsW, guardB, hj] at h1 ⊢
  rw [hg]
  exact ⟨fun _ => h1, fun h => by cases h⟩
theorem step_guard_f {op : Op} {j : Nat} {want : Bool} {t : Nat} (hj : gslot ops j = some t) (hg : asks (ρ t) want = false)
    (h1 : opsW P ops K r (updo ρ dst undef) w) : opsW P ops K (⟨dst, op, ty, pos, af, some (j, want)⟩ :: r) ρ w := by
  simp only [opsW, guardB, hj]
  rw [hg]
  exact ⟨fun h => (by cases h), fun _ => h1⟩

/-! ### What yields a value -/
variable {x y z : Operand} {t t' : TypeId}
theorem pv_move {v : Value} (hx : evl ρ x = v) : PureV P ⟨dst, .move x, ty, pos, af, g⟩ ρ v := fun w => by simp [execOp, hx]
theorem pv_assign {v : Value} (hx : evl ρ x = v) : PureV P ⟨dst, .assign x, ty, pos, af, g⟩ ρ v := fun w => by simp [execOp, hx]
theorem pv_pick {b : Bool} {u v : Value} (hz : evl ρ z = .bool b) (hx : evl ρ x = u) (hy : evl ρ y = v) : PureV P ⟨dst, .pick z x y, ty, pos, af, g⟩ ρ (bif b then u else v) := fun w => by
  cases b <;> simp [execOp, hx, hy, hz, asBool]
theorem pv_or {b b' : Bool} (hz : evl ρ z = .bool b) (hx : evl ρ x = .bool true) (hy : evl ρ y = gv (b == false) (.bool b')) : PureV P ⟨dst, .pick z x y, ty, pos, af, g⟩ ρ (.bool (b || b')) := fun w => by
  cases b <;> simp [execOp, hx, hy, hz, asBool, gv]
theorem pv_and {b b' : Bool} (hz : evl ρ z = .bool b) (hx : evl ρ x = gv (b == true) (.bool b')) (hy : evl ρ y = .bool false) : PureV P ⟨dst, .pick z x y, ty, pos, af, g⟩ ρ (.bool (b && b')) := fun w => by
  cases b <;> simp [execOp, hx, hy, hz, asBool, gv]
theorem pv_orG {c b b' : Bool} (hg : c = true) (hz : evl ρ z = gv c (.bool b)) (hx : evl ρ x = .bool true) (hy : evl ρ y = gv (c && (b == false)) (.bool b')) : PureV P ⟨dst, .pick z x y, ty, pos, af, g⟩ ρ (.bool (b || b')) := fun w => by
  subst hg; cases b <;> simp [execOp, hx, hy, hz, asBool, gv]
theorem pv_andG {c b b' : Bool} (hg : c = true) (hz : evl ρ z = gv c (.bool b)) (hx : evl ρ x = gv (c && (b == true)) (.bool b')) (hy : evl ρ y = .bool false) : PureV P ⟨dst, .pick z x y, ty, pos, af, g⟩ ρ (.bool (b && b')) := fun w => by
  subst hg; cases b <;> simp [execOp, hx, hy, hz, asBool, gv]
variable {k : IntKind} {a b : Int}
theorem pv_lss (hx : evl ρ x = .int k a) (hy : evl ρ y = .int k b) : PureV P ⟨dst, .binOp .lss t x y t', ty, pos, af, g⟩ ρ (.bool (decide (a < b))) := fun w => by simp [execOp, eqGuard, binOp, Op.intCmp, hx, hy]
theorem pv_leq (hx : evl ρ x = .int k a) (hy : evl ρ y = .int k b) : PureV P ⟨dst, .binOp .leq t x y t', ty, pos, af, g⟩ ρ (.bool (decide (a ≤ b))) := fun w => by simp [execOp, eqGuard, binOp, Op.intCmp, hx, hy]
theorem pv_gtr (hx : evl ρ x = .int k a) (hy : evl ρ y = .int k b) : PureV P ⟨dst, .binOp .gtr t x y t', ty, pos, af, g⟩ ρ (.bool (decide (b < a))) := fun w => by simp [execOp, eqGuard, binOp, Op.intCmp, hx, hy]
theorem pv_geq (hx : evl ρ x = .int k a) (hy : evl ρ y = .int k b) : PureV P ⟨dst, .binOp .geq t x y t', ty, pos, af, g⟩ ρ (.bool (decide (b ≤ a))) := fun w => by simp [execOp, eqGuard, binOp, Op.intCmp, hx, hy]
theorem pv_eql (hx : evl ρ x = .int k a) (hy : evl ρ y = .int k b) : PureV P ⟨dst, .binOp .eql t x y t', ty, pos, af, g⟩ ρ (.bool (decide (a = b))) := fun w => by simp [execOp, eqGuard, binOp, Op.intCmp, hx, hy]; rfl
theorem pv_neq (hx : evl ρ x = .int k a) (hy : evl ρ y = .int k b) : PureV P ⟨dst, .binOp .neq t x y t', ty, pos, af, g⟩ ρ (.bool (!decide (a = b))) := fun w => by simp [execOp, eqGuard, binOp, Op.intCmp, hx, hy]; rfl
theorem pv_add (hx : evl ρ x = .int .i64 a) (hy : evl ρ y = .int .i64 b) (h0 : -9223372036854775808 ≤ a + b) (h1 : a + b ≤ 9223372036854775807) : PureV P ⟨dst, .binOp .add t x y t', ty, pos, af, g⟩ ρ (.int .i64 (a + b)) := fun w => by simp [execOp, eqGuard, binOp, Op.intArith, hx, hy, wrap_in h0 h1]
theorem pv_sub (hx : evl ρ x = .int .i64 a) (hy : evl ρ y = .int .i64 b) (h0 : -9223372036854775808 ≤ a - b) (h1 : a - b ≤ 9223372036854775807) : PureV P ⟨dst, .binOp .sub t x y t', ty, pos, af, g⟩ ρ (.int .i64 (a - b)) := fun w => by simp [execOp, eqGuard, binOp, Op.intArith, hx, hy, wrap_in h0 h1]
theorem pv_mul (hx : evl ρ x = .int .i64 a) (hy : evl ρ y = .int .i64 b) (h0 : -9223372036854775808 ≤ a * b) (h1 : a * b ≤ 9223372036854775807) : PureV P ⟨dst, .binOp .mul t x y t', ty, pos, af, g⟩ ρ (.int .i64 (a * b)) := fun w => by simp [execOp, eqGuard, binOp, Op.intArith, hx, hy, wrap_in h0 h1]
theorem pv_not {b : Bool} (hx : evl ρ x = .bool b) : PureV P ⟨dst, .unOp .not t x, ty, pos, af, g⟩ ρ (.bool !b) := fun w => by simp [execOp, Op.unary, hx]
theorem pv_neg (hx : evl ρ x = .int .i64 a) (h0 : -9223372036854775808 ≤ 0 - a) (h1 : 0 - a ≤ 9223372036854775807) : PureV P ⟨dst, .unOp .neg t x, ty, pos, af, g⟩ ρ (.int .i64 (0 - a)) := fun w => by
  have := wrap_in h0 h1
  simp only [execOp, Op.unary, hx, Op.intArith, Sem.run_bind, Sem.run_pure, Result.andThen_ok, this]
theorem pv_neqHeld {u : TypeId} {v : Value} [T : IfaceT P t] (hx : evl ρ x = .iface u v) (hy : evl ρ y = .nilIface) : PureV P ⟨dst, .binOp .neq t x y t', ty, pos, af, g⟩ ρ (.bool true) := fun w => by simp [execOp, eqGuard, hx, hy, run_neq_held_nil w t u v T.und]
theorem pv_eqlHeld {u : TypeId} {v : Value} [T : IfaceT P t] (hx : evl ρ x = .iface u v) (hy : evl ρ y = .nilIface) : PureV P ⟨dst, .binOp .eql t x y t', ty, pos, af, g⟩ ρ (.bool false) := fun w => by simp [execOp, eqGuard, hx, hy, run_eql_held_nil w t u v T.und]
theorem pv_neqNil [T : IfaceT P t] (hx : evl ρ x = .nilIface) : PureV P ⟨dst, .binOp .neq t x (.const .nilIface) t', ty, pos, af, g⟩ ρ (.bool false) := fun w => by
  have h1 := run_neq_nil_nil w t T.und
  simp only [execOp, eqGuard, hx]
  cases x <;> simp [evl, h1]
theorem pv_eqlNil [T : IfaceT P t] (hx : evl ρ x = .nilIface) : PureV P ⟨dst, .binOp .eql t x (.const .nilIface) t', ty, pos, af, g⟩ ρ (.bool true) := fun w => by
  have h1 := run_eql_nil_nil w t T.und
  simp only [execOp, eqGuard, hx]
  cases x <;> simp [evl, h1]
theorem pv_iface {v : Value} [T : PlainT P t] (hx : evl ρ x = v) : PureV P ⟨dst, .makeInterface t x, ty, pos, af, g⟩ ρ (.iface t v) := fun w => by
  obtain ⟨dd, hd, hn⟩ := T.und
  simp only [execOp, Instr.makeInterface, Sem.run_bind, run_underlying hd, Result.andThen_ok, hx]
  cases dd <;> first | rfl | exact absurd rfl (hn _)
theorem pv_extract {vs : Array Value} {i : Nat} {v : Value} (hx : evl ρ x = .tuple vs) (hi : vs[i]? = some v) : PureV P ⟨dst, .extract x i, ty, pos, af, g⟩ ρ v := fun w => by simp [execOp, Instr.extract, hx, hi]
theorem pv_fieldAddr {f off ft : Nat} {p : Addr} [T : FieldT P t f off ft] (hx : evl ρ x = .pointer (some p)) : PureV P ⟨dst, .fieldAddr t x f, ty, pos, af, g⟩ ρ (.pointer (some (p.add off))) := fun w => by
  obtain ⟨fs, fld, hd, hf, ho, _, hp⟩ := T.place
  simp [execOp, Instr.fieldAt, Instr.sureAddr, hx, run_underlying hd, hf, hp]
theorem pv_field {f off ft : Nat} {cs : Array Value} {v : Value} [T : FieldT P t f off ft] [C : CellT P ft] (hx : evl ρ x = .agg cs) (hv : cs[off]? = some v) : PureV P ⟨dst, .field t x f, ty, pos, af, g⟩ ρ v := fun w => by
  obtain ⟨fs, fld, hd, hf, ho, hft, _⟩ := T.place
  simp [execOp, Instr.field, hx, run_underlying hd, hf, part, asAgg, hft, C.plain.1, ho, hv]
theorem pv_nilCheck {p : Addr} (hx : evl ρ x = .pointer (some p)) : PureV P ⟨dst, .nilCheck x, ty, pos, af, g⟩ ρ (.pointer (some p)) := fun w => by simp [execOp, hx]
theorem pv_nilCheckI {u : TypeId} {v : Value} (hx : evl ρ x = .iface u v) : PureV P ⟨dst, .nilCheck x, ty, pos, af, g⟩ ρ (.iface u v) := fun w => by simp [execOp, hx]
end

/-! ### Where a part stands in the list -/
class Foc (Γ : List HP) (A : HP) (put : HP → List HP) : Prop where
  ok : ∃ i, Γ[i]? = some A ∧ ∀ A', put A' = Γ.set i A'
theorem Foc.here {A : HP} {Γ : List HP} : Foc (A :: Γ) A (fun A' => A' :: Γ) := ⟨0, rfl, fun _ => rfl⟩
theorem Foc.there {A B : HP} {Γ : List HP} {put : HP → List HP} (h : Foc Γ A put) : Foc (B :: Γ) A (fun A' => B :: put A') := by
  obtain ⟨i, hi, hp⟩ := h.ok
  exact ⟨i + 1, by simpa using hi, fun A' => by rw [hp A']; rfl⟩
class BoxAt (Γ : List HP) (p : Addr) (t : outParam TypeId) (cells : outParam (List Value)) (put : outParam (HP → List HP)) : Prop where
  foc : Foc Γ (Box p t cells) put
instance (priority := high) box_here {p : Addr} {t : TypeId} {cells : List Value} {Γ : List HP} : BoxAt (Box p t cells :: Γ) p t cells (fun A' => A' :: Γ) := ⟨Foc.here⟩
instance box_there {B : HP} {p : Addr} {t : TypeId} {cells : List Value} {Γ : List HP} {put : HP → List HP} [h : BoxAt Γ p t cells put] : BoxAt (B :: Γ) p t cells (fun A' => B :: put A') := ⟨h.foc.there⟩

attribute [irreducible] gv

/-! ### Slices with elements of one kind -/
/-- A kind of element: how many cells, which, and a default. -/
structure Ty (α : Type) where
  sz : Nat
  enc : α → List Value
  ok : ∀ x, (enc x).length = sz
  dflt : α
def tInt : Ty Int := ⟨1, fun n => [.int .i64 n], fun _ => rfl, 0⟩
def tBool : Ty Bool := ⟨1, fun b => [.bool b], fun _ => rfl, false⟩
def tVal : Ty Value := ⟨1, fun v => [v], fun _ => rfl, undef⟩

theorem Ty.len {α : Type} (T : Ty α) (xs : List α) : (xs.flatMap T.enc).length = xs.length * T.sz := by
  induction xs with
  | nil => simp
  | cons x xs ih => simp [List.flatMap_cons, T.ok, ih, Nat.add_mul]; omega
theorem Ty.get {α : Type} (T : Ty α) : ∀ (xs : List α) (i k : Nat), i < xs.length → k < T.sz → (xs.flatMap T.enc)[i * T.sz + k]? = (T.enc (xs.getD i T.dflt))[k]?
  | [], i, k, h, _ => by simp at h
  | x :: xs, 0, k, _, hk => by
    rw [List.flatMap_cons, Nat.zero_mul, Nat.zero_add, List.getElem?_append_left (by rw [T.ok]; exact hk)]; rfl
  | x :: xs, i + 1, k, h, hk => by
    have hl := T.ok x
    rw [List.flatMap_cons, List.getElem?_append_right (by rw [hl, Nat.add_mul]; omega), hl, show (i + 1) * T.sz + k - T.sz = i * T.sz + k from by rw [Nat.add_mul]; omega]
    simp only [List.length_cons] at h
    rw [Ty.get T xs i k (by omega) hk]; rfl
theorem Ty.set {α : Type} (T : Ty α) : ∀ (xs : List α) (i k : Nat) (v : Value) (x' : α), i < xs.length → k < T.sz → T.enc x' = (T.enc (xs.getD i T.dflt)).set k v →
    (xs.flatMap T.enc).set (i * T.sz + k) v = (xs.set i x').flatMap T.enc
  | [], i, k, v, x', h, _, _ => by simp at h
  | x :: xs, 0, k, v, x', _, hk, he => by
    simp only [List.getD_cons_zero] at he
    rw [List.flatMap_cons, Nat.zero_mul, Nat.zero_add, List.set_append_left _ _ (by rw [T.ok]; exact hk), List.set_cons_zero, List.flatMap_cons, he]
  | x :: xs, i + 1, k, v, x', h, hk, he => by
    have hl := T.ok x
    simp only [List.length_cons] at h
    rw [List.flatMap_cons, List.set_append_right _ _ (by rw [hl, Nat.add_mul]; omega), hl, show (i + 1) * T.sz + k - T.sz = i * T.sz + k from by rw [Nat.add_mul]; omega, List.set_cons_succ, List.flatMap_cons,
      Ty.set T xs i k v x' (by omega) hk (by simpa using he)]

def RS {α : Type} (T : Ty α) (w : World) (s : Value) (xs : List α) : Prop := RSl w s T.sz (xs.flatMap T.enc) ∧ xs.length = slen s
def OS {α : Type} (T : Ty α) (e : TypeId) (s : Value) (xs : List α) : HP := fun h => Own s e T.sz (xs.flatMap T.enc) h ∧ xs.length = slen s
class OwnAt (Γ : List HP) (s : Value) (α : outParam Type) (T : outParam (Ty α)) (e : outParam TypeId) (xs : outParam (List α)) (put : outParam (HP → List HP)) : Prop where
  foc : Foc Γ (OS T e s xs) put
instance (priority := high) own_here {α : Type} {T : Ty α} {s : Value} {e : TypeId} {xs : List α} {Γ : List HP} : OwnAt (OS T e s xs :: Γ) s α T e xs (fun A' => A' :: Γ) := ⟨Foc.here⟩
instance own_there {B : HP} {α : Type} {T : Ty α} {s : Value} {e : TypeId} {xs : List α} {Γ : List HP} {put : HP → List HP} [h : OwnAt Γ s α T e xs put] : OwnAt (B :: Γ) s α T e xs (fun A' => B :: put A') := ⟨h.foc.there⟩
def eadr {α : Type} (T : Ty α) (s : Value) (i : Nat) : Addr := sadr s (i * T.sz)

theorem RS.at {α : Type} {T : Ty α} {w0 w : World} {Γ : List HP} {s : Value} {xs : List α} (h : RS T w0 s xs) (hw : Sat w0 w Γ) : RS T w s xs := ⟨h.1.at hw, h.2⟩
theorem RS.below {α : Type} {T : Ty α} {w0 w : World} {s : Value} {xs : List α} (h : RS T w0 s xs) (hb : Below w0.heap.size w0 w) : RS T w s xs := ⟨h.1.below hb, h.2⟩
theorem RS.big {α : Type} {T : Ty α} {w : World} {s : Value} {xs : List α} (h : RS T w s xs) : xs.length ≤ 9223372036854775807 := by have := h.1.len.2; rw [h.2]; exact this
theorem Sat.rs {α : Type} {T : Ty α} {w0 w : World} {Γ : List HP} (h : Sat w0 w Γ) (i : Nat) {s : Value} {e : TypeId} {xs : List α} (hi : Γ[i]? = some (OS T e s xs)) : RS T w s xs := by
  have h' := (h.focus i hi).mono (A' := Own s e T.sz (xs.flatMap T.enc)) fun _ hh => hh.1
  obtain ⟨h1, _, a⟩ := h.at i hi
  exact ⟨h'.rsl 0 rfl, a.2⟩
theorem rsO {α : Type} {T : Ty α} {w0 w : World} {Γ : List HP} {s : Value} {e : TypeId} {xs : List α} {put : HP → List HP} [h : OwnAt Γ s α T e xs put] (hw : Sat w0 w Γ) : RS T w s xs := by
  obtain ⟨i, hi, _⟩ := h.foc.ok; exact hw.rs i hi
theorem Sat.nil {α : Type} {T : Ty α} {w0 w : World} {Γ : List HP} {e : TypeId} (h : Sat w0 w Γ) : Sat w0 w (OS T e (.slice none 0 0) [] :: Γ) :=
  ⟨h.below, fun _ => none, newH w0 w, fun _ => .inl rfl, fun _ _ hb => (by cases hb), Sub.refl _, ⟨.inl ⟨rfl, rfl⟩, rfl⟩, h.sat⟩
theorem RS.nil {α : Type} {T : Ty α} {w : World} : RS T w (.slice none 0 0) [] := ⟨⟨none, 0, 0, rfl, by simp, ⟨Nat.zero_le _, Nat.zero_le _⟩, by simp⟩, rfl⟩
theorem RS.shape {α : Type} {T : Ty α} {w : World} {s : Value} {xs : List α} (h : RS T w s xs) : ∃ a cap, s = .slice a xs.length cap := by
  obtain ⟨⟨a, n, cap, rfl, _⟩, hl⟩ := h
  exact ⟨a, cap, by rw [hl]; rfl⟩
theorem RS.some {α : Type} {T : Ty α} (hT : 0 < T.sz) {w : World} {s : Value} {xs : List α} (h : RS T w s xs) (hp : 0 < xs.length) : ∃ p cap, s = .slice (some p) xs.length cap ∧ p.spot = none := by
  obtain ⟨⟨a, n, cap, rfl, _, _, hc⟩, hl⟩ := h
  have h0 : 0 < (xs.flatMap T.enc).length := by rw [T.len]; exact Nat.mul_pos hp hT
  obtain ⟨p, rfl, hsp, _⟩ := hc 0 _ (List.getElem?_eq_getElem h0)
  exact ⟨p, cap, by rw [hl]; rfl, hsp⟩

section
variable {ops : Array Oper} {K : Fr → World → Prop} {r : List Oper} {ρ : Fr} {w w0 : World} {d : Nat} {ty : TypeId} {pos : String} {af : Array Edge} {g : Option (Nat × Bool)} {dst : Option Nat} {x y z : Operand} {t t' : TypeId} {Γ : List HP}
variable {α : Type} {T : Ty α} {s : Value} {xs : List α}
theorem pv_len {e sz by_ : Nat} [S : SliceT P t e sz by_] (hx : evl ρ x = s) (h : RS T w s xs) : PureV P ⟨dst, .call { callee := .builtin .len, args := #[x], argTypes := #[t] }, ty, pos, af, g⟩ ρ (.int .i64 xs.length) := fun w => by
  obtain ⟨a, cap, hs⟩ := h.shape
  simp [execOp, resolve, invoke, builtin, Builtin.len_, hx, run_underlying S.und, hs, goInt]
theorem pv_index {e sz by_ : Nat} {k : IntKind} {j : Int} [S : SliceT P t e sz by_] (hx : evl ρ x = s) (hy : evl ρ y = .int k j) (h : RS T w s xs) (hz : sz = T.sz) (hT : 0 < T.sz) (h0 : 0 ≤ j) (h1 : j < xs.length) :
    PureV P ⟨dst, .indexAddr t x y, ty, pos, af, g⟩ ρ (.pointer (some (eadr T s j.toNat))) := fun w => by
  subst hz
  obtain ⟨p, cap, hs, hsp⟩ := h.some hT (by omega)
  have hadd : ∀ n, p.add n = ⟨p.block, p.off + n, none⟩ := fun n => by
    unfold Addr.add; split
    · rename_i hn; subst hn; cases p; simp_all
    · rfl
  simp [execOp, Instr.indexAt, hx, hy, asIntOf, run_underlying S.und, hs, h0, h1, S.size, eadr, sadr, hadd]
theorem pv_indexN {e sz by_ : Nat} {k : IntKind} {j : Nat} [S : SliceT P t e sz by_] (hx : evl ρ x = s) (hy : evl ρ y = .int k j) (h : RS T w s xs) (hz : sz = T.sz) (hT : 0 < T.sz) (h1 : j < xs.length) :
    PureV P ⟨dst, .indexAddr t x y, ty, pos, af, g⟩ ρ (.pointer (some (eadr T s j))) := by
  have := pv_index (P := P) (t := t) (w := w) (dst := dst) (ty := ty) (pos := pos) (af := af) (g := g) hx hy h hz hT (Int.natCast_nonneg j) (by omega)
  simpa using this

/-! ### Loads -/
theorem rv_cell {p : Addr} {v : Value} [C : CellT P t] (hx : evl ρ x = .pointer (some p)) (hv : w.cell? p = some v) : ReadV P ⟨dst, .load t x, ty, pos, af, g⟩ ρ w v := by
  simp [ReadV, execOp, Instr.loadAt, Instr.sureAddr, hx, loadVar, C.plain.1, hv]
theorem rv_cells {p : Addr} {n : Nat} {vs : List Value} [A : AggT P t n] (hx : evl ρ x = .pointer (some p)) (hn : vs.length = n) (hv : ∀ j v, vs[j]? = some v → w.cell? (p.add j) = some v) : ReadV P ⟨dst, .load t x, ty, pos, af, g⟩ ρ w (.agg vs.toArray) := by
  subst hn
  have := run_loadCells_list (P := P) (w := w) p vs hv
  simp [ReadV, execOp, Instr.loadAt, Instr.sureAddr, hx, loadVar, A.agg.1, A.agg.2, this]
theorem elem_cell (h : RS T w s xs) {i k : Nat} {v : Value} (hi : i < xs.length) (hk : k < T.sz) (hv : (T.enc (xs.getD i T.dflt))[k]? = some v) : w.cell? ((eadr T s i).add k) = some v := by
  have h1 := h.1.cell (k := i * T.sz + k) (v := v) (by rw [T.get xs i k hi hk]; exact hv)
  obtain ⟨p, cap, hs, _⟩ := h.some (by omega) (by omega)
  subst hs
  unfold eadr sadr Addr.add at *
  split
  · rename_i h0; subst h0; simpa using h1
  · simpa [Nat.add_assoc] using h1
theorem elem_cell0 (h : RS T w s xs) {i : Nat} {v : Value} (hi : i < xs.length) (hv : T.enc (xs.getD i T.dflt) = [v]) : w.cell? (eadr T s i) = some v := by
  have hsz : T.sz = 1 := by rw [← T.ok (xs.getD i T.dflt), hv]; rfl
  have := elem_cell h hi (k := 0) (by omega) (v := v) (by rw [hv]; rfl)
  simpa [Addr.add] using this
/-- A load of an element of one cell. -/
theorem rv_elem {i : Nat} {v : Value} [C : CellT P t] (hx : evl ρ x = .pointer (some (eadr T s i))) (h : RS T w s xs) (hi : i < xs.length) (hv : T.enc (xs.getD i T.dflt) = [v]) : ReadV P ⟨dst, .load t x, ty, pos, af, g⟩ ρ w v :=
  rv_cell hx (elem_cell0 h hi hv)
/-- A load of a field of an element. -/
theorem rv_elemField {i k : Nat} {v : Value} [C : CellT P t] (hx : evl ρ x = .pointer (some ((eadr T s i).add k))) (h : RS T w s xs) (hi : i < xs.length) (hk : k < T.sz) (hv : (T.enc (xs.getD i T.dflt))[k]? = some v) : ReadV P ⟨dst, .load t x, ty, pos, af, g⟩ ρ w v :=
  rv_cell hx (elem_cell h hi hk hv)
/-- A load of a whole element of several cells. -/
theorem rv_elemAgg {i n : Nat} [A : AggT P t n] (hx : evl ρ x = .pointer (some (eadr T s i))) (h : RS T w s xs) (hi : i < xs.length) (hn : n = T.sz) : ReadV P ⟨dst, .load t x, ty, pos, af, g⟩ ρ w (.agg (T.enc (xs.getD i T.dflt)).toArray) :=
  rv_cells hx (by rw [T.ok, hn]) fun j v hv => elem_cell h hi (by rw [← T.ok (xs.getD i T.dflt)]; exact (List.getElem?_eq_some_iff.1 hv).1) hv
theorem box_cell {i k : Nat} {p : Addr} {bt : TypeId} {cells : List Value} {v : Value} (hw : Sat w0 w Γ) (hi : Γ[i]? = some (Box p bt cells)) (hv : cells[k]? = some v) : w.cell? (p.add k) = some v := by
  obtain ⟨h1, hs, ho, hsp, hb⟩ := hw.at i hi
  have := cell_of_heap (hs _ _ hb).1 k
  obtain ⟨pb, po, psp⟩ := p
  simp only at ho hsp; subst ho hsp
  unfold Addr.add
  split
  · rename_i h0; subst h0; rw [this]; exact hv
  · simp only [Nat.zero_add]; rw [this]; exact hv
theorem box_cell0 {i : Nat} {p : Addr} {bt : TypeId} {cells : List Value} {v : Value} (hw : Sat w0 w Γ) (hi : Γ[i]? = some (Box p bt cells)) (hv : cells[0]? = some v) : w.cell? p = some v := by
  have := box_cell hw hi (k := 0) hv
  simpa [Addr.add] using this
theorem rv_box {k : Nat} {p : Addr} {bt : TypeId} {cells : List Value} {v : Value} {put : HP → List HP} [C : CellT P t] (hx : evl ρ x = .pointer (some (p.add k))) (hw : Sat w0 w Γ) (B : BoxAt Γ p bt cells put) (hv : cells[k]? = some v) : ReadV P ⟨dst, .load t x, ty, pos, af, g⟩ ρ w v := by
  obtain ⟨i, hi, _⟩ := B.foc.ok; exact rv_cell hx (box_cell hw hi hv)
theorem rv_box0 {p : Addr} {bt : TypeId} {cells : List Value} {v : Value} {put : HP → List HP} [C : CellT P t] (hx : evl ρ x = .pointer (some p)) (hw : Sat w0 w Γ) (B : BoxAt Γ p bt cells put) (hv : cells[0]? = some v) : ReadV P ⟨dst, .load t x, ty, pos, af, g⟩ ρ w v := by
  obtain ⟨i, hi, _⟩ := B.foc.ok; exact rv_cell hx (box_cell0 hw hi hv)
theorem rv_boxAgg {n : Nat} {p : Addr} {bt : TypeId} {cells : List Value} {put : HP → List HP} [A : AggT P t n] (hx : evl ρ x = .pointer (some p)) (hw : Sat w0 w Γ) (B : BoxAt Γ p bt cells put) (hn : cells.length = n) : ReadV P ⟨dst, .load t x, ty, pos, af, g⟩ ρ w (.agg cells.toArray) := by
  obtain ⟨i, hi, _⟩ := B.foc.ok; exact rv_cells hx hn fun _ _ hv => box_cell hw hi hv

/-! ### Stores -/
theorem run_storeCells {b : Nat} {bt : TypeId} : ∀ (vs : List Value) (off i : Nat) (cs : List Value) (w : World), (∀ v ∈ vs, v.oneCell' = true) → off + i + vs.length ≤ cs.length → w.heap[b]? = some (.cells cs.toArray bt (0, 0)) →
    (storeCells ⟨b, off, none⟩ vs i).run P w = .ok () (putB w b (.cells (cs.take (off + i) ++ vs ++ cs.drop (off + i + vs.length)).toArray bt (0, 0)))
  | [], off, i, cs, w, _, _, hb => by
    have : (putB w b (.cells (cs.take (off + i) ++ [] ++ cs.drop (off + i + 0)).toArray bt (0, 0))) = w := by
      simp only [putB, List.append_nil, Nat.add_zero, List.take_append_drop]
      cases w; simp only [World.mk.injEq, and_true]
      apply Array.ext_getElem?
      intro k
      simp only at hb
      by_cases hk : b = k
      · subst hk; rw [Array.getElem?_setIfInBounds_self_of_lt (Array.getElem?_eq_some_iff.1 hb).1]; exact hb.symm
      · rw [Array.getElem?_setIfInBounds_ne hk]
    simp only [storeCells, Sem.run_pure, List.length_nil, this]
  | v :: vs, off, i, cs, w, hv, hl, hb => by
    have hadd : (⟨b, off, none⟩ : Addr).add i = ⟨b, off + i, none⟩ := by unfold Addr.add; split <;> simp_all
    simp only [List.length_cons] at hl
    have hc : w.cell? ⟨b, off + i, none⟩ = some cs[off + i] := by rw [cell_of_heap hb]; exact List.getElem?_eq_getElem (by omega)
    have hset : w.setCell ⟨b, off + i, none⟩ v = putB w b (.cells (cs.set (off + i) v).toArray bt (0, 0)) := by
      simp only [World.setCell, putB]
      congr 1
      apply Array.ext_getElem?
      intro k
      have hbl := (Array.getElem?_eq_some_iff.1 hb).1
      by_cases hk : b = k
      · subst hk; rw [Array.getElem?_modify, if_pos rfl, hb, Array.getElem?_setIfInBounds_self_of_lt hbl]; simp
      · rw [Array.getElem?_modify, if_neg hk, Array.getElem?_setIfInBounds_ne hk]
    simp only [storeCells, Sem.run_bind, hadd, run_store P w _ v .plain (hv v (by simp)), hc, frozen_of_heap hb, Bool.false_eq_true, if_false, Result.andThen_ok, hset]
    have hbl := (Array.getElem?_eq_some_iff.1 hb).1
    rw [run_storeCells (bt := bt) vs off (i + 1) (cs.set (off + i) v) _ (fun u hu => hv u (by simp [hu])) (by simp; omega) (by simp [putB, hbl])]
    congr 1
    simp only [putB, Array.setIfInBounds_setIfInBounds]
    congr 4
    have h1 : (cs.set (off + i) v).take (off + (i + 1)) = cs.take (off + i) ++ [v] := by
      rw [show off + (i + 1) = off + i + 1 from by omega, List.take_succ_eq_append_getElem (by simp; omega), List.take_set_of_le (by omega)]
      simp
    have h2 : (cs.set (off + i) v).drop (off + (i + 1) + vs.length) = cs.drop (off + i + (vs.length + 1)) := by
      rw [List.drop_set_of_lt (by omega)]; congr 1; omega
    rw [h1, h2]; simp

theorem opW_store {p : Addr} {v : Value} {K : Value → World → Prop} (hx : evl ρ x = .pointer (some p)) (hy : evl ρ y = v) (hsz : ∀ w, (sizeOf t).run P w = .ok v.cells.size w) {w' : World} (hr : (storeCells p v.cells.toList).run P w = .ok () w') (h : K undef w') :
    opW P ⟨none, .store t x y, ty, pos, af, none⟩ ρ w K := by
  simp only [opW, execOp, hx, hy, Instr.storeAt, Instr.sureAddr, Sem.run_bind, Sem.run_pure, Result.andThen_ok, storeVar, hsz, ne_eq, not_true, if_false, hr, opUpon]
  exact h

/-- A cell of a box. -/
theorem st_box {k : Nat} {p : Addr} {bt : TypeId} {cells : List Value} {v : Value} {put : HP → List HP} [C : CellT P t] (hx : evl ρ x = .pointer (some (p.add k))) (hy : evl ρ y = v) (hv : v.oneCell' = true) (hw : Sat w0 w Γ) (B : BoxAt Γ p bt cells put) (hk : k < cells.length)
    (h : ∀ w', Sat w0 w' (put (Box p bt (cells.set k v))) → opsW P ops K r ρ w') : opsW P ops K (⟨none, .store t x y, ty, pos, af, none⟩ :: r) ρ w := by
  refine step_eff rfl ?_
  obtain ⟨i, hi, hput⟩ := B.foc.ok
  simp only [hput] at h
  obtain ⟨h1, hs, ho, hsp, hb⟩ := hw.at i hi
  obtain ⟨pb, po, psp⟩ := p
  simp only at ho hsp hb; subst ho hsp
  have hadd : (⟨pb, 0, none⟩ : Addr).add k = ⟨pb, k, none⟩ := by unfold Addr.add; split <;> simp_all
  rw [hadd] at hx
  have hc : v.cells = #[v] := by cases v <;> first | rfl | (simp [Value.oneCell'] at hv)
  refine opW_store hx hy (fun w => by rw [hc]; exact C.plain.2 w) (w' := putB w pb (.cells (cells.set k v).toArray bt (0, 0))) ?_ ?_
  · rw [hc]
    have := run_storeCells (P := P) (b := pb) [v] k 0 cells w (by simpa using hv) (by simp; omega) (hs _ _ hb).1
    rw [show #[v].toList = [v] from rfl, this]
    congr 4
    simp only [Nat.add_zero, List.length_cons, List.length_nil, Nat.zero_add]
    rw [List.set_eq_take_append_cons_drop]
    simp [hk]
  · refine h _ ((Sat.put (hw.focus i hi) fun h1 _ ⟨_, _, hb⟩ => ⟨⟨_, hb⟩, rfl, rfl, by simp [hpS]⟩).back i hi)
theorem st_boxZ {k : Nat} {p : Addr} {bt : TypeId} {cells : List Value} {v : Value} {put : HP → List HP} [C : CellT P t] (hx : evl ρ x = .pointer (some (p.add k))) (hy : evl ρ y = v) (hv : v.oneCell' = true) (hw : Sat w0 w Γ) (B : BoxAt Γ p bt cells put) (hk : k < cells.length)
    (h : ∀ w', Sat w0 w' (put (Box p bt (cells.set k v))) → Kept w w' → opsW P ops K r ρ w') : opsW P ops K (⟨none, .store t x y, ty, pos, af, none⟩ :: r) ρ w := by
  refine step_eff rfl ?_
  obtain ⟨i, hi, hput⟩ := B.foc.ok
  simp only [hput] at h
  obtain ⟨h1, hs, ho, hsp, hb⟩ := hw.at i hi
  obtain ⟨pb, po, psp⟩ := p
  simp only at ho hsp hb; subst ho hsp
  have hadd : (⟨pb, 0, none⟩ : Addr).add k = ⟨pb, k, none⟩ := by unfold Addr.add; split <;> simp_all
  rw [hadd] at hx
  have hc : v.cells = #[v] := by cases v <;> first | rfl | (simp [Value.oneCell'] at hv)
  refine opW_store hx hy (fun w => by rw [hc]; exact C.plain.2 w) (w' := putB w pb (.cells (cells.set k v).toArray bt (0, 0))) ?_ ?_
  · rw [hc]
    have := run_storeCells (P := P) (b := pb) [v] k 0 cells w (by simpa using hv) (by simp; omega) (hs _ _ hb).1
    rw [show #[v].toList = [v] from rfl, this]
    congr 4
    simp only [Nat.add_zero, List.length_cons, List.length_nil, Nat.zero_add]
    rw [List.set_eq_take_append_cons_drop]
    simp [hk]
  · refine h _ ((Sat.put (hw.focus i hi) fun h1 _ ⟨_, _, hb⟩ => ⟨⟨_, hb⟩, rfl, rfl, by simp [hpS]⟩).back i hi) (kept_putB (hs _ _ hb).1)
theorem st_box0 {p : Addr} {bt : TypeId} {cells : List Value} {v : Value} {put : HP → List HP} [C : CellT P t] (hx : evl ρ x = .pointer (some p)) (hy : evl ρ y = v) (hv : v.oneCell' = true) (hw : Sat w0 w Γ) (B : BoxAt Γ p bt cells put) (hk : 0 < cells.length)
    (h : ∀ w', Sat w0 w' (put (Box p bt (cells.set 0 v))) → opsW P ops K r ρ w') : opsW P ops K (⟨none, .store t x y, ty, pos, af, none⟩ :: r) ρ w :=
  st_box (k := 0) (by simpa [Addr.add] using hx) hy hv hw B hk h
/-- A box's whole content, several cells. -/
theorem st_boxAgg {n : Nat} {p : Addr} {bt : TypeId} {cells vs : List Value} {put : HP → List HP} [A : AggT P t n] (hx : evl ρ x = .pointer (some p)) (hy : evl ρ y = .agg vs.toArray) (hw : Sat w0 w Γ) (B : BoxAt Γ p bt cells put) (hn : vs.length = n) (hl : cells.length = n) (hv : vs.all Value.oneCell' = true)
    (h : ∀ w', Sat w0 w' (put (Box p bt vs)) → opsW P ops K r ρ w') : opsW P ops K (⟨none, .store t x y, ty, pos, af, none⟩ :: r) ρ w := by
  refine step_eff rfl ?_
  obtain ⟨i, hi, hput⟩ := B.foc.ok
  simp only [hput] at h
  obtain ⟨h1, hs, ho, hsp, hb⟩ := hw.at i hi
  obtain ⟨pb, po, psp⟩ := p
  simp only at ho hsp hb; subst ho hsp
  refine opW_store hx hy (fun w => by rw [A.agg.2]; simp [Value.cells, hn]) (w' := putB w pb (.cells vs.toArray bt (0, 0))) ?_ ?_
  · have := run_storeCells (P := P) (b := pb) vs 0 0 cells w (by simpa using hv) (by simp; omega) (hs _ _ hb).1
    simp only [Value.cells]
    rw [this]
    congr 4
    simp only [Nat.add_zero, Nat.zero_add, List.take_zero, List.nil_append]
    rw [List.drop_eq_nil_of_le (by omega), List.append_nil]
  · exact h _ ((Sat.put (hw.focus i hi) fun h1 _ ⟨_, _, hb⟩ => ⟨⟨_, hb⟩, rfl, rfl, by simp [hpS]⟩).back i hi)
/-- A new variable. -/
theorem st_alloc {zs : List Value} [Z : ZeroT P t zs] (hw : Sat w0 w Γ) (h : ∀ p w', Sat w0 w' (Box p t zs :: Γ) → opsW P ops K r (upd ρ d (.pointer (some p))) w') : opsW P ops K (⟨some d, .alloc t, ty, pos, af, none⟩ :: r) ρ w := by
  refine step_eff rfl ?_
  obtain ⟨v, hv, hz⟩ := Z.zero
  simp only [opW, execOp, Instr.alloc, Sem.run_bind, hz, Result.andThen_ok, newVar, newRow, run_newObj, Sem.run_pure, opUpon, hv]
  exact h ⟨w.heap.size, 0, none⟩ _ (hw.push (o := .cells zs.toArray t) ⟨rfl, rfl, by simp⟩)
theorem st_boxNew {v : Value} (hx : evl ρ x = v) (hw : Sat w0 w Γ) (h : ∀ p w', Sat w0 w' (Box p t v.cells.toList :: Γ) → opsW P ops K r (upd ρ d (.pointer (some p))) w') : opsW P ops K (⟨some d, .box t x, ty, pos, af, none⟩ :: r) ρ w := by
  refine step_eff rfl ?_
  simp only [opW, execOp, Instr.box, Sem.run_bind, Result.andThen_ok, newVar, newRow, run_newObj, Sem.run_pure, opUpon, hx]
  exact h ⟨w.heap.size, 0, none⟩ _ (hw.push (o := .cells v.cells t) ⟨rfl, rfl, by simp⟩)

/-- A cell of an owned slice. -/
theorem own_set {i j k : Nat} {e : TypeId} {v : Value} {x' : α} (hv : v.oneCell' = true) (hw : Sat w0 w Γ) (hi : Γ[i]? = some (OS T e s xs)) (hj : j < xs.length) (hk : k < T.sz) (he : T.enc x' = (T.enc (xs.getD j T.dflt)).set k v) :
    ∃ w', (storeCells ((eadr T s j).add k) [v]).run P w = .ok () w' ∧ Sat w0 w' (Γ.set i (OS T e s (xs.set j x'))) ∧ Kept w w' := by
  obtain ⟨h1, hs, ho, hl⟩ := hw.at i hi
  have hlen := T.len xs
  rcases ho with ⟨rfl, hnil⟩ | ⟨b, off, n, cap, pre, post, rfl, hpre, hvl, hnc, hbig, hpl, hb⟩
  · simp only [slen] at hl; omega
  · have hidx : j * T.sz + k < (xs.flatMap T.enc).length := by
      rw [hlen]
      have : (j + 1) * T.sz ≤ xs.length * T.sz := Nat.mul_le_mul_right _ hj
      rw [Nat.add_mul] at this; omega
    have hadd : (eadr T (.slice (some ⟨b, off, none⟩) n cap) j).add k = ⟨b, off + (j * T.sz + k), none⟩ := by
      unfold eadr sadr Addr.add
      split
      · rename_i h0; subst h0; simp
      · simp [Nat.add_assoc]
    rw [hadd]
    have hnew : ((pre ++ xs.flatMap T.enc ++ post).take (off + (j * T.sz + k) + 0) ++ [v] ++ (pre ++ xs.flatMap T.enc ++ post).drop (off + (j * T.sz + k) + 0 + 1)) = pre ++ (xs.set j x').flatMap T.enc ++ post := by
      rw [← T.set xs j k v x' hj hk he]
      have h2 : (pre ++ xs.flatMap T.enc ++ post).set (off + (j * T.sz + k)) v = pre ++ (xs.flatMap T.enc).set (j * T.sz + k) v ++ post := by
        rw [List.append_assoc, List.set_append_right _ _ (by omega), List.set_append_left _ _ (by omega), show off + (j * T.sz + k) - pre.length = j * T.sz + k from by omega, List.append_assoc]
      rw [← h2, List.set_eq_take_append_cons_drop, if_pos (by simp only [List.length_append]; omega)]
      simp
    refine ⟨putB w b (.cells (pre ++ (xs.set j x').flatMap T.enc ++ post).toArray e (0, 0)), ?_, ?_, kept_putB (hs b _ hb).1⟩
    · rw [run_storeCells (b := b) (bt := e) [v] _ 0 _ w (by simpa using hv) (by simp only [List.length_append, List.length_cons, List.length_nil]; omega) (hs b _ hb).1]
      rw [← hnew]; rfl
    · have hlen' := T.len (xs.set j x')
      refine (Sat.put (hw.focus i hi) fun g hg ⟨ho', hl'⟩ => ?_).back i hi
      rcases ho' with ⟨hn, _⟩ | ⟨b', off', n', cap', pre', post', hs', hpre', hvl', hnc', hbig', hpl', hb'⟩
      · cases hn
      · cases hs'
        refine ⟨⟨_, hb'⟩, .inr ⟨b, off, n, cap, pre, post, rfl, hpre, by rw [hlen', List.length_set, ← hlen, hvl], hnc, hbig, hpl, by simp [hpS]⟩, by rw [List.length_set]; exact hl⟩
theorem st_elem {j : Nat} {e : TypeId} {v : Value} {x' : α} {put : HP → List HP} [C : CellT P t] (hx : evl ρ x = .pointer (some (eadr T s j))) (hy : evl ρ y = v) (hv : v.oneCell' = true) (hw : Sat w0 w Γ) (O : OwnAt Γ s α T e xs put) (hj : j < xs.length) (he : T.enc x' = [v])
    (h : ∀ w', Sat w0 w' (put (OS T e s (xs.set j x'))) → opsW P ops K r ρ w') : opsW P ops K (⟨none, .store t x y, ty, pos, af, none⟩ :: r) ρ w := by
  refine step_eff rfl ?_
  obtain ⟨i, hi, hput⟩ := O.foc.ok
  simp only [hput] at h
  have hsz : T.sz = 1 := by rw [← T.ok x', he]; rfl
  have hc : v.cells = #[v] := by cases v <;> first | rfl | (simp [Value.oneCell'] at hv)
  have h1 : T.enc x' = (T.enc (xs.getD j T.dflt)).set 0 v := by
    rw [he]
    have := T.ok (xs.getD j T.dflt)
    rw [hsz] at this
    match h2 : T.enc (xs.getD j T.dflt), this with
    | [u], _ => rfl
  obtain ⟨w', hr, hs, hkp⟩ := own_set (P := P) (k := 0) hv hw hi hj (by omega) h1
  exact opW_store hx hy (fun w => by rw [hc]; exact C.plain.2 w) (by rw [hc]; simpa [Addr.add] using hr) (h _ hs)
theorem st_elemZ {j : Nat} {e : TypeId} {v : Value} {x' : α} {put : HP → List HP} [C : CellT P t] (hx : evl ρ x = .pointer (some (eadr T s j))) (hy : evl ρ y = v) (hv : v.oneCell' = true) (hw : Sat w0 w Γ) (O : OwnAt Γ s α T e xs put) (hj : j < xs.length) (he : T.enc x' = [v])
    (h : ∀ w', Sat w0 w' (put (OS T e s (xs.set j x'))) → Kept w w' → opsW P ops K r ρ w') : opsW P ops K (⟨none, .store t x y, ty, pos, af, none⟩ :: r) ρ w := by
  refine step_eff rfl ?_
  obtain ⟨i, hi, hput⟩ := O.foc.ok
  simp only [hput] at h
  have hsz : T.sz = 1 := by rw [← T.ok x', he]; rfl
  have hc : v.cells = #[v] := by cases v <;> first | rfl | (simp [Value.oneCell'] at hv)
  have h1 : T.enc x' = (T.enc (xs.getD j T.dflt)).set 0 v := by
    rw [he]
    have := T.ok (xs.getD j T.dflt)
    rw [hsz] at this
    match h2 : T.enc (xs.getD j T.dflt), this with
    | [u], _ => rfl
  obtain ⟨w', hr, hs, hkp⟩ := own_set (P := P) (k := 0) hv hw hi hj (by omega) h1
  exact opW_store hx hy (fun w => by rw [hc]; exact C.plain.2 w) (by rw [hc]; simpa [Addr.add] using hr) (h _ hs hkp)
theorem st_elemField {j k : Nat} {e : TypeId} {v : Value} {x' : α} {put : HP → List HP} [C : CellT P t] (hx : evl ρ x = .pointer (some ((eadr T s j).add k))) (hy : evl ρ y = v) (hv : v.oneCell' = true) (hw : Sat w0 w Γ) (O : OwnAt Γ s α T e xs put) (hj : j < xs.length) (hk : k < T.sz) (he : T.enc x' = (T.enc (xs.getD j T.dflt)).set k v)
    (h : ∀ w', Sat w0 w' (put (OS T e s (xs.set j x'))) → opsW P ops K r ρ w') : opsW P ops K (⟨none, .store t x y, ty, pos, af, none⟩ :: r) ρ w := by
  refine step_eff rfl ?_
  obtain ⟨i, hi, hput⟩ := O.foc.ok
  simp only [hput] at h
  have hc : v.cells = #[v] := by cases v <;> first | rfl | (simp [Value.oneCell'] at hv)
  obtain ⟨w', hr, hs, hkp⟩ := own_set (P := P) hv hw hi hj hk he
  exact opW_store hx hy (fun w => by rw [hc]; exact C.plain.2 w) (by rw [hc]; exact hr) (h _ hs)
end
end
end Go.Sl
