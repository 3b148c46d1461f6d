/-
  Calls of methods through an interface value; division.
-/
import Derived.Test.YtlgombjhcpgleaaSlApp
namespace Go.Sl
def methB (P : Program) (t : Nat) (name : String) (f : Nat) (ptr : Bool) (elem : Nat) : Bool :=
  (match P.underlying t with | some (.pointer e) => e == elem | _ => false) &&
  match P.info? t with
  | some i => (match i.methods.find? (·.name == name) with
      | some m => m.path.isEmpty && (match m.func with | some (g, q) => g == f && q == ptr | none => false)
      | none => false)
  | none => false
/-- The method of a pointer type: its function, and whether it takes the pointer or what it points to. -/
class MethT (P : Program) (t : Nat) (name : String) (f : outParam Nat) (ptr : outParam Bool) (elem : outParam Nat) : Prop where
  ok : methB P t name f ptr elem = true
section
variable {P : Program}
theorem MethT.rows {t f elem : Nat} {name : String} {ptr : Bool} (h : MethT P t name f ptr elem) : P.underlying t = some (.pointer elem) ∧ ∃ i m, P.info? t = some i ∧ i.methods.find? (·.name == name) = some m ∧ m.path.toList = [] ∧ m.path.isEmpty = true ∧ m.func = some (f, ptr) := by
  have h := h.ok
  simp only [methB, Bool.and_eq_true] at h
  obtain ⟨h1, h2⟩ := h
  refine ⟨?_, ?_⟩
  · split at h1
    · rename_i e he; rw [he]; simp at h1; rw [h1]
    · cases h1
  · split at h2
    · rename_i i hi
      split at h2
      · rename_i m hm
        simp only [Bool.and_eq_true] at h2
        obtain ⟨h3, h4⟩ := h2
        split at h4
        · rename_i g q hg
          simp at h4
          refine ⟨i, m, hi, hm, ?_, h3, by rw [hg, h4.1, h4.2]⟩
          simpa using h3
        · cases h4
      · cases h2
    · cases h2
theorem run_methodP {t f elem : Nat} {name : String} (M : MethT P t name f true elem) (fuel : Nat) (p : Addr) (w : World) : (method (fuel + 1) t (.pointer (some p)) name).run P w = .ok (f, .pointer (some p)) w := by
  obtain ⟨hu, i, m, hi, hm, hp, he, hf⟩ := M.rows
  simp only [method, Sem.run_bind, run_typeInfo w hi, Result.andThen_ok, hm, hp, follow, Sem.run_pure, hf, receiverAt, run_underlying hu, Place.get]
theorem run_methodV {t f elem : Nat} {name : String} (M : MethT P t name f false elem) [C : CellT P elem] (fuel : Nat) {p : Addr} {v : Value} {w : World} (hv : w.cell? p = some v) : (method (fuel + 1) t (.pointer (some p)) name).run P w = .ok (f, v) w := by
  obtain ⟨hu, i, m, hi, hm, hp, he, hf⟩ := M.rows
  have hs : ∀ (a b : String), Builtin.ssaWrapNilChk_ #[t] t #[.pointer (some p), strVal a, strVal b] = pure (.pointer (some p)) := fun _ _ => rfl
  have hl : (loadVar elem p).run P w = .ok v w := by
    simp only [loadVar, Sem.run_bind, C.plain.1, Result.andThen_ok, Bool.false_eq_true, if_false]
    simp [hv]
  simp only [method, Sem.run_bind, run_typeInfo w hi, Result.andThen_ok, hm, hp, follow, Sem.run_pure, hf, receiverAt, run_underlying hu, Place.get, he, if_true, hs, asAddr, hl]

variable {ops : Array Oper} {K : Fr → World → Prop} {r : List Oper} {ρ : Fr} {w w0 : World} {Γ : List HP} {d : Option Nat} {ty : TypeId} {pos : String} {af : Array Edge} {x : Operand}
theorem fuel_succ (P : Program) : ∃ m, P.types.size + Made.depth = m + 1 := ⟨P.types.size + (Made.depth - 1), by rw [Nat.add_assoc]; congr 1⟩
/-- A call of a method that takes the pointer. -/
theorem st_invokeP {t f elem : Nat} {name : String} {p : Addr} {xs : List Operand} {ts : Array TypeId} {vs : List Value} {R : Ending → World → Prop} [M : MethT P t name f true elem] [C : CallT P f] (hr : evl ρ x = .iface t (.pointer (some p))) (hx : xs.map (evl ρ) = vs) (hc : Calls P f (.pointer (some p) :: vs).toArray w R)
    (h : ∀ e w', R e w' → ∃ v, e = .returned v ∧ opsW P ops K r (updo ρ d v) w') : opsW P ops K (⟨d, .call { callee := .invoke x name, args := xs.toArray, argTypes := ts }, ty, pos, af, none⟩ :: r) ρ w := by
  refine step_eff rfl ?_
  obtain ⟨m, hm⟩ := fuel_succ P
  have hr : (execOp (evl ρ) ⟨d, .call { callee := .invoke x name, args := xs.toArray, argTypes := ts }, ty, pos, af, none⟩).run P w = .ok (.enter f (.pointer (some p) :: vs).toArray) w := by
    have e : (#[evl ρ x] ++ Array.map (evl ρ) xs.toArray) = (.iface t (.pointer (some p)) :: vs).toArray := by simp [hr, hx]
    simp only [execOp, resolve, Sem.run_bind, Sem.run_pure, Result.andThen_ok, invoke, e]
    simp only [List.getElem?_toArray, List.getElem?_cons_zero, callMethod, Sem.run_bind, run_program, Result.andThen_ok, hm, run_methodP M, C.run]
    congr 2
    simp
  simp only [opW, hr, opUpon]
  refine Calls.mono hc fun e w' hR => ?_
  obtain ⟨v, rfl, hk⟩ := h e w' hR
  exact hk
/-- A call of a method that takes what the pointer points to. -/
theorem st_invokeV {t f elem : Nat} {name : String} {p : Addr} {u : Value} {xs : List Operand} {ts : Array TypeId} {vs : List Value} {R : Ending → World → Prop} [M : MethT P t name f false elem] [C : CallT P f] [E : CellT P elem] (hr : evl ρ x = .iface t (.pointer (some p))) (hx : xs.map (evl ρ) = vs) (hu : w.cell? p = some u) (hc : Calls P f (u :: vs).toArray w R)
    (h : ∀ e w', R e w' → ∃ v, e = .returned v ∧ opsW P ops K r (updo ρ d v) w') : opsW P ops K (⟨d, .call { callee := .invoke x name, args := xs.toArray, argTypes := ts }, ty, pos, af, none⟩ :: r) ρ w := by
  refine step_eff rfl ?_
  obtain ⟨m, hm⟩ := fuel_succ P
  have hr : (execOp (evl ρ) ⟨d, .call { callee := .invoke x name, args := xs.toArray, argTypes := ts }, ty, pos, af, none⟩).run P w = .ok (.enter f (u :: vs).toArray) w := by
    have e : (#[evl ρ x] ++ Array.map (evl ρ) xs.toArray) = (.iface t (.pointer (some p)) :: vs).toArray := by simp [hr, hx]
    simp only [execOp, resolve, Sem.run_bind, Sem.run_pure, Result.andThen_ok, invoke, e]
    simp only [List.getElem?_toArray, List.getElem?_cons_zero, callMethod, Sem.run_bind, run_program, Result.andThen_ok, hm, run_methodV M m hu, C.run]
    congr 2
    simp
  simp only [opW, hr, opUpon]
  refine Calls.mono hc fun e w' hR => ?_
  obtain ⟨v, rfl, hk⟩ := h e w' hR
  exact hk
theorem Sat.box0 {p : Addr} {bt : TypeId} {cells : List Value} {v : Value} {put : HP → List HP} (hw : Sat w0 w Γ) (B : BoxAt Γ p bt cells put) (hv : cells[0]? = some v) : w.cell? p = some v := by
  obtain ⟨i, hi, _⟩ := B.foc.ok; exact box_cell0 hw hi hv

/-- An empty literal of a slice type. -/
theorem st_buildSlice0 {α : Type} (T : Ty α) {t e sz by_ : Nat} {d : Nat} [S : SliceT P t e sz by_] (hw : Sat w0 w Γ) (h : ∀ s w', Sat w0 w' (OS T e s [] :: Γ) → opsW P ops K r (upd ρ d s) w') : opsW P ops K (⟨some d, .buildSlice t 0 #[], ty, pos, af, none⟩ :: r) ρ w := by
  refine step_eff rfl ?_
  simp only [opW, execOp, Instr.buildSlice, Sem.run_bind, run_underlying S.und, Result.andThen_ok, S.size, Sem.run_pure, Nat.zero_mul, Nat.not_lt_zero, if_false, if_true, gt_iff_lt, List.map_toArray, List.map_nil, Instr.fill]
  simp only [Sem.run_bind, newRow, run_newObj, Result.andThen_ok, Sem.run_pure, opUpon]
  exact h _ _ (own_new (e := e) (xs := ([] : List α)) (by simp) rfl (by unfold big; omega) rfl hw)

/-! ### Elements with fields of any value: shut, so that no slot unfolds them -/
@[irreducible] def eget {α : Type} (T : Ty α) (xs : List α) (i : Nat) : α := xs.getD i T.dflt
theorem eget_eq {α : Type} (T : Ty α) (xs : List α) (i : Nat) : eget T xs i = xs.getD i T.dflt := by unfold eget; rfl
class ShutT {α : Type} (T : Ty α) : Prop where
  ok : True
theorem rv_elemAggO {α : Type} {T : Ty α} {i n : Nat} {s : Value} {xs : List α} {ty : TypeId} {pos : String} {af : Array Edge} {g : Option (Nat × Bool)} {dst : Option Nat} {t : TypeId} [A : AggT P t n] (hx : evl ρ x = .pointer (some (eadr T s i))) (h : RS T w s xs) (hi : i < xs.length) (hn : n = T.sz) (_O : ShutT T) : ReadV P ⟨dst, .load t x, ty, pos, af, g⟩ ρ w (.agg (T.enc (eget T xs i)).toArray) := by
  rw [eget_eq]; exact rv_elemAgg hx h hi hn
theorem rv_elemFieldO {α : Type} {T : Ty α} {i k : Nat} {v : Value} {s : Value} {xs : List α} {ty : TypeId} {pos : String} {af : Array Edge} {g : Option (Nat × Bool)} {dst : Option Nat} {t : TypeId} [C : CellT P t] (hx : evl ρ x = .pointer (some ((eadr T s i).add k))) (h : RS T w s xs) (hi : i < xs.length) (hk : k < T.sz) (_O : ShutT T) (hv : (T.enc (eget T xs i))[k]? = some v) : ReadV P ⟨dst, .load t x, ty, pos, af, g⟩ ρ w v := by
  rw [eget_eq] at hv; exact rv_elemField hx h hi hk hv

theorem RS.cells1 {α : Type} {T : Ty α} {w : World} {s : Value} {xs : List α} (h : RS T w s xs) : s.cells.toList = [s] := by
  obtain ⟨a, cap, rfl⟩ := h.shape; rfl
/-! ### Strings -/
class StrT (P : Program) (t : Nat) : Prop where
  ok : (match P.underlying t with | some .string => true | _ => false) = true
theorem StrT.und {t : Nat} (h : StrT P t) : P.underlying t = some .string := by
  have h := h.ok
  split at h
  · rename_i he; exact he
  · cases h
@[irreducible] def bat (b : ByteArray) (i : Nat) : Int := (((b[i]?).getD 0).toNat : Int)
theorem bat_eq (b : ByteArray) (i : Nat) : bat b i = (((b[i]?).getD 0).toNat : Int) := by unfold bat; rfl
theorem pv_lenS {t : TypeId} {ty : TypeId} {pos : String} {af : Array Edge} {g : Option (Nat × Bool)} {dst : Option Nat} {b : ByteArray} [S : StrT P t] (hx : evl ρ x = .string b) : PureV P ⟨dst, .call { callee := .builtin .len, args := #[x], argTypes := #[t] }, ty, pos, af, g⟩ ρ (.int .i64 b.size) := fun w => by
  simp [execOp, resolve, invoke, builtin, Builtin.len_, hx, run_underlying S.und, goInt]
theorem pv_indexS {t : TypeId} {ty : TypeId} {pos : String} {af : Array Edge} {g : Option (Nat × Bool)} {dst : Option Nat} {y : Operand} {b : ByteArray} {j : Nat} [S : StrT P t] (hx : evl ρ x = .string b) (hy : evl ρ y = .int .i64 j) (hj : j < b.size) : PureV P ⟨dst, .index t x y, ty, pos, af, g⟩ ρ (.int .u8 (bat b j)) := fun w => by
  have hg : b[j]? = some b[j] := by simp [hj]
  simp [execOp, Instr.index, hx, hy, asIntOf, run_underlying S.und, bat_eq, hg]

/-! ### Division -/
variable {dst : Option Nat} {t t' : TypeId} {g : Option (Nat × Bool)} {y : Operand} {a b : Int}
theorem tdiv_bd (hb : 0 < b) (h0 : -9223372036854775807 ≤ a) (h1 : a ≤ 9223372036854775807) : -9223372036854775808 ≤ a.tdiv b ∧ a.tdiv b ≤ 9223372036854775807 := by
  have h := Int.natAbs_tdiv_le_natAbs a b
  omega
theorem pv_quo (hx : evl ρ x = .int .i64 a) (hy : evl ρ y = .int .i64 b) (hb : 0 < b) (h0 : -9223372036854775807 ≤ a) (h1 : a ≤ 9223372036854775807) : PureV P ⟨dst, .binOp .quo t x y t', ty, pos, af, g⟩ ρ (.int .i64 (a.tdiv b)) := fun w => by
  have hb' : b ≠ 0 := by omega
  have := tdiv_bd hb h0 h1
  simp [execOp, eqGuard, binOp, Op.intDiv, hx, hy, hb', wrap_in this.1 this.2]
theorem pv_rem (hx : evl ρ x = .int .i64 a) (hy : evl ρ y = .int .i64 b) (hb : 0 < b) : PureV P ⟨dst, .binOp .rem t x y t', ty, pos, af, g⟩ ρ (.int .i64 (a.tmod b)) := fun w => by
  have hb' : b ≠ 0 := by omega
  simp [execOp, eqGuard, binOp, Op.intDiv, hx, hy, hb']
end
end Go.Sl
