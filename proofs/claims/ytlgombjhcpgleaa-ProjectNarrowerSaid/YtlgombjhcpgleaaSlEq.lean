/-
  Structs of ints compared; shifts; results in one cell.
-/
import Derived.Test.YtlgombjhcpgleaaSlRes
import Derived.Test.YtlgombjhcpgleaaSlSort
import Derived.Laws.StructEq
namespace Go.Sl
def eqIntsB (P : Program) (t n : Nat) : Bool := match P.underlying t with
  | some (.struct fs) => fs.size == n && (List.range n).all (fun i => match fs[i]? with | some f => !(f.name == "_") && f.offset == i && cellB P f.type && (match P.underlying f.type with | some (.int _) => true | _ => false) | none => false) && !P.stoodInHeld t && !P.eqGuardType P.depth t
  | _ => false
class EqIntsT (P : Program) (t : Nat) (n : outParam Nat) : Prop where
  ok : eqIntsB P t n = true
section
variable {P : Program} {ρ : Fr} {w : World} {ty : TypeId} {pos : String} {af : Array Edge} {g : Option (Nat × Bool)} {dst : Option Nat} {x y : Operand} {t t' : TypeId}
theorem run_eqFields {d : Nat} : ∀ (fs : List Field) (k : Nat) (us zs : List Int) (xs ys : Array Value) (w : World), us.length = fs.length → zs.length = fs.length →
    (∀ j f, fs[j]? = some f → f.name ≠ "_" ∧ f.offset = k + j ∧ CellT P f.type ∧ ∃ kd, P.underlying f.type = some (.int kd)) →
    (∀ j a, us[j]? = some a → xs[k + j]? = some (.int .i64 a)) → (∀ j a, zs[j]? = some a → ys[k + j]? = some (.int .i64 a)) →
    (Op.eqFields (d + 1) xs ys fs).run P w = .ok (decide (us = zs)) w
  | [], k, [], [], xs, ys, w, _, _, _, _, _ => by simp [Op.eqFields]
  | f :: fs, k, a :: us, b :: zs, xs, ys, w, h1, h2, hf, hx, hy => by
    obtain ⟨hn, ho, C, kd, hk⟩ := hf 0 f rfl
    have ex := hx 0 a rfl
    have ey := hy 0 b rfl
    simp only [Nat.add_zero] at ho ex ey
    have ih := run_eqFields (d := d) fs (k + 1) us zs xs ys w (by simpa using h1) (by simpa using h2) (fun j f' hj => by have := hf (j + 1) f' (by simpa using hj); rw [show k + (j + 1) = k + 1 + j by omega] at this; exact this)
      (fun j a' hj => by have := hx (j + 1) a' (by simpa using hj); rw [show k + (j + 1) = k + 1 + j by omega] at this; exact this) (fun j a' hj => by have := hy (j + 1) a' (by simpa using hj); rw [show k + (j + 1) = k + 1 + j by omega] at this; exact this)
    have p1 : (part f.type xs f.offset).run P w = .ok (.int .i64 a) w := by simp [part, C.plain.1, ho, ex]
    have p2 : (part f.type ys f.offset).run P w = .ok (.int .i64 b) w := by simp [part, C.plain.1, ho, ey]
    simp only [Op.eqFields, ne_eq, hn, not_false_eq_true, if_true, Sem.run_bind, p1, p2, Result.andThen_ok, run_equalIn_int w d f.type .i64 kd a b hk]
    by_cases h : a = b
    · subst h
      simp only [beq_self_eq_true, Bool.not_true, Bool.false_eq_true, if_false, ih]
      congr 1
      simp
    · have hb : (a == b) = false := by simpa using h
      rw [hb]
      simp [h]
theorem EqIntsT.run {n : Nat} (T : EqIntsT P t n) {us zs : List Int} (h1 : us.length = n) (h2 : zs.length = n) (w : World) : (Op.equalIn 10000 t (.agg (us.map (Value.int .i64)).toArray) (.agg (zs.map (Value.int .i64)).toArray)).run P w = .ok (decide (us = zs)) w ∧ P.eqGuardType P.depth t = false := by
  have h := T.ok
  simp only [eqIntsB] at h
  split at h
  · rename_i fs hd
    simp only [Bool.and_eq_true, Bool.not_eq_true', beq_iff_eq, List.all_eq_true, List.mem_range] at h
    obtain ⟨⟨⟨hs, hall⟩, hst⟩, hgu⟩ := h
    have hfo : P.fieldsOf t = fs := by simp [Program.fieldsOf, hd]
    refine ⟨?_, hgu⟩
    rw [run_equalIn_struct w 9999 t _ _ (by rw [hfo]; exact hd) hst, hfo]
    refine run_eqFields (d := 9998) fs.toList 0 us zs _ _ w (by simp [h1, hs]) (by simp [h2, hs]) (fun j f hj => ?_) (fun j a hj => by simp [hj]) (fun j a hj => by simp [hj])
    have hjl : j < n := by have := (List.getElem?_eq_some_iff.1 hj).1; simpa [hs] using this
    have := hall j hjl
    rw [show fs[j]? = some f by simpa using hj] at this
    simp only [Bool.and_eq_true, Bool.not_eq_true', beq_iff_eq] at this
    obtain ⟨⟨⟨a1, a2⟩, a3⟩, a4⟩ := this
    refine ⟨by simpa using a1, by simpa using a2, ⟨a3⟩, ?_⟩
    split at a4
    · rename_i kd hk; exact ⟨kd, hk⟩
    · cases a4
  · cases h
theorem pv_eqlInts {n : Nat} {us zs : List Int} [T : EqIntsT P t n] (hx : evl ρ x = .agg (us.map (Value.int .i64)).toArray) (hy : evl ρ y = .agg (zs.map (Value.int .i64)).toArray) (h1 : us.length = n) (h2 : zs.length = n) : PureV P ⟨dst, .binOp .eql t x y t', ty, pos, af, g⟩ ρ (.bool (decide (us = zs))) := fun w => by
  obtain ⟨hr, hg⟩ := T.run h1 h2 w
  simp only [execOp, hx, hy, Sem.run_bind, run_eqGuard_agg w .eql t x y _ _ hg, Result.andThen_ok, run_eql_struct, hr, Sem.run_pure]
theorem pv_neqInts {n : Nat} {us zs : List Int} [T : EqIntsT P t n] (hx : evl ρ x = .agg (us.map (Value.int .i64)).toArray) (hy : evl ρ y = .agg (zs.map (Value.int .i64)).toArray) (h1 : us.length = n) (h2 : zs.length = n) : PureV P ⟨dst, .binOp .neq t x y t', ty, pos, af, g⟩ ρ (.bool (!decide (us = zs))) := fun w => by
  obtain ⟨hr, hg⟩ := T.run h1 h2 w
  simp only [execOp, hx, hy, Sem.run_bind, run_eqGuard_agg w .neq t x y _ _ hg, Result.andThen_ok, run_neq_struct, hr, Sem.run_pure]
theorem pv_shr16 {k : IntKind} {a b : Int} (hx : evl ρ x = .int .u16 a) (hy : evl ρ y = .int k b) (h0 : 0 ≤ b) (h1 : b ≤ 16) : PureV P ⟨dst, .binOp .shr t x y t', ty, pos, af, g⟩ ρ (.int .u16 (a / 2 ^ b.toNat)) := fun w => by
  simp [execOp, eqGuard, hx, hy, binOp, shift_shr .u16 k a b h0 h1]
theorem pv_remU16 {a b : Int} (hx : evl ρ x = .int .u16 a) (hy : evl ρ y = .int .u16 b) (hb : 0 < b) : PureV P ⟨dst, .binOp .rem t x y t', ty, pos, af, g⟩ ρ (.int .u16 (a.tmod b)) := fun w => by
  have hb' : b ≠ 0 := by omega
  simp [execOp, eqGuard, binOp, Op.intDiv, hx, hy, hb']
theorem res_cell {fn : Func} {R : Value → World → Prop} {s ty n : Nat} {p : Addr} {vs : List Value} [A : AggT P ty n] (hr : fn.results = #[.cell s ty]) (hv : ρ s = .pointer (some p)) (hn : vs.length = n) (hc : ∀ j v, vs[j]? = some v → w.cell? (p.add j) = some v)
    (h : R (.agg vs.toArray) w) : postV P fn R .ret ρ w :=
  ⟨.agg vs.toArray, fun a ha => by
    have h1 : a.tmps.getD s undef = .pointer (some p) := by rw [← hv, ← ha]; rfl
    have h3 := run_resCell (P := P) (A := A) hn hc
    simp only [results, hr, List.mapM_toArray, List.mapM_cons, List.mapM_nil, h1, bind_pure_comp, map_pure]
    simp [asAddr, h3], h⟩
end
end Go.Sl
