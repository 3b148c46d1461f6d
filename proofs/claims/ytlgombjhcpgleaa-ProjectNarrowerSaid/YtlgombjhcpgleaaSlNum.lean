/-
  Small numbers: lists of uint8 and uint16, conversions to int, a slice that is the caller's or the call's own.
-/
import Derived.Test.YtlgombjhcpgleaaSlEq
import Derived.Test.YtlgombjhcpgleaaSlRead
namespace Go.Sl
def tU8 : Ty Int := ⟨1, fun n => [.int .u8 n], fun _ => rfl, 0⟩
def tU16 : Ty Int := ⟨1, fun n => [.int .u16 n], fun _ => rfl, 0⟩
instance : OneT tU8 := ⟨fun _ v hv => by rw [List.mem_singleton.1 hv]; rfl⟩
instance : OneT tU16 := ⟨fun _ v hv => by rw [List.mem_singleton.1 hv]; rfl⟩
class IntT (P : Program) (t : Nat) (k : outParam IntKind) : Prop where
  ok : P.underlying t = some (.int k)
section
variable {P : Program} {ρ : Fr} {x y : Operand} {ty : TypeId} {pos : String} {af : Array Edge} {g : Option (Nat × Bool)} {dst : Option Nat} {t t' : TypeId}
theorem pv_conv {s d : Nat} {ks : IntKind} {n : Int} [S : IntT P s ks] [D : IntT P d .i64] (hx : evl ρ x = .int ks n) (h0 : -9223372036854775808 ≤ n) (h1 : n ≤ 9223372036854775807) : PureV P ⟨dst, .convert s d x, ty, pos, af, g⟩ ρ (.int .i64 n) := fun w => by
  simp only [execOp, convert, hx, Sem.run_bind, run_underlying S.ok, run_underlying D.ok, Result.andThen_ok, Conv.intToInt, wrap_in h0 h1, Sem.run_pure]
theorem wrap16 {n : Nat} (h : n < 65536) : IntKind.u16.wrap (n : Int) = n := by
  simp only [IntKind.wrap, IntKind.bits, IntKind.signed]
  simp
  omega
theorem ofInt16 {a : Int} (h0 : 0 ≤ a) (h1 : a < 65536) : (BitVec.ofInt 16 a).toNat = a.toNat := by
  rw [BitVec.toNat_ofInt]
  omega
def nb16 (b : Int) : Nat := (~~~ (BitVec.ofInt 16 b)).toNat
theorem pv_andNot16 {a b : Int} (hx : evl ρ x = .int .u16 a) (hy : evl ρ y = .int .u16 b) (h0 : 0 ≤ a) (h1 : a < 65536) : PureV P ⟨dst, .binOp .andNot t x y t', ty, pos, af, g⟩ ρ (.int .u16 ((a.toNat &&& nb16 b : Nat) : Int)) := by
  intro w
  have hlt : (BitVec.ofInt 16 a &&& ~~~ (BitVec.ofInt 16 b)).toNat < 65536 := (BitVec.ofInt 16 a &&& ~~~ (BitVec.ofInt 16 b)).isLt
  have e : (BitVec.ofInt 16 a &&& ~~~ (BitVec.ofInt 16 b)).toNat = a.toNat &&& nb16 b := by rw [BitVec.toNat_and, ofInt16 h0 h1, nb16]
  have h2 := wrap16 hlt
  rw [e] at h2
  have hr : (execOp (evl ρ) ⟨dst, .binOp .andNot t x y t', ty, pos, af, g⟩).run P w = .ok (.value (.int .u16 (IntKind.u16.wrap ((BitVec.ofInt 16 a &&& ~~~ (BitVec.ofInt 16 b)).toNat : Int)))) w := by
    simp only [execOp, eqGuard, binOp, hx, hy, Op.intBits, Sem.run_bind, Sem.run_pure, Result.andThen_ok, ne_eq, not_true_eq_false, if_false, Bool.not_false, if_true]
    rfl
  rw [hr, e, h2]
theorem pv_or16 {a b : Int} (hx : evl ρ x = .int .u16 a) (hy : evl ρ y = .int .u16 b) (h0 : 0 ≤ a) (h1 : a < 65536) (h2 : 0 ≤ b) (h3 : b < 65536) : PureV P ⟨dst, .binOp .or t x y t', ty, pos, af, g⟩ ρ (.int .u16 ((a.toNat ||| b.toNat : Nat) : Int)) := by
  intro w
  have hlt : (BitVec.ofInt 16 a ||| BitVec.ofInt 16 b).toNat < 65536 := (BitVec.ofInt 16 a ||| BitVec.ofInt 16 b).isLt
  have e : (BitVec.ofInt 16 a ||| BitVec.ofInt 16 b).toNat = a.toNat ||| b.toNat := by rw [BitVec.toNat_or, ofInt16 h0 h1, ofInt16 h2 h3]
  have h4 := wrap16 hlt
  rw [e] at h4
  have hr : (execOp (evl ρ) ⟨dst, .binOp .or t x y t', ty, pos, af, g⟩).run P w = .ok (.value (.int .u16 (IntKind.u16.wrap ((BitVec.ofInt 16 a ||| BitVec.ofInt 16 b).toNat : Int)))) w := by
    simp only [execOp, eqGuard, binOp, hx, hy, Op.intBits, Sem.run_bind, Sem.run_pure, Result.andThen_ok, ne_eq, not_true_eq_false, if_false, Bool.not_false, if_true]
    rfl
  rw [hr, e, h4]
end
section
variable {w w0 : World} {Γ : List HP}
/-- A slice that lay there before, or is the call's own. -/
def RO {α : Type} (w0 : World) (T : Ty α) (e : TypeId) (s : Value) (xs : List α) : HP := fun h => RS T w0 s xs ∨ OS T e s xs h
theorem Sat.ro {α : Type} {T : Ty α} {e : TypeId} {s : Value} {xs : List α} (h : Sat w0 w Γ) (i : Nat) (hi : Γ[i]? = some (RO w0 T e s xs)) : RS T w s xs := by
  have h' := h.focus i hi
  obtain ⟨h1, h2, d, s1, s2, a, g⟩ := h'.sat
  rcases a with a | a
  · exact a.at h
  · exact Sat.rs (Γ := [OS T e s xs]) ⟨h.below, h1, h2, d, s1, s2, a, trivial⟩ 0 rfl
theorem Sat.roOld {α : Type} {T : Ty α} {e : TypeId} {s : Value} {xs : List α} (h : Sat w0 w Γ) (hr : RS T w0 s xs) : Sat w0 w (RO w0 T e s xs :: Γ) :=
  ⟨h.below, fun _ => none, newH w0 w, fun _ => .inl rfl, fun _ _ h => (by cases h), fun _ _ h => h, .inl hr, h.sat⟩
theorem Sat.roNew {α : Type} {T : Ty α} {e : TypeId} {s : Value} {xs : List α} (h : Sat w0 w (OS T e s xs :: Γ)) : Sat w0 w (RO w0 T e s xs :: Γ) := h.mono fun _ h => .inr h
end
section
variable {H : Type} {enc : TypeId × Value → H} {P : Program} {w : World} {base : Nat} {spare : Nat → Bool} {held : Bool}
theorem rd_u8 {t : TypeId} (ht : P.underlying t = some (.int .u8)) : Rd enc P w base spare held t tU8 fun n => 0 ≤ n ∧ n ≤ 255 := by
  intro fuel cs y h
  obtain ⟨n, rfl, _, hw⟩ := DataW.trod_int ht h
  refine ⟨n, rfl, ?_⟩
  simpa [Lit.wf, IntKind.min, IntKind.max, IntKind.signed, IntKind.bits] using hw
theorem rd_u16 {t : TypeId} (ht : P.underlying t = some (.int .u16)) : Rd enc P w base spare held t tU16 fun n => 0 ≤ n ∧ n ≤ 65535 := by
  intro fuel cs y h
  obtain ⟨n, rfl, _, hw⟩ := DataW.trod_int ht h
  refine ⟨n, rfl, ?_⟩
  simpa [Lit.wf, IntKind.min, IntKind.max, IntKind.signed, IntKind.bits] using hw
end
end Go.Sl
