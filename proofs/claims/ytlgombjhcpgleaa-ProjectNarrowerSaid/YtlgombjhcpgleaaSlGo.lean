/-
  The steps of the generator with their side conditions as default tactics: what a walk's line 'repeat (first | refine .. ?_ | ..)' tries. Written by a small program (gengo.py).
-/
import Derived.Test.YtlgombjhcpgleaaSlInv
namespace Go.Sl
section
variable {P : Program} {ops : Array Oper} {K : Fr → World → Prop} {r : List Oper} {ρ : Fr} {w w0 : World} {d : Nat} {ty : TypeId} {pos : String} {af : Array Edge} {dst : Option Nat} {x y : Operand} {t : TypeId} {Γ : List HP} {op : Op} {v : Value}
theorem go_pure (h : opsW P ops K r (upd ρ d v) w)
    (hc : cls P op = .pure := by exact rfl)
    (hv : PureV P ⟨some d, op, ty, pos, af, none⟩ ρ v := by
      first
        | (apply pv_move; (conv => lhs; whnf))
        | (apply pv_assign; (conv => lhs; whnf))
        | ((first | apply pv_lss | apply pv_geq | apply pv_gtr | apply pv_leq) <;> exact rfl)
        | (apply pv_eql <;> exact rfl)
        | (apply pv_neq <;> exact rfl)
        | ((first | apply pv_add | apply pv_sub); exact rfl; exact rfl; omega; omega)
        | (apply pv_mul; exact rfl; exact rfl; (first | omega | assumption); (first | omega | assumption))
        | (apply pv_quo; exact rfl; exact rfl; omega; omega; omega)
        | (apply pv_rem; exact rfl; exact rfl; omega)
        | (apply pv_not; exact rfl)
        | (apply pv_fieldAddr; exact rfl)
        | (apply pv_len; (conv => lhs; whnf); (first | exact RS.at (by assumption) hw | exact rsO hw | assumption))
        | (apply pv_lenS; exact rfl)
        | (apply pv_indexS; exact rfl; exact rfl; omega)
        | (apply pv_indexN; (conv => lhs; whnf); exact rfl; (first | exact RS.at (by assumption) hw | exact rsO hw | assumption); exact rfl; exact Nat.zero_lt_succ _; omega)
        | (apply pv_index; (conv => lhs; whnf); exact rfl; (first | exact RS.at (by assumption) hw | exact rsO hw | assumption); exact rfl; exact Nat.zero_lt_succ _; omega; omega)
        | (apply pv_extract <;> exact rfl)
        | (apply pv_iface; (conv => lhs; whnf))
        | (apply pv_neqNil; exact rfl)
        | (apply pv_eqlNil; exact rfl)
        | (apply pv_neqHeld <;> exact rfl)
        | (apply pv_eqlHeld <;> exact rfl)
        | (apply pv_or <;> exact rfl)
        | (apply pv_and <;> exact rfl)
        | (apply pv_nilCheck; exact rfl)
        | (apply pv_nilCheckI; exact rfl)
        | (apply pv_assertOk; exact rfl)
        | (apply pv_assert; exact rfl)
        | (apply pv_eqlB <;> exact rfl)
        | (apply pv_neqB <;> exact rfl)
        | (apply pv_makeFunc; exact rfl)
        | ((first | apply pv_min | apply pv_max) <;> exact rfl)
        | (apply pv_neg; exact rfl; omega; omega)
        | (apply pv_field <;> exact rfl)
        | (apply pv_pick; exact rfl; (conv => lhs; whnf); (conv => lhs; whnf))
        | (apply pv_sliceTo; (conv => lhs; whnf); exact rfl; (first | exact RS.at (by assumption) hw | exact rsO hw | assumption); exact rfl; omega; omega)
        | (apply pv_sliceFrom; (conv => lhs; whnf); exact rfl; (first | exact RS.at (by assumption) hw | exact rsO hw | assumption); exact rfl; omega; omega)
        | (apply pv_sliceBoth; (conv => lhs; whnf); exact rfl; exact rfl; (first | exact RS.at (by assumption) hw | exact rsO hw | assumption); exact rfl; omega; omega; omega)
        | (apply pv_sliceAll; (conv => lhs; whnf); (first | exact RS.at (by assumption) hw | exact rsO hw | assumption); exact rfl)) : opsW P ops K (⟨some d, op, ty, pos, af, none⟩ :: r) ρ w := step_pure hc hv h
theorem go_read (h : opsW P ops K r (upd ρ d v) w)
    (hc : cls P op = .read := by exact rfl)
    (hv : ReadV P ⟨some d, op, ty, pos, af, none⟩ ρ w v := by
      first
        | (apply rv_box; exact rfl; exact hw; infer_instance; exact rfl)
        | (apply rv_box0; exact rfl; exact hw; infer_instance; exact rfl)
        | (apply rv_elemV; exact rfl; (first | exact RS.at (by assumption) hw | exact rsO hw | assumption); omega)
        | (apply rv_elemFieldO; exact rfl; (first | exact RS.at (by assumption) hw | exact rsO hw | assumption); omega; exact Nat.lt_of_sub_pos (Nat.zero_lt_succ _); infer_instance; exact rfl)
        | (apply rv_elemAggO; exact rfl; (first | exact RS.at (by assumption) hw | exact rsO hw | assumption); omega; exact rfl; infer_instance)
        | (apply rv_elem; exact rfl; (first | exact RS.at (by assumption) hw | exact rsO hw | assumption); omega; exact rfl)
        | (apply rv_elemField; exact rfl; (first | exact RS.at (by assumption) hw | exact rsO hw | assumption); omega; exact Nat.lt_of_sub_pos (Nat.zero_lt_succ _); exact rfl)
        | (apply rv_elemAgg; exact rfl; (first | exact RS.at (by assumption) hw | exact rsO hw | assumption); omega; exact rfl)
        | (apply rv_boxAgg; exact rfl; exact hw; infer_instance; exact rfl)) : opsW P ops K (⟨some d, op, ty, pos, af, none⟩ :: r) ρ w := step_read hc hv h
theorem go_gt {j : Nat} {want : Bool} {s : Nat} (h : opsW P ops K (⟨dst, op, ty, pos, af, none⟩ :: r) ρ w) (hj : gslot ops j = some s := by exact rfl) (hg : asks (ρ s) want = true := by exact rfl) : opsW P ops K (⟨dst, op, ty, pos, af, some (j, want)⟩ :: r) ρ w := step_guard_t hj hg h
theorem go_gf {j : Nat} {want : Bool} {s : Nat} (h : opsW P ops K r (updo ρ dst undef) w) (hj : gslot ops j = some s := by exact rfl) (hg : asks (ρ s) want = false := by exact rfl) : opsW P ops K (⟨dst, op, ty, pos, af, some (j, want)⟩ :: r) ρ w := step_guard_f hj hg h
theorem go_gpure {j : Nat} {want c : Bool} {s : Nat} (h : opsW P ops K r (upd ρ d (gv c v)) w)
    (hc : cls P op = .pure := by exact rfl) (hj : gslot ops j = some s := by exact rfl) (hg : Gd (ρ s) want c := by first | exact Gd_bool _ _ | exact Gd_gv _ _ _)
    (hv : c = true → PureV P ⟨some d, op, ty, pos, af, none⟩ ρ v := by
      intro hg
      have hq := hg
      (try simp only [beq_iff_eq, Bool.and_eq_true, Bool.or_eq_true, decide_eq_true_eq, decide_eq_false_iff_not, Bool.not_eq_true, Bool.not_eq_false, Bool.not_eq_eq_eq_not, Bool.not_true, Bool.not_false, Bool.and_eq_false_iff, Bool.or_eq_false_iff, bne_iff_ne, ne_eq, Int.not_lt, Int.not_le, Nat.not_lt, Nat.not_le] at hq)
      first
        | (apply pv_orG hg <;> exact rfl)
        | (apply pv_andG hg <;> exact rfl)
        | (apply pv_move; (first | exact gv_true hg | exact gv_true (andL hg) | (conv => lhs; whnf)))
        | (apply pv_assign; (first | exact gv_true hg | exact gv_true (andL hg) | (conv => lhs; whnf)))
        | ((first | apply pv_lss | apply pv_geq | apply pv_gtr | apply pv_leq) <;> (first | exact rfl | exact gv_true hg | exact gv_true (andL hg)))
        | (apply pv_eql <;> (first | exact rfl | exact gv_true hg | exact gv_true (andL hg)))
        | (apply pv_neq <;> (first | exact rfl | exact gv_true hg | exact gv_true (andL hg)))
        | ((first | apply pv_add | apply pv_sub); (first | exact rfl | exact gv_true hg | exact gv_true (andL hg)); (first | exact rfl | exact gv_true hg | exact gv_true (andL hg)); omega; omega)
        | (apply pv_mul; (first | exact rfl | exact gv_true hg | exact gv_true (andL hg)); (first | exact rfl | exact gv_true hg | exact gv_true (andL hg)); (first | omega | assumption); (first | omega | assumption))
        | (apply pv_quo; (first | exact rfl | exact gv_true hg | exact gv_true (andL hg)); (first | exact rfl | exact gv_true hg | exact gv_true (andL hg)); omega; omega; omega)
        | (apply pv_rem; (first | exact rfl | exact gv_true hg | exact gv_true (andL hg)); (first | exact rfl | exact gv_true hg | exact gv_true (andL hg)); omega)
        | (apply pv_not; (first | exact rfl | exact gv_true hg | exact gv_true (andL hg)))
        | (apply pv_fieldAddr; (first | exact rfl | exact gv_true hg | exact gv_true (andL hg)))
        | (apply pv_len; (first | exact gv_true hg | exact gv_true (andL hg) | (conv => lhs; whnf)); (first | exact RS.at (by assumption) hw | exact rsO hw | assumption))
        | (apply pv_lenS; (first | exact rfl | exact gv_true hg | exact gv_true (andL hg)))
        | (apply pv_indexS; (first | exact rfl | exact gv_true hg | exact gv_true (andL hg)); (first | exact rfl | exact gv_true hg | exact gv_true (andL hg)); omega)
        | (apply pv_indexN; (first | exact gv_true hg | exact gv_true (andL hg) | (conv => lhs; whnf)); (first | exact rfl | exact gv_true hg | exact gv_true (andL hg)); (first | exact RS.at (by assumption) hw | exact rsO hw | assumption); (first | exact rfl | exact gv_true hg | exact gv_true (andL hg)); exact Nat.zero_lt_succ _; omega)
        | (apply pv_index; (first | exact gv_true hg | exact gv_true (andL hg) | (conv => lhs; whnf)); (first | exact rfl | exact gv_true hg | exact gv_true (andL hg)); (first | exact RS.at (by assumption) hw | exact rsO hw | assumption); (first | exact rfl | exact gv_true hg | exact gv_true (andL hg)); exact Nat.zero_lt_succ _; omega; omega)
        | (apply pv_extract <;> (first | exact rfl | exact gv_true hg | exact gv_true (andL hg)))
        | (apply pv_iface; (first | exact gv_true hg | exact gv_true (andL hg) | (conv => lhs; whnf)))
        | (apply pv_neqNil; (first | exact rfl | exact gv_true hg | exact gv_true (andL hg)))
        | (apply pv_eqlNil; (first | exact rfl | exact gv_true hg | exact gv_true (andL hg)))
        | (apply pv_neqHeld <;> (first | exact rfl | exact gv_true hg | exact gv_true (andL hg)))
        | (apply pv_eqlHeld <;> (first | exact rfl | exact gv_true hg | exact gv_true (andL hg)))
        | (apply pv_or <;> (first | exact rfl | exact gv_true hg | exact gv_true (andL hg)))
        | (apply pv_and <;> (first | exact rfl | exact gv_true hg | exact gv_true (andL hg)))
        | (apply pv_nilCheck; (first | exact rfl | exact gv_true hg | exact gv_true (andL hg)))
        | (apply pv_nilCheckI; (first | exact rfl | exact gv_true hg | exact gv_true (andL hg)))
        | (apply pv_assertOk; (first | exact rfl | exact gv_true hg | exact gv_true (andL hg)))
        | (apply pv_assert; (first | exact rfl | exact gv_true hg | exact gv_true (andL hg)))
        | (apply pv_eqlB <;> (first | exact rfl | exact gv_true hg | exact gv_true (andL hg)))
        | (apply pv_neqB <;> (first | exact rfl | exact gv_true hg | exact gv_true (andL hg)))
        | (apply pv_makeFunc; (first | exact rfl | exact gv_true hg | exact gv_true (andL hg)))
        | ((first | apply pv_min | apply pv_max) <;> (first | exact rfl | exact gv_true hg | exact gv_true (andL hg)))
        | (apply pv_neg; (first | exact rfl | exact gv_true hg | exact gv_true (andL hg)); omega; omega)
        | (apply pv_field <;> (first | exact rfl | exact gv_true hg | exact gv_true (andL hg)))
        | (apply pv_pick; (first | exact rfl | exact gv_true hg | exact gv_true (andL hg)); (first | exact gv_true hg | exact gv_true (andL hg) | (conv => lhs; whnf)); (first | exact gv_true hg | exact gv_true (andL hg) | (conv => lhs; whnf)))
        | (apply pv_sliceTo; (first | exact gv_true hg | exact gv_true (andL hg) | (conv => lhs; whnf)); (first | exact rfl | exact gv_true hg | exact gv_true (andL hg)); (first | exact RS.at (by assumption) hw | exact rsO hw | assumption); (first | exact rfl | exact gv_true hg | exact gv_true (andL hg)); omega; omega)
        | (apply pv_sliceFrom; (first | exact gv_true hg | exact gv_true (andL hg) | (conv => lhs; whnf)); (first | exact rfl | exact gv_true hg | exact gv_true (andL hg)); (first | exact RS.at (by assumption) hw | exact rsO hw | assumption); (first | exact rfl | exact gv_true hg | exact gv_true (andL hg)); omega; omega)
        | (apply pv_sliceBoth; (first | exact gv_true hg | exact gv_true (andL hg) | (conv => lhs; whnf)); (first | exact rfl | exact gv_true hg | exact gv_true (andL hg)); (first | exact rfl | exact gv_true hg | exact gv_true (andL hg)); (first | exact RS.at (by assumption) hw | exact rsO hw | assumption); (first | exact rfl | exact gv_true hg | exact gv_true (andL hg)); omega; omega; omega)
        | (apply pv_sliceAll; (first | exact gv_true hg | exact gv_true (andL hg) | (conv => lhs; whnf)); (first | exact RS.at (by assumption) hw | exact rsO hw | assumption); (first | exact rfl | exact gv_true hg | exact gv_true (andL hg)))) : opsW P ops K (⟨some d, op, ty, pos, af, some (j, want)⟩ :: r) ρ w := step_guard_pure hc hj hg hv h
theorem go_gread {j : Nat} {want c : Bool} {s : Nat} (h : opsW P ops K r (upd ρ d (gv c v)) w)
    (hc : cls P op = .read := by exact rfl) (hj : gslot ops j = some s := by exact rfl) (hg : Gd (ρ s) want c := by first | exact Gd_bool _ _ | exact Gd_gv _ _ _)
    (hv : c = true → ReadV P ⟨some d, op, ty, pos, af, none⟩ ρ w v := by
      intro hg
      have hq := hg
      (try simp only [beq_iff_eq, Bool.and_eq_true, Bool.or_eq_true, decide_eq_true_eq, decide_eq_false_iff_not, Bool.not_eq_true, Bool.not_eq_false, Bool.not_eq_eq_eq_not, Bool.not_true, Bool.not_false, Bool.and_eq_false_iff, Bool.or_eq_false_iff, bne_iff_ne, ne_eq, Int.not_lt, Int.not_le, Nat.not_lt, Nat.not_le] at hq)
      first
        | (apply rv_box; (first | exact rfl | exact gv_true hg | exact gv_true (andL hg)); exact hw; infer_instance; (first | exact rfl | exact gv_true hg | exact gv_true (andL hg)))
        | (apply rv_box0; (first | exact rfl | exact gv_true hg | exact gv_true (andL hg)); exact hw; infer_instance; (first | exact rfl | exact gv_true hg | exact gv_true (andL hg)))
        | (apply rv_elemV; (first | exact rfl | exact gv_true hg | exact gv_true (andL hg)); (first | exact RS.at (by assumption) hw | exact rsO hw | assumption); omega)
        | (apply rv_elemFieldO; (first | exact rfl | exact gv_true hg | exact gv_true (andL hg)); (first | exact RS.at (by assumption) hw | exact rsO hw | assumption); omega; exact Nat.lt_of_sub_pos (Nat.zero_lt_succ _); infer_instance; (first | exact rfl | exact gv_true hg | exact gv_true (andL hg)))
        | (apply rv_elemAggO; (first | exact rfl | exact gv_true hg | exact gv_true (andL hg)); (first | exact RS.at (by assumption) hw | exact rsO hw | assumption); omega; (first | exact rfl | exact gv_true hg | exact gv_true (andL hg)); infer_instance)
        | (apply rv_elem; (first | exact rfl | exact gv_true hg | exact gv_true (andL hg)); (first | exact RS.at (by assumption) hw | exact rsO hw | assumption); omega; (first | exact rfl | exact gv_true hg | exact gv_true (andL hg)))
        | (apply rv_elemField; (first | exact rfl | exact gv_true hg | exact gv_true (andL hg)); (first | exact RS.at (by assumption) hw | exact rsO hw | assumption); omega; exact Nat.lt_of_sub_pos (Nat.zero_lt_succ _); (first | exact rfl | exact gv_true hg | exact gv_true (andL hg)))
        | (apply rv_elemAgg; (first | exact rfl | exact gv_true hg | exact gv_true (andL hg)); (first | exact RS.at (by assumption) hw | exact rsO hw | assumption); omega; (first | exact rfl | exact gv_true hg | exact gv_true (andL hg)))
        | (apply rv_boxAgg; (first | exact rfl | exact gv_true hg | exact gv_true (andL hg)); exact hw; infer_instance; (first | exact rfl | exact gv_true hg | exact gv_true (andL hg)))) : opsW P ops K (⟨some d, op, ty, pos, af, some (j, want)⟩ :: r) ρ w := step_guard_read hc hj hg hv h
theorem gvff (v : Value) : gv (false == false) v = v := gv_true rfl
theorem gvtt (v : Value) : gv (true == true) v = v := gv_true rfl
/-- Part at the guard of the next operation. -/
theorem go_case {j : Nat} {want b : Bool} {s : Nat} (h1 : b = true → opsW P ops K (⟨dst, op, ty, pos, af, some (j, want)⟩ :: r) ρ w) (h0 : b = false → opsW P ops K (⟨dst, op, ty, pos, af, some (j, want)⟩ :: r) ρ w) (_hj : gslot ops j = some s := by exact rfl) (_hs : ρ s = .bool b := by exact rfl) : opsW P ops K (⟨dst, op, ty, pos, af, some (j, want)⟩ :: r) ρ w := by
  cases hb : b with
  | true => exact h1 hb
  | false => exact h0 hb
theorem go_alloc {zs : List Value} [Z : ZeroT P t zs] (h : ∀ p w', Sat w0 w' (Box p t zs :: Γ) → opsW P ops K r (upd ρ d (.pointer (some p))) w') (hw : Sat w0 w Γ := by exact hw) : opsW P ops K (⟨some d, .alloc t, ty, pos, af, none⟩ :: r) ρ w := st_alloc hw h
theorem go_box (h : ∀ p w', Sat w0 w' (Box p t v.cells.toList :: Γ) → opsW P ops K r (upd ρ d (.pointer (some p))) w') (hx : evl ρ x = v := by (conv => lhs; whnf)) (hw : Sat w0 w Γ := by exact hw) : opsW P ops K (⟨some d, .box t x, ty, pos, af, none⟩ :: r) ρ w := st_boxNew hx hw h
theorem go_stBoxAgg {n : Nat} {p : Addr} {bt : TypeId} {cells vs : List Value} {put : HP → List HP} [A : AggT P t n] (h : ∀ w', Sat w0 w' (put (Box p bt vs)) → opsW P ops K r ρ w')
    (hx : evl ρ x = .pointer (some p) := by exact rfl) (hy : evl ρ y = .agg vs.toArray := by exact rfl) (hw : Sat w0 w Γ := by exact hw) (B : BoxAt Γ p bt cells put := by infer_instance) (hn : vs.length = n := by exact rfl) (hl : cells.length = n := by exact rfl) (hv : vs.all Value.oneCell' = true := by first | exact rfl | assumption) : opsW P ops K (⟨none, .store t x y, ty, pos, af, none⟩ :: r) ρ w := st_boxAgg hx hy hw B hn hl hv h
theorem go_stElem {α : Type} {T : Ty α} {s : Value} {xs : List α} {j : Nat} {e : TypeId} {x' : α} {put : HP → List HP} [C : CellT P t] (h : ∀ w', Sat w0 w' (put (OS T e s (xs.set j x'))) → opsW P ops K r ρ w')
    (hx : evl ρ x = .pointer (some (eadr T s j)) := by exact rfl) (hy : evl ρ y = v := by (conv => lhs; whnf)) (hv : v.oneCell' = true := by first | exact rfl | exact RS.one (rsO hw) | exact RS.one (by assumption)) (hw : Sat w0 w Γ := by exact hw) (O : OwnAt Γ s α T e xs put := by infer_instance) (hj : j < xs.length := by omega) (he : T.enc x' = [v] := by exact rfl) : opsW P ops K (⟨none, .store t x y, ty, pos, af, none⟩ :: r) ρ w := st_elem hx hy hv hw O hj he h
theorem go_stBox0 {p : Addr} {bt : TypeId} {cells : List Value} {put : HP → List HP} [C : CellT P t] (h : ∀ w', Sat w0 w' (put (Box p bt (cells.set 0 v))) → opsW P ops K r ρ w')
    (hx : evl ρ x = .pointer (some p) := by exact rfl) (hy : evl ρ y = v := by (conv => lhs; whnf)) (hv : v.oneCell' = true := by first | exact rfl | exact RS.one (rsO hw) | exact RS.one (by assumption)) (hw : Sat w0 w Γ := by exact hw) (B : BoxAt Γ p bt cells put := by infer_instance) (hk : 0 < cells.length := by exact Nat.zero_lt_succ _) : opsW P ops K (⟨none, .store t x y, ty, pos, af, none⟩ :: r) ρ w := st_box0 hx hy hv hw B hk h
theorem go_stBox {k : Nat} {p : Addr} {bt : TypeId} {cells : List Value} {put : HP → List HP} [C : CellT P t] (h : ∀ w', Sat w0 w' (put (Box p bt (cells.set k v))) → opsW P ops K r ρ w')
    (hx : evl ρ x = .pointer (some (p.add k)) := by exact rfl) (hy : evl ρ y = v := by (conv => lhs; whnf)) (hv : v.oneCell' = true := by first | exact rfl | exact RS.one (rsO hw) | exact RS.one (by assumption)) (hw : Sat w0 w Γ := by exact hw) (B : BoxAt Γ p bt cells put := by infer_instance) (hk : k < cells.length := by exact Nat.lt_of_sub_pos (Nat.zero_lt_succ _)) : opsW P ops K (⟨none, .store t x y, ty, pos, af, none⟩ :: r) ρ w := st_box hx hy hv hw B hk h
theorem go_makeI {e sz by_ : Nat} {n : Int} {zs : List Value} [S : SliceT P t e sz by_] [Z : ZeroT P e zs] (h : ∀ s w', Sat w0 w' (OS tInt e s (List.replicate n.toNat 0) :: Γ) → opsW P ops K r (upd ρ d s) w')
    (hx : evl ρ x = .int .i64 n := by exact rfl) (hy : evl ρ y = .int .i64 n := by exact rfl) (hsz : sz = tInt.sz := by exact rfl) (hz : tInt.enc 0 = zs := by exact rfl) (h0 : 0 ≤ n := by omega) (hb : by_ * n ≤ 281474976710656 := by omega) (hn : n ≤ 281474976710656 := by omega) (hw : Sat w0 w Γ := by exact hw) : opsW P ops K (⟨some d, .makeSlice t x y, ty, pos, af, none⟩ :: r) ρ w := st_make tInt 0 hx hy hsz hz h0 hb hn hw h
theorem go_makeB {e sz by_ : Nat} {n : Int} {zs : List Value} [S : SliceT P t e sz by_] [Z : ZeroT P e zs] (h : ∀ s w', Sat w0 w' (OS tBool e s (List.replicate n.toNat false) :: Γ) → opsW P ops K r (upd ρ d s) w')
    (hx : evl ρ x = .int .i64 n := by exact rfl) (hy : evl ρ y = .int .i64 n := by exact rfl) (hsz : sz = tBool.sz := by exact rfl) (hz : tBool.enc false = zs := by exact rfl) (h0 : 0 ≤ n := by omega) (hb : by_ * n ≤ 281474976710656 := by omega) (hn : n ≤ 281474976710656 := by omega) (hw : Sat w0 w Γ := by exact hw) : opsW P ops K (⟨some d, .makeSlice t x y, ty, pos, af, none⟩ :: r) ρ w := st_make tBool false hx hy hsz hz h0 hb hn hw h
theorem go_makeS {e sz by_ : Nat} {n : Int} {zs : List Value} [S : SliceT P t e sz by_] [Z : ZeroT P e zs] (h : ∀ s w', Sat w0 w' (OS tVal e s (List.replicate n.toNat (.slice none 0 0)) :: Γ) → opsW P ops K r (upd ρ d s) w')
    (hx : evl ρ x = .int .i64 n := by exact rfl) (hy : evl ρ y = .int .i64 n := by exact rfl) (hsz : sz = tVal.sz := by exact rfl) (hz : tVal.enc (.slice none 0 0) = zs := by exact rfl) (h0 : 0 ≤ n := by omega) (hb : by_ * n ≤ 281474976710656 := by omega) (hn : n ≤ 281474976710656 := by omega) (hw : Sat w0 w Γ := by exact hw) : opsW P ops K (⟨some d, .makeSlice t x y, ty, pos, af, none⟩ :: r) ρ w := st_make tVal (.slice none 0 0) hx hy hsz hz h0 hb hn hw h
theorem go_build1 {i1 : Nat} {x1 : Operand} {v1 : Value} {places : List (Nat × Nat)} {zs : List Value} [S : StructT P t places] [Z : ZeroT P t zs] (h : opsW P ops K r (upd ρ d (.agg (setsL zs [(i1, v1)]).toArray)) w) (h1 : evl ρ x1 = v1 := by (conv => lhs; whnf)) (ho : onesB places zs.length = true := by exact rfl) (hv : [(i1, v1)].all (fun p => decide (p.1 < zs.length) && p.2.oneCell') = true := by exact rfl) : opsW P ops K (⟨some d, .build t #[(i1, x1)], ty, pos, af, none⟩ :: r) ρ w := st_build1 h1 ho hv h
theorem go_build2 {i1 i2 : Nat} {x1 x2 : Operand} {v1 v2 : Value} {places : List (Nat × Nat)} {zs : List Value} [S : StructT P t places] [Z : ZeroT P t zs] (h : opsW P ops K r (upd ρ d (.agg (setsL zs [(i1, v1), (i2, v2)]).toArray)) w) (h1 : evl ρ x1 = v1 := by (conv => lhs; whnf)) (h2 : evl ρ x2 = v2 := by (conv => lhs; whnf)) (ho : onesB places zs.length = true := by exact rfl) (hv : [(i1, v1), (i2, v2)].all (fun p => decide (p.1 < zs.length) && p.2.oneCell') = true := by exact rfl) : opsW P ops K (⟨some d, .build t #[(i1, x1), (i2, x2)], ty, pos, af, none⟩ :: r) ρ w := st_build2 h1 h2 ho hv h
theorem go_build3 {i1 i2 i3 : Nat} {x1 x2 x3 : Operand} {v1 v2 v3 : Value} {places : List (Nat × Nat)} {zs : List Value} [S : StructT P t places] [Z : ZeroT P t zs] (h : opsW P ops K r (upd ρ d (.agg (setsL zs [(i1, v1), (i2, v2), (i3, v3)]).toArray)) w) (h1 : evl ρ x1 = v1 := by (conv => lhs; whnf)) (h2 : evl ρ x2 = v2 := by (conv => lhs; whnf)) (h3 : evl ρ x3 = v3 := by (conv => lhs; whnf)) (ho : onesB places zs.length = true := by exact rfl) (hv : [(i1, v1), (i2, v2), (i3, v3)].all (fun p => decide (p.1 < zs.length) && p.2.oneCell') = true := by exact rfl) : opsW P ops K (⟨some d, .build t #[(i1, x1), (i2, x2), (i3, x3)], ty, pos, af, none⟩ :: r) ρ w := st_build3 h1 h2 h3 ho hv h
theorem go_sl1I {e sz by_ : Nat} {n : Int} {zs : List Value} [S : SliceT P t e sz by_] [Z : ZeroT P e zs] (h : ∀ s w', Sat w0 w' (OS tInt e s [n] :: Γ) → opsW P ops K r (upd ρ d s) w')
    (hx : evl ρ x = .int .i64 n := by exact rfl) (hsz : sz = tInt.sz := by exact rfl) (hsm : sz ≤ 16777216 := by exact Nat.le_of_ble_eq_true rfl) (hp : 0 < sz := by exact Nat.zero_lt_succ _) (hw : Sat w0 w Γ := by exact hw) : opsW P ops K (⟨some d, .buildSlice t 1 #[(0, x)], ty, pos, af, none⟩ :: r) ρ w := st_buildSlice1 tInt hx rfl hsz hsm hp hw h
theorem go_sl1V {e sz by_ : Nat} {zs : List Value} [S : SliceT P t e sz by_] [Z : ZeroT P e zs] (h : ∀ s w', Sat w0 w' (OS tVal e s [v] :: Γ) → opsW P ops K r (upd ρ d s) w')
    (hx : evl ρ x = v := by (conv => lhs; whnf)) (hc : v.cells.toList = [v] := by first | exact rfl | exact RS.cells1 (rsO hw) | exact RS.cells1 (by assumption)) (hsz : sz = tVal.sz := by exact rfl) (hsm : sz ≤ 16777216 := by exact Nat.le_of_ble_eq_true rfl) (hp : 0 < sz := by exact Nat.zero_lt_succ _) (hw : Sat w0 w Γ := by exact hw) : opsW P ops K (⟨some d, .buildSlice t 1 #[(0, x)], ty, pos, af, none⟩ :: r) ρ w := st_buildSlice1 tVal hx hc hsz hsm hp hw h
theorem go_append {α : Type} {T : Ty α} {s s2 : Value} {xs ys : List α} {e sz by_ : Nat} {zs : List Value} {put : HP → List HP} [S : SliceT P t e sz by_] [Z : ZeroT P e zs] (h : ∀ s' w', Sat w0 w' (put (OS T e s' (xs ++ ys))) → opsW P ops K r (upd ρ d s') w')
    (hx : evl ρ x = s := by (conv => lhs; whnf)) (hy : evl ρ y = s2 := by (conv => lhs; whnf)) (hw : Sat w0 w Γ := by exact hw) (O : OwnAt Γ s α T e xs put := by infer_instance) (h2 : RS T w s2 ys := by (first | exact RS.at (by assumption) hw | exact rsO hw | assumption))
    (hsz : sz = T.sz := by exact rfl) (hzl : zs.length = sz := by exact rfl) (hone : ∀ x ∈ ys, ∀ v ∈ T.enc x, v.oneCell' = true := by first | exact fun x _ v hv => OneT.ok x v hv | (intro x hx v hv; rw [List.mem_singleton.1 hx] at hv; rw [List.mem_singleton.1 hv]; first | exact rfl | exact RS.one (rsO hw) | exact RS.one (by assumption))) (hb : (xs.length + ys.length) * by_ ≤ 140737488355328 := by first | omega | (simp only [List.length_append, List.length_cons, List.length_nil, List.length_replicate] at *; omega)) (hl : xs.length + ys.length ≤ big := by first | (unfold big; omega) | (unfold big; simp only [List.length_append, List.length_cons, List.length_nil, List.length_replicate] at *; omega)) :
    opsW P ops K (⟨some d, .call { callee := .builtin .append, args := #[x, y], argTypes := #[t, t] }, ty, pos, af, none⟩ :: r) ρ w := st_append O hx hy h2 hsz hzl hone hb hl hw h
theorem go_chk {l : List Oper} {i : Nat} {is : List Item} (h : opsD P l.toArray K is ρ w) (ho : l[i]? = some ⟨some d, op, ty, pos, af, none⟩ := by exact rfl)
    (hv : ReadV P ⟨some d, op, ty, pos, af, none⟩ ρ w v := by
      first
        | (apply rv_box; exact rfl; exact hw; infer_instance; exact rfl)
        | (apply rv_box0; exact rfl; exact hw; infer_instance; exact rfl)
        | (apply rv_elemV; exact rfl; (first | exact RS.at (by assumption) hw | exact rsO hw | assumption); omega)
        | (apply rv_elemFieldO; exact rfl; (first | exact RS.at (by assumption) hw | exact rsO hw | assumption); omega; exact Nat.lt_of_sub_pos (Nat.zero_lt_succ _); infer_instance; exact rfl)
        | (apply rv_elemAggO; exact rfl; (first | exact RS.at (by assumption) hw | exact rsO hw | assumption); omega; exact rfl; infer_instance)
        | (apply rv_elem; exact rfl; (first | exact RS.at (by assumption) hw | exact rsO hw | assumption); omega; exact rfl)
        | (apply rv_elemField; exact rfl; (first | exact RS.at (by assumption) hw | exact rsO hw | assumption); omega; exact Nat.lt_of_sub_pos (Nat.zero_lt_succ _); exact rfl)
        | (apply rv_elemAgg; exact rfl; (first | exact RS.at (by assumption) hw | exact rsO hw | assumption); omega; exact rfl)
        | (apply rv_boxAgg; exact rfl; exact hw; infer_instance; exact rfl)) (he : ρ d = v := by exact rfl) : opsD P l.toArray K (.chk i :: is) ρ w := opsD_chk ho hv he h
theorem go_gchk {l : List Oper} {i : Nat} {is : List Item} {j : Nat} {want c : Bool} {s : Nat} (h : opsD P l.toArray K is ρ w) (ho : l[i]? = some ⟨some d, op, ty, pos, af, some (j, want)⟩ := by exact rfl) (hj : gslot l.toArray j = some s := by exact rfl) (hg : Gd (ρ s) want c := by first | exact Gd_bool _ _ | exact Gd_gv _ _ _) (he : ρ d = gv c v := by exact rfl)
    (hv : c = true → ReadV P ⟨some d, op, ty, pos, af, none⟩ ρ w v := by
      intro hg
      have hq := hg
      (try simp only [beq_iff_eq, Bool.and_eq_true, Bool.or_eq_true, decide_eq_true_eq, decide_eq_false_iff_not, Bool.not_eq_true, Bool.not_eq_false, Bool.not_eq_eq_eq_not, Bool.not_true, Bool.not_false, Bool.and_eq_false_iff, Bool.or_eq_false_iff, bne_iff_ne, ne_eq, Int.not_lt, Int.not_le, Nat.not_lt, Nat.not_le] at hq)
      first
        | (apply rv_box; (first | exact rfl | exact gv_true hg | exact gv_true (andL hg)); exact hw; infer_instance; (first | exact rfl | exact gv_true hg | exact gv_true (andL hg)))
        | (apply rv_box0; (first | exact rfl | exact gv_true hg | exact gv_true (andL hg)); exact hw; infer_instance; (first | exact rfl | exact gv_true hg | exact gv_true (andL hg)))
        | (apply rv_elemV; (first | exact rfl | exact gv_true hg | exact gv_true (andL hg)); (first | exact RS.at (by assumption) hw | exact rsO hw | assumption); omega)
        | (apply rv_elemFieldO; (first | exact rfl | exact gv_true hg | exact gv_true (andL hg)); (first | exact RS.at (by assumption) hw | exact rsO hw | assumption); omega; exact Nat.lt_of_sub_pos (Nat.zero_lt_succ _); infer_instance; (first | exact rfl | exact gv_true hg | exact gv_true (andL hg)))
        | (apply rv_elemAggO; (first | exact rfl | exact gv_true hg | exact gv_true (andL hg)); (first | exact RS.at (by assumption) hw | exact rsO hw | assumption); omega; (first | exact rfl | exact gv_true hg | exact gv_true (andL hg)); infer_instance)
        | (apply rv_elem; (first | exact rfl | exact gv_true hg | exact gv_true (andL hg)); (first | exact RS.at (by assumption) hw | exact rsO hw | assumption); omega; (first | exact rfl | exact gv_true hg | exact gv_true (andL hg)))
        | (apply rv_elemField; (first | exact rfl | exact gv_true hg | exact gv_true (andL hg)); (first | exact RS.at (by assumption) hw | exact rsO hw | assumption); omega; exact Nat.lt_of_sub_pos (Nat.zero_lt_succ _); (first | exact rfl | exact gv_true hg | exact gv_true (andL hg)))
        | (apply rv_elemAgg; (first | exact rfl | exact gv_true hg | exact gv_true (andL hg)); (first | exact RS.at (by assumption) hw | exact rsO hw | assumption); omega; (first | exact rfl | exact gv_true hg | exact gv_true (andL hg)))
        | (apply rv_boxAgg; (first | exact rfl | exact gv_true hg | exact gv_true (andL hg)); exact hw; infer_instance; (first | exact rfl | exact gv_true hg | exact gv_true (andL hg)))) : opsD P l.toArray K (.chk i :: is) ρ w := by
  refine opsD_gchk (v := v) ho (fun hq => ?_) h
  have hc : c = true := by
    simp only [guardB, hj] at hq
    rw [← hq]; exact hg.symm
  exact ⟨hv hc, by rw [he, hc]; exact gv_true rfl⟩
theorem go_gchkT {l : List Oper} {i : Nat} {is : List Item} {j : Nat} {want : Bool} (h : opsD P l.toArray K is ρ w) (ho : l[i]? = some ⟨some d, op, ty, pos, af, some (j, want)⟩ := by exact rfl)
    (hv : ReadV P ⟨some d, op, ty, pos, af, none⟩ ρ w v := by
      first
        | (apply rv_box; exact rfl; exact hw; infer_instance; exact rfl)
        | (apply rv_box0; exact rfl; exact hw; infer_instance; exact rfl)
        | (apply rv_elemV; exact rfl; (first | exact RS.at (by assumption) hw | exact rsO hw | assumption); omega)
        | (apply rv_elemFieldO; exact rfl; (first | exact RS.at (by assumption) hw | exact rsO hw | assumption); omega; exact Nat.lt_of_sub_pos (Nat.zero_lt_succ _); infer_instance; exact rfl)
        | (apply rv_elemAggO; exact rfl; (first | exact RS.at (by assumption) hw | exact rsO hw | assumption); omega; exact rfl; infer_instance)
        | (apply rv_elem; exact rfl; (first | exact RS.at (by assumption) hw | exact rsO hw | assumption); omega; exact rfl)
        | (apply rv_elemField; exact rfl; (first | exact RS.at (by assumption) hw | exact rsO hw | assumption); omega; exact Nat.lt_of_sub_pos (Nat.zero_lt_succ _); exact rfl)
        | (apply rv_elemAgg; exact rfl; (first | exact RS.at (by assumption) hw | exact rsO hw | assumption); omega; exact rfl)
        | (apply rv_boxAgg; exact rfl; exact hw; infer_instance; exact rfl)) (he : ρ d = v := by exact rfl) : opsD P l.toArray K (.chk i :: is) ρ w := opsD_gchk ho (fun _ => ⟨hv, he⟩) h
theorem go_chkOff {l : List Oper} {i : Nat} {is : List Item} {j : Nat} {want : Bool} {s : Nat} (h : opsD P l.toArray K is ρ w) (ho : l[i]? = some ⟨some d, op, ty, pos, af, some (j, want)⟩ := by exact rfl) (hj : gslot l.toArray j = some s := by exact rfl) (hg : asks (ρ s) want = false := by exact rfl) : opsD P l.toArray K (.chk i :: is) ρ w := by
  refine opsD_gchk (v := .bool false) ho (fun hq => ?_) h
  simp only [guardB, hj] at hq
  rw [hg] at hq
  cases hq
theorem go_draw {Q : Exit → Fr → World → Prop} {i : Nat} {l : List Oper} (h : ∀ w', Sat w0 w' Γ → opsW P l.toArray (Q .normal) l ρ w') (hw : Sat w0 w Γ := by exact hw) (hc : commB P l.toArray = true := by decide +kernel) : vc P (.region i l.toArray true) Q ρ w := vc_draw hw hc h
theorem go_exit_ne {Q : Exit → Fr → World → Prop} {i j : Nat} (h : Q (.exit i) ρ w) (hne : Nat.beq i j = false := by exact rfl) : Blk j Q (.exit i) ρ w := blk_exit_ne hne h
theorem go_if {Q : Exit → Fr → World → Prop} {c : Operand} {x y : Code} {b : Bool} {p q : Prop} (h1 : p → vc P x Q ρ w) (h0 : q → vc P y Q ρ w) (hc : evl ρ c = .bool b := by exact rfl)
    (hp : b = true → p := by
      intro hq
      (try simp only [beq_iff_eq, Bool.and_eq_true, Bool.or_eq_true, decide_eq_true_eq, decide_eq_false_iff_not, Bool.not_eq_true, Bool.not_eq_false, Bool.not_eq_eq_eq_not, Bool.not_true, Bool.not_false, Bool.and_eq_false_iff, Bool.or_eq_false_iff, bne_iff_ne, ne_eq, Int.not_lt, Int.not_le, Nat.not_lt, Nat.not_le] at hq)
      exact hq)
    (hn : b = false → q := by
      intro hq
      (try simp only [beq_iff_eq, Bool.and_eq_true, Bool.or_eq_true, decide_eq_true_eq, decide_eq_false_iff_not, Bool.not_eq_true, Bool.not_eq_false, Bool.not_eq_eq_eq_not, Bool.not_true, Bool.not_false, Bool.and_eq_false_iff, Bool.or_eq_false_iff, bne_iff_ne, ne_eq, Int.not_lt, Int.not_le, Nat.not_lt, Nat.not_le] at hq)
      exact hq) : vc P (.cond c x y) Q ρ w := vc_cond hc (fun h => h1 (hp h)) (fun h => h0 (hn h))
theorem go_condT {Q : Exit → Fr → World → Prop} {c : Operand} {a b : Code} (h : vc P a Q ρ w) (hc : evl ρ c = .bool true := by exact rfl) : vc P (.cond c a b) Q ρ w := vc_condT hc h
theorem go_condF {Q : Exit → Fr → World → Prop} {c : Operand} {a b : Code} (h : vc P b Q ρ w) (hc : evl ρ c = .bool false := by exact rfl) : vc P (.cond c a b) Q ρ w := vc_condF hc h

/-- What is left, shut away from the tactic that looks for assumptions. -/
structure Leav (p : Prop) : Prop where
  out : p
/-- Steps that bring nothing new into view, as far as they go (the default tactic finds what is left). -/
theorem go_run {G G' : Prop} (h : G') (hs : Leav G' → G := by intro hgo; (first | refine vc_seq ?_ | refine thn_normal ?_ | refine vc_region ?_ | refine ops_nil ?_ | refine go_pure ?_ | refine go_read ?_ | refine vc_block ?_ | refine blk_normal ?_ | refine vc_skip ?_ | refine vc_exit ?_ | refine vc_ret ?_ | refine thn_exit ?_ | refine thn_ret ?_ | refine blk_ret ?_ | refine blk_exit ?_ | refine go_exit_ne ?_ | refine go_condT ?_ | refine go_condF ?_ | refine opsD_op ?_ | refine opsD_nil ?_ | refine go_chk ?_ | refine go_chkOff ?_ | refine go_gchkT ?_ | refine go_gchk ?_ | refine opsT_lin ?_ | refine opsT_step ?_ | refine go_gt ?_ | refine go_gf ?_ | refine go_gpure ?_ | refine go_gread ?_ | refine go_build1 ?_ | refine go_build2 ?_ | refine go_build3 ?_); (repeat (first | refine vc_seq ?_ | refine thn_normal ?_ | refine vc_region ?_ | refine ops_nil ?_ | refine go_pure ?_ | refine go_read ?_ | refine vc_block ?_ | refine blk_normal ?_ | refine vc_skip ?_ | refine vc_exit ?_ | refine vc_ret ?_ | refine thn_exit ?_ | refine thn_ret ?_ | refine blk_ret ?_ | refine blk_exit ?_ | refine go_exit_ne ?_ | refine go_condT ?_ | refine go_condF ?_ | refine opsD_op ?_ | refine opsD_nil ?_ | refine go_chk ?_ | refine go_chkOff ?_ | refine go_gchkT ?_ | refine go_gchk ?_ | refine opsT_lin ?_ | refine opsT_step ?_ | refine go_gt ?_ | refine go_gf ?_ | refine go_gpure ?_ | refine go_gread ?_ | refine go_build1 ?_ | refine go_build2 ?_ | refine go_build3 ?_)); exact hgo.out) : G := hs ⟨h⟩
theorem go_runC {G G' : Prop} (h : G') (hs : Leav G' → G := by intro hgo; (first | refine vc_seq ?_ | refine thn_normal ?_ | refine vc_region ?_ | refine ops_nil ?_ | refine go_pure ?_ | refine go_read ?_ | refine vc_block ?_ | refine blk_normal ?_ | refine vc_skip ?_ | refine vc_exit ?_ | refine vc_ret ?_ | refine thn_exit ?_ | refine thn_ret ?_ | refine blk_ret ?_ | refine blk_exit ?_ | refine go_exit_ne ?_ | refine opsD_op ?_ | refine opsD_nil ?_ | refine go_chk ?_ | refine go_chkOff ?_ | refine go_gchkT ?_ | refine go_gchk ?_ | refine opsT_lin ?_ | refine opsT_step ?_ | refine go_gt ?_ | refine go_gf ?_ | refine go_gpure ?_ | refine go_gread ?_ | refine go_build1 ?_ | refine go_build2 ?_ | refine go_build3 ?_); (repeat (first | refine vc_seq ?_ | refine thn_normal ?_ | refine vc_region ?_ | refine ops_nil ?_ | refine go_pure ?_ | refine go_read ?_ | refine vc_block ?_ | refine blk_normal ?_ | refine vc_skip ?_ | refine vc_exit ?_ | refine vc_ret ?_ | refine thn_exit ?_ | refine thn_ret ?_ | refine blk_ret ?_ | refine blk_exit ?_ | refine go_exit_ne ?_ | refine opsD_op ?_ | refine opsD_nil ?_ | refine go_chk ?_ | refine go_chkOff ?_ | refine go_gchkT ?_ | refine go_gchk ?_ | refine opsT_lin ?_ | refine opsT_step ?_ | refine go_gt ?_ | refine go_gf ?_ | refine go_gpure ?_ | refine go_gread ?_ | refine go_build1 ?_ | refine go_build2 ?_ | refine go_build3 ?_)); exact hgo.out) : G := hs ⟨h⟩
theorem go_runK {G G' : Prop} (h : G') (hs : Leav G' → G := by intro hgo; (first | refine vc_seq ?_ | refine thn_normal ?_ | refine vc_region ?_ | refine ops_nil ?_ | refine go_pure ?_ | refine go_read ?_ | refine vc_block ?_ | refine blk_normal ?_ | refine vc_skip ?_ | refine vc_exit ?_ | refine vc_ret ?_ | refine thn_exit ?_ | refine thn_ret ?_ | refine blk_ret ?_ | refine blk_exit ?_ | refine go_exit_ne ?_ | refine go_condT ?_ | refine go_condF ?_ | refine opsD_op ?_ | refine opsD_nil ?_ | refine opsT_lin ?_ | refine opsT_step ?_ | refine go_gt ?_ | refine go_gf ?_ | refine go_gpure ?_ | refine go_gread ?_ | refine go_build1 ?_ | refine go_build2 ?_ | refine go_build3 ?_); (repeat (first | refine vc_seq ?_ | refine thn_normal ?_ | refine vc_region ?_ | refine ops_nil ?_ | refine go_pure ?_ | refine go_read ?_ | refine vc_block ?_ | refine blk_normal ?_ | refine vc_skip ?_ | refine vc_exit ?_ | refine vc_ret ?_ | refine thn_exit ?_ | refine thn_ret ?_ | refine blk_ret ?_ | refine blk_exit ?_ | refine go_exit_ne ?_ | refine go_condT ?_ | refine go_condF ?_ | refine opsD_op ?_ | refine opsD_nil ?_ | refine opsT_lin ?_ | refine opsT_step ?_ | refine go_gt ?_ | refine go_gf ?_ | refine go_gpure ?_ | refine go_gread ?_ | refine go_build1 ?_ | refine go_build2 ?_ | refine go_build3 ?_)); exact hgo.out) : G := hs ⟨h⟩
/-- One step that brings a new address (P), world (W) or slice (S) into view. -/
theorem go_newP {G G' : Prop} (h : G') (hs : Leav G' → G := by intro hgo; (first | refine go_alloc ?_ | refine go_box ?_); exact hgo.out) : G := hs ⟨h⟩
theorem go_newW {G G' : Prop} (h : G') (hs : Leav G' → G := by intro hgo; (first | refine go_stBoxAgg ?_ | refine go_stElem ?_ | refine go_stBox0 ?_ | refine go_stBox ?_ | refine go_draw ?_); exact hgo.out) : G := hs ⟨h⟩
theorem go_newWr {G G' : Prop} (h : G') (hs : Leav G' → G := by intro hgo; (first | refine go_stBoxAgg ?_ | refine go_stElem ?_ | refine go_stBox0 ?_ | refine go_stBox ?_); exact hgo.out) : G := hs ⟨h⟩
theorem go_newWs {G G' : Prop} (h : G') (hs : Leav G' → G := by intro hgo; (first | refine go_draw ?_); exact hgo.out) : G := hs ⟨h⟩
theorem go_newS {G G' : Prop} (h : G') (hs : Leav G' → G := by intro hgo; (first | refine go_makeI ?_ | refine go_makeB ?_ | refine go_makeS ?_ | refine go_sl1I ?_ | refine go_sl1V ?_ | refine go_append ?_); exact hgo.out) : G := hs ⟨h⟩
theorem go_newSv {G G' : Prop} (h : G') (hs : Leav G' → G := by intro hgo; (first | refine go_makeI ?_ | refine go_makeB ?_ | refine go_makeS ?_ | refine go_sl1I ?_ | refine go_append ?_); exact hgo.out) : G := hs ⟨h⟩
end
end Go.Sl
