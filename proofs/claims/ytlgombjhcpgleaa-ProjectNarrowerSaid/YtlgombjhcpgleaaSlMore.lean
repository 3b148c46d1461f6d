/-
  More operations: booleans compared, type assertions, literals, make.
-/
import Derived.Test.YtlgombjhcpgleaaSlCtl
namespace Go.Sl
open Go.RowKit (Below)
def boolB (P : Program) (t : Nat) : Bool := match P.underlying t with | some .bool => true | _ => false
class BoolT (P : Program) (t : Nat) : Prop where
  ok : boolB P t = true
section
variable {P : Program}
theorem BoolT.und {t : Nat} (h : BoolT P t) : P.underlying t = some .bool := by
  have h := h.ok
  unfold boolB at h
  split at h
  · assumption
  · cases h
section
variable {ops : Array Oper} {K : Fr → World → Prop} {r : List Oper} {ρ : Fr} {w w0 : World} {d : Nat} {ty : TypeId} {pos : String} {af : Array Edge} {g : Option (Nat × Bool)} {dst : Option Nat} {x y z : Operand} {t t' : TypeId} {Γ : List HP}
theorem pv_eqlB {a b : Bool} [B : BoolT P t] (hx : evl ρ x = .bool a) (hy : evl ρ y = .bool b) : PureV P ⟨dst, .binOp .eql t x y t', ty, pos, af, g⟩ ρ (.bool (a == b)) := fun w => by
  simp [execOp, eqGuard, hx, hy, run_eql_bool w t a b B.und]
theorem pv_neqB {a b : Bool} [B : BoolT P t] (hx : evl ρ x = .bool a) (hy : evl ρ y = .bool b) : PureV P ⟨dst, .binOp .neq t x y t', ty, pos, af, g⟩ ρ (.bool (!(a == b))) := fun w => by
  simp [execOp, eqGuard, hx, hy, run_neq_bool w t a b B.und]
theorem pv_assertOk {v : Value} [Q : PlainT P t] (hx : evl ρ x = .iface t v) : PureV P ⟨dst, .typeAssert x t' t true, ty, pos, af, g⟩ ρ (.tuple #[v, .bool true]) := fun w => by
  obtain ⟨dd, hd, hn⟩ := Q.und
  simp only [execOp, Instr.typeAssert, Sem.run_bind, run_underlying hd, Result.andThen_ok, hx]
  cases dd <;> first | exact absurd rfl (hn _) | simp
theorem pv_assert {v : Value} [Q : PlainT P t] (hx : evl ρ x = .iface t v) : PureV P ⟨dst, .typeAssert x t' t false, ty, pos, af, g⟩ ρ v := fun w => by
  obtain ⟨dd, hd, hn⟩ := Q.und
  simp only [execOp, Instr.typeAssert, Sem.run_bind, run_underlying hd, Result.andThen_ok, hx]
  cases dd <;> first | exact absurd rfl (hn _) | simp
theorem pv_makeFunc {f : FuncId} {xs : List Operand} {vs : List Value} (hx : xs.map (evl ρ) = vs) : PureV P ⟨dst, .makeFunc (.func f) #[] xs.toArray, ty, pos, af, g⟩ ρ (.func (.func f) #[] vs.toArray) := fun w => by
  simp [execOp, Instr.makeFunc, ← hx]
theorem pv_min {k : IntKind} {a b : Int} (hx : evl ρ x = .int k a) (hy : evl ρ y = .int k b) {ts : Array TypeId} : PureV P ⟨dst, .call { callee := .builtin .min, args := #[x, y], argTypes := ts }, ty, pos, af, g⟩ ρ (.int k (if b < a then b else a)) := fun w => by
  simp [execOp, resolve, invoke, builtin, hx, hy, run_min_int2]
theorem pv_max {k : IntKind} {a b : Int} (hx : evl ρ x = .int k a) (hy : evl ρ y = .int k b) {ts : Array TypeId} : PureV P ⟨dst, .call { callee := .builtin .max, args := #[x, y], argTypes := ts }, ty, pos, af, g⟩ ρ (.int k (if b > a then b else a)) := fun w => by
  simp [execOp, resolve, invoke, builtin, hx, hy, run_max_int2]
/-- A struct's literal. -/
theorem st_build {parts : List (Nat × Operand)} {vs : List (Nat × Value)} {v : Value} (hp : (parts.map fun p => (p.1, evl ρ p.2)) = vs) (hv : ∀ w, (Instr.build t vs.toArray).run P w = .ok v w) (h : opsW P ops K r (upd ρ d v) w) :
    opsW P ops K (⟨some d, .build t parts.toArray, ty, pos, af, none⟩ :: r) ρ w := by
  refine step_eff rfl ?_
  have : (Array.map (fun x : Nat × Operand => match x with | (i, x) => (i, evl ρ x)) parts.toArray) = vs.toArray := by rw [← hp]; simp
  simp only [opW, execOp, this, Sem.run_bind, hv, Result.andThen_ok, Sem.run_pure, opUpon]
  exact h
end
/-- Where the fields of a struct lie. -/
def placesB (P : Program) (t : Nat) : Option (List (Nat × Nat)) := match P.underlying t with | some (.struct fs) => fs.toList.mapM (fun f => (P.info? f.type).map fun i => (f.offset, i.size)) | _ => none
class StructT (P : Program) (t : Nat) (places : outParam (List (Nat × Nat))) : Prop where
  ok : placesB P t = some places
/-- A struct's literal, as a closed fact: the parts go where they go. -/
def buildB (P : Program) (t : Nat) (vs : List (Nat × Value)) : Option (Array Value) :=
  match P.underlying t, (P.info? t).bind (·.zero) with
  | some (.struct fs), some z => (match fs.toList.mapM (fun f => (P.info? f.type).map fun i => (f.offset, i.size)) with
      | some places => Instr.fill (places[·]?) z.cells vs
      | none => none)
  | _, _ => none
theorem run_mapM_places {fs : List Field} {places : List (Nat × Nat)} (h : fs.mapM (fun f => (P.info? f.type).map fun i => (f.offset, i.size)) = some places) (w : World) :
    (fs.mapM (fun f => do pure (f.offset, ← sizeOf f.type) : Field → Sem (Nat × Nat))).run P w = .ok places w := by
  induction fs generalizing places with
  | nil => simp at h; subst h; rfl
  | cons f fs ih =>
    simp only [List.mapM_cons] at h ⊢
    cases hi : P.info? f.type with
    | none => simp [hi] at h
    | some i =>
      simp only [hi, Option.map_some, Option.bind_eq_bind, Option.bind_some] at h
      cases hr : fs.mapM (fun f => (P.info? f.type).map fun i => (f.offset, i.size)) with
      | none => simp [hr] at h
      | some ps =>
        simp only [hr, Option.bind_some, Option.pure_def, Option.some.injEq] at h
        subst h
        have hs : (sizeOf f.type).run P w = .ok i.size w := by simp [sizeOf, typeInfo, hi]
        simp only [Sem.run_bind, hs, Result.andThen_ok, Sem.run_pure, ih hr]
theorem build_of {t : Nat} {vs : List (Nat × Value)} {cs : Array Value} (h : buildB P t vs = some cs) (w : World) : (Instr.build t vs.toArray).run P w = .ok (.agg cs) w := by
  unfold buildB at h
  split at h
  · rename_i fs z hd hz
    split at h
    · rename_i places hp
      cases hi : P.info? t with
      | none => simp [hi] at hz
      | some i =>
        simp only [hi, Option.bind_some] at hz
        have h1 := run_mapM_places (P := P) hp w
        have h2 : (fs.mapM (fun f => do pure (f.offset, ← sizeOf f.type) : Field → Sem (Nat × Nat))).run P w = .ok places.toArray w := by
          rw [← Array.toArray_toList (xs := fs), List.mapM_toArray]
          simp only [Sem.run_map, h1, Result.andThen_ok]
        simp only [Instr.build, Sem.run_bind, zeroValue, typeInfo, run_program, Result.andThen_ok, hi, Sem.run_pure, hz, run_underlying hd, h2]
        have h3 : (fun x : Nat => (places.toArray)[x]?) = (fun x : Nat => places[x]?) := by funext x; simp
        rw [h3, h]
        rfl
    · cases h
  · cases h

theorem build_places {t : Nat} {places : List (Nat × Nat)} {zs : List Value} {vs : List (Nat × Value)} {cs : Array Value} (S : StructT P t places) (Z : ZeroT P t zs) (h : Instr.fill (places[·]?) zs.toArray vs = some cs) : buildB P t vs = some cs := by
  have hp := S.ok
  have hz := Z.ok
  unfold placesB at hp
  split at hp
  · rename_i fs hd
    cases hi : (P.info? t).bind (·.zero) with
    | none => simp [hi] at hz
    | some z =>
      simp only [hi, Option.map_some, Option.some.injEq] at hz
      have hzc : z.cells = zs.toArray := by rw [← hz]
      simp only [buildB, hd, hi, hp, hzc]
      exact h
  · cases hp

section
variable {ops : Array Oper} {K : Fr → World → Prop} {r : List Oper} {ρ : Fr} {w w0 : World} {d : Nat} {ty : TypeId} {pos : String} {af : Array Edge} {x y z : Operand} {t t' : TypeId} {Γ : List HP} {α : Type}
theorem st_buildS {parts : List (Nat × Operand)} {vs : List (Nat × Value)} {cs : Array Value} {places : List (Nat × Nat)} {zs : List Value} [S : StructT P t places] [Z : ZeroT P t zs] (hp : (parts.map fun p => (p.1, evl ρ p.2)) = vs) (hf : Instr.fill (places[·]?) zs.toArray vs = some cs)
    (h : opsW P ops K r (upd ρ d (.agg cs)) w) : opsW P ops K (⟨some d, .build t parts.toArray, ty, pos, af, none⟩ :: r) ρ w :=
  st_build hp (build_of (build_places S Z hf)) h
/-- A new slice, owned. -/
theorem own_new {T : Ty α} {e : TypeId} {xs : List α} {cells : Array Value} {n cap : Nat} (hc : cells.toList = xs.flatMap T.enc ++ List.replicate 0 undef) (hn : xs.length = n) (hb : n ≤ big) (hcap : cap = n) (hw : Sat w0 w Γ) :
    Sat w0 (pushW w (.cells cells e)) (OS T e (.slice (some ⟨w.heap.size, 0, none⟩) n cap) xs :: Γ) := by
  refine hw.push ⟨.inr ⟨w.heap.size, 0, n, cap, [], [], rfl, rfl, by rw [T.len, hn], by omega, hb, by simp [hcap], ?_⟩, hn⟩
  simp at hc
  simp [← hc]
/-! Literals, part by part -/
theorem fold_splice : ∀ (vs : List Value) (k off : Nat) (cs : List Value), off + k + vs.length ≤ cs.length →
    (vs.zipIdx k).foldl (fun (cs : Array Value) (x : Value × Nat) => cs.setIfInBounds (off + x.2) x.1) cs.toArray = (cs.take (off + k) ++ vs ++ cs.drop (off + k + vs.length)).toArray
  | [], k, off, cs, _ => by simp
  | v :: vs, k, off, cs, h => by
    simp only [List.length_cons] at h
    rw [List.zipIdx_cons, List.foldl_cons]
    have e : (cs.toArray.setIfInBounds (off + k) v) = (cs.set (off + k) v).toArray := by simp
    simp only
    rw [e, fold_splice vs (k + 1) off _ (by simp; omega)]
    congr 1
    rw [show off + (k + 1) = off + k + 1 from by omega, List.take_succ_eq_append_getElem (by simp; omega), List.take_set_of_le (by omega), List.drop_set_of_lt (by omega)]
    simp
    congr 1
    omega
theorem fill_step {place : Nat → Option (Nat × Nat)} {i off size : Nat} {v : Value} {cs : List Value} {rest : List (Nat × Value)} (hp : place i = some (off, size)) (hs : v.cells.size = size) (ho : off + size ≤ cs.length) :
    Instr.fill place cs.toArray ((i, v) :: rest) = Instr.fill place (cs.take off ++ v.cells.toList ++ cs.drop (off + size)).toArray rest := by
  have h1 : ¬ (v.cells.size ≠ size || off + v.cells.size > cs.toArray.size) = true := by simp [hs]; omega
  rw [Instr.fill, hp]
  simp only
  rw [if_neg h1]
  congr 1
  have := fold_splice v.cells.toList 0 off cs (by simp [hs]; omega)
  rw [← Array.foldl_toList]
  simp only [Array.toList_zipIdx]
  simp only [Nat.add_zero, Array.length_toList, hs] at this
  exact this
theorem fill_row {sz : Nat} : ∀ (vs : List Value) (k : Nat) (dn rest : List Value), (∀ v ∈ vs, v.cells.size = sz) → dn.length = k * sz → rest.length = vs.length * sz →
    Instr.fill (fun i => some (i * sz, sz)) (dn ++ rest).toArray ((vs.zipIdx k).map fun x => (x.2, x.1)) = some (dn ++ vs.flatMap (·.cells.toList)).toArray
  | [], k, dn, rest, _, _, hr => by
    simp at hr; subst hr; simp [Instr.fill]
  | v :: vs, k, dn, rest, hv, hd, hr => by
    have hsz := hv v (by simp)
    simp only [List.length_cons, Nat.add_mul, Nat.one_mul] at hr
    rw [List.zipIdx_cons, List.map_cons, fill_step (off := k * sz) (size := sz) rfl hsz (by simp; omega)]
    have h1 : (dn ++ rest).take (k * sz) = dn := by rw [← hd]; simp
    have h2 : (dn ++ rest).drop (k * sz + sz) = rest.drop sz := by rw [← hd, List.drop_append]; simp
    rw [h1, h2, fill_row vs (k + 1) (dn ++ v.cells.toList) (rest.drop sz) (fun u hu => hv u (by simp [hu])) (by simp [hd, hsz, Nat.add_mul]) (by simp; omega)]
    simp [List.flatMap_cons]
theorem st_buildSlice {T : Ty α} (xs : List α) (vs : List Value) {e sz by_ len : Nat} {parts : List (Nat × Operand)} {zs : List Value} [S : SliceT P t e sz by_] [Z : ZeroT P e zs] (hp : (parts.map fun p => (p.1, evl ρ p.2)) = (vs.zipIdx 0).map fun x => (x.2, x.1))
    (hx : vs.flatMap (·.cells.toList) = xs.flatMap T.enc) (hvs : vs.all (fun v => v.cells.size == sz) = true) (hlen : vs.length = len) (hxl : xs.length = len) (hsm : len * sz ≤ 16777216) (hpos : 0 < len * sz) (hbig : len ≤ 16777216) (hw : Sat w0 w Γ)
    (h : ∀ s w', Sat w0 w' (OS T e s xs :: Γ) → opsW P ops K r (upd ρ d s) w') : opsW P ops K (⟨some d, .buildSlice t len parts.toArray, ty, pos, af, none⟩ :: r) ρ w := by
  refine step_eff rfl ?_
  obtain ⟨zv, hz', hzr⟩ := Z.zero
  have : (Array.map (fun x : Nat × Operand => match x with | (i, x) => (i, evl ρ x)) parts.toArray) = ((vs.zipIdx 0).map fun x => (x.2, x.1)).toArray := by rw [← hp]; simp
  have h0 : ¬ (len * sz = 0) := by omega
  have h1 : ¬ (len * sz > 2 ^ 24) := by omega
  have hf : Instr.fill (fun i => some (i * sz, sz)) ((Array.range (len * sz)).map (zs.toArray[· % zs.toArray.size]!)) ((vs.zipIdx 0).map fun x => (x.2, x.1)) = some (xs.flatMap T.enc).toArray := by
    have := fill_row (sz := sz) vs 0 [] ((Array.range (len * sz)).map (zs.toArray[· % zs.toArray.size]!)).toList (fun v hv => by simpa using List.all_eq_true.1 hvs v hv) (by simp) (by simp [hlen])
    rw [hx] at this
    simp only [List.nil_append, Array.toArray_toList] at this
    exact this
  simp only [opW, execOp, this, Instr.buildSlice, Sem.run_bind, run_underlying S.und, Result.andThen_ok, S.size, h1, if_false, h0, Sem.run_pure, hzr, hz']
  rw [hf]
  simp only [Sem.run_bind, newRow, run_newObj, Result.andThen_ok, Sem.run_pure, opUpon]
  exact h _ _ (own_new (e := e) (by simp) hxl (by unfold big; omega) rfl hw)
theorem st_buildSlice1 (T : Ty α) {x1 : α} {e sz by_ : Nat} {v : Value} {zs : List Value} [S : SliceT P t e sz by_] [Z : ZeroT P e zs] (hp : evl ρ x = v) (hx : v.cells.toList = T.enc x1) (hvs : sz = T.sz) (hsm : sz ≤ 16777216) (hpos : 0 < sz) (hw : Sat w0 w Γ)
    (h : ∀ s w', Sat w0 w' (OS T e s [x1] :: Γ) → opsW P ops K r (upd ρ d s) w') : opsW P ops K (⟨some d, .buildSlice t 1 #[(0, x)], ty, pos, af, none⟩ :: r) ρ w := by
  have hs : v.cells.size = sz := by
    have := T.ok x1
    rw [← hx, ← hvs] at this
    simpa using this
  exact st_buildSlice (parts := [(0, x)]) [x1] [v] (by simp [hp]) (by simp [hx]) (by simp [hs]) rfl rfl (by omega) (by omega) (by omega) hw h
/-- A struct's literal whose fields are of one cell each. -/
def setsL (zs : List Value) (l : List (Nat × Value)) : List Value := l.foldl (fun cs p => cs.set p.1 p.2) zs
def onesB (places : List (Nat × Nat)) (n : Nat) : Bool := decide (places = (List.range n).map fun i => (i, 1))
theorem fill_sets {places : List (Nat × Nat)} {n : Nat} (ho : onesB places n = true) : ∀ (l : List (Nat × Value)) (cs : List Value), cs.length = n → l.all (fun p => decide (p.1 < n) && p.2.oneCell') = true → Instr.fill (places[·]?) cs.toArray l = some (setsL cs l).toArray
  | [], cs, _, _ => by simp [Instr.fill, setsL]
  | (i, v) :: l, cs, hc, hl => by
    simp only [List.all_cons, Bool.and_eq_true, decide_eq_true_eq] at hl
    have hv : v.cells = #[v] := by
      have := hl.1.2
      cases v <;> first | rfl | (simp [Value.oneCell'] at this)
    have hp : places[i]? = some (i, 1) := by
      have := of_decide_eq_true ho
      rw [this]; simp [hl.1.1]
    rw [fill_step hp (by rw [hv]; rfl) (by omega), hv]
    have e : cs.take i ++ #[v].toList ++ cs.drop (i + 1) = cs.set i v := by
      rw [List.set_eq_take_append_cons_drop, if_pos (by omega)]; simp
    rw [e, fill_sets ho l (cs.set i v) (by simpa using hc) hl.2]
    rfl
theorem st_buildL {parts : List (Nat × Operand)} {vs : List (Nat × Value)} {places : List (Nat × Nat)} {zs : List Value} [S : StructT P t places] [Z : ZeroT P t zs] (hp : (parts.map fun p => (p.1, evl ρ p.2)) = vs) (ho : onesB places zs.length = true) (hv : vs.all (fun p => decide (p.1 < zs.length) && p.2.oneCell') = true)
    (h : opsW P ops K r (upd ρ d (.agg (setsL zs vs).toArray)) w) : opsW P ops K (⟨some d, .build t parts.toArray, ty, pos, af, none⟩ :: r) ρ w :=
  st_buildS hp (fill_sets ho vs zs rfl hv) h
theorem st_build1 {i1 : Nat} {x1 : Operand} {v1 : Value} {places : List (Nat × Nat)} {zs : List Value} [S : StructT P t places] [Z : ZeroT P t zs] (h1 : evl ρ x1 = v1) (ho : onesB places zs.length = true) (hv : [(i1, v1)].all (fun p => decide (p.1 < zs.length) && p.2.oneCell') = true)
    (h : opsW P ops K r (upd ρ d (.agg (setsL zs [(i1, v1)]).toArray)) w) : opsW P ops K (⟨some d, .build t #[(i1, x1)], ty, pos, af, none⟩ :: r) ρ w := st_buildL (parts := [(i1, x1)]) (by simp [h1]) ho hv h
theorem st_build2 {i1 i2 : Nat} {x1 x2 : Operand} {v1 v2 : Value} {places : List (Nat × Nat)} {zs : List Value} [S : StructT P t places] [Z : ZeroT P t zs] (h1 : evl ρ x1 = v1) (h2 : evl ρ x2 = v2) (ho : onesB places zs.length = true) (hv : [(i1, v1), (i2, v2)].all (fun p => decide (p.1 < zs.length) && p.2.oneCell') = true)
    (h : opsW P ops K r (upd ρ d (.agg (setsL zs [(i1, v1), (i2, v2)]).toArray)) w) : opsW P ops K (⟨some d, .build t #[(i1, x1), (i2, x2)], ty, pos, af, none⟩ :: r) ρ w := st_buildL (parts := [(i1, x1), (i2, x2)]) (by simp [h1, h2]) ho hv h
theorem st_build3 {i1 i2 i3 : Nat} {x1 x2 x3 : Operand} {v1 v2 v3 : Value} {places : List (Nat × Nat)} {zs : List Value} [S : StructT P t places] [Z : ZeroT P t zs] (h1 : evl ρ x1 = v1) (h2 : evl ρ x2 = v2) (h3 : evl ρ x3 = v3) (ho : onesB places zs.length = true) (hv : [(i1, v1), (i2, v2), (i3, v3)].all (fun p => decide (p.1 < zs.length) && p.2.oneCell') = true)
    (h : opsW P ops K r (upd ρ d (.agg (setsL zs [(i1, v1), (i2, v2), (i3, v3)]).toArray)) w) : opsW P ops K (⟨some d, .build t #[(i1, x1), (i2, x2), (i3, x3)], ty, pos, af, none⟩ :: r) ρ w := st_buildL (parts := [(i1, x1), (i2, x2), (i3, x3)]) (by simp [h1, h2, h3]) ho hv h
theorem st_build4 {i1 i2 i3 i4 : Nat} {x1 x2 x3 x4 : Operand} {v1 v2 v3 v4 : Value} {places : List (Nat × Nat)} {zs : List Value} [S : StructT P t places] [Z : ZeroT P t zs] (h1 : evl ρ x1 = v1) (h2 : evl ρ x2 = v2) (h3 : evl ρ x3 = v3) (h4 : evl ρ x4 = v4) (ho : onesB places zs.length = true) (hv : [(i1, v1), (i2, v2), (i3, v3), (i4, v4)].all (fun p => decide (p.1 < zs.length) && p.2.oneCell') = true)
    (h : opsW P ops K r (upd ρ d (.agg (setsL zs [(i1, v1), (i2, v2), (i3, v3), (i4, v4)]).toArray)) w) : opsW P ops K (⟨some d, .build t #[(i1, x1), (i2, x2), (i3, x3), (i4, x4)], ty, pos, af, none⟩ :: r) ρ w := st_buildL (parts := [(i1, x1), (i2, x2), (i3, x3), (i4, x4)]) (by simp [h1, h2, h3, h4]) ho hv h
theorem zeros_enc {T : Ty α} {z : α} {zs : List Value} (hz : T.enc z = zs) (n : Nat) : ((Array.range (n * T.sz)).map (zs.toArray[· % zs.toArray.size]!)).toList = (List.replicate n z).flatMap T.enc := by
  have hl : zs.length = T.sz := by rw [← hz]; exact T.ok z
  apply List.ext_getElem?
  intro i
  by_cases hi : i < n * T.sz
  · have hpos : 0 < T.sz := by
      rcases Nat.eq_zero_or_pos T.sz with h | h
      · rw [h] at hi; simp at hi
      · exact h
    have hq : i / T.sz < n := (Nat.div_lt_iff_lt_mul hpos).2 hi
    have hmod : i % T.sz < T.sz := Nat.mod_lt _ hpos
    have hsplit : i = i / T.sz * T.sz + i % T.sz := by rw [Nat.mul_comm]; exact (Nat.div_add_mod i T.sz).symm
    have h1 := T.get (List.replicate n z) (i / T.sz) (i % T.sz) (by simpa using hq) hmod
    rw [← hsplit] at h1
    rw [h1]
    have h2 : (List.replicate n z).getD (i / T.sz) T.dflt = z := by simp [List.getD, hq]
    rw [h2, hz]
    have hlt : i % zs.length < zs.length := by rw [hl]; exact hmod
    simp [hi, hl, hmod]
  · rw [List.getElem?_eq_none (by simp; omega), List.getElem?_eq_none (by rw [T.len]; simp; omega)]
/-- 'make([]T, n)'. -/
theorem st_make (T : Ty α) (z : α) {e sz by_ : Nat} {n : Int} {zs : List Value} [S : SliceT P t e sz by_] [Z : ZeroT P e zs] (hx : evl ρ x = .int .i64 n) (hy : evl ρ y = .int .i64 n) (hsz : sz = T.sz) (hz : T.enc z = zs) (h0 : 0 ≤ n) (hb : by_ * n ≤ 281474976710656) (hn : n ≤ 281474976710656) (hw : Sat w0 w Γ)
    (h : ∀ s w', Sat w0 w' (OS T e s (List.replicate n.toNat z) :: Γ) → opsW P ops K r (upd ρ d s) w') : opsW P ops K (⟨some d, .makeSlice t x y, ty, pos, af, none⟩ :: r) ρ w := by
  refine step_eff rfl ?_
  subst hsz
  obtain ⟨zv, hz', hzr⟩ := Z.zero
  obtain ⟨i, hi, hs, hby⟩ := S.info
  have hwr : IntKind.i64.wrap n = n := wrap_in (by omega) (by omega)
  have h1 : ¬ (n < 0) := by omega
  have h2 : ¬ (281474976710656 < (by_ : Int) * n) := by omega
  have hcond : ((n < 0 || (i.bytes : Int) * n > 2 ^ 48) || n < 0 || n > n) = false := by simp [hby]; omega
  simp only [opW, execOp, hx, hy, Instr.makeSlice, Sem.run_bind, run_underlying S.und, Result.andThen_ok, asInt, asIntOf, Sem.run_pure, typeInfo, run_program, hi, hwr, hcond, Bool.false_eq_true, if_false, run_askRoom, S.size]
  have hcells : ∀ (z0 : Array Value), (n.toNat * T.sz = 0 ∨ z0 = zs.toArray) → ((Array.range (n.toNat * T.sz)).map (z0[· % z0.size]!)).toList = (List.replicate n.toNat z).flatMap T.enc := by
    intro z0 h
    rcases h with h | h
    · rw [h]
      have : ((List.replicate n.toNat z).flatMap T.enc).length = 0 := by rw [T.len]; simpa using h
      rw [List.eq_nil_of_length_eq_zero this]; simp
    · rw [h]; exact zeros_enc hz n.toNat
  by_cases hz0 : n.toNat * T.sz = 0
  · simp only [hz0, if_true, Sem.run_pure, Result.andThen_ok, newRow, Sem.run_bind, run_newObj, opUpon]
    have := hcells #[] (.inl hz0)
    rw [hz0] at this
    exact h _ _ (own_new (T := T) (e := e) (by rw [this]; simp) (by simp) (by unfold big; omega) rfl hw)
  · simp only [hz0, if_false, Sem.run_bind, hzr, Sem.run_pure, Result.andThen_ok, newRow, run_newObj, opUpon, hz']
    exact h _ _ (own_new (T := T) (e := e) (by rw [hcells _ (.inr rfl)]; simp) (by simp) (by unfold big; omega) rfl hw)
end
end
end Go.Sl
