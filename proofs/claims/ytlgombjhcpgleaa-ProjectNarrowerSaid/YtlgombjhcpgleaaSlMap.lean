/-
  Maps of the call's own: made, updated, looked up, measured.
-/
import Derived.Test.YtlgombjhcpgleaaSlEq
namespace Go.Sl
section
variable {α : Type} [DecidableEq α]
/-- The place and value of a key. -/
def mfind (x : α) : List (α × Value) → Nat → Option (Nat × Value)
  | [], _ => none
  | p :: l, i => if x = p.1 then some (i, p.2) else mfind x l (i + 1)
def mget (kv : List (α × Value)) (x : α) : Option Value := (mfind x kv 0).map (·.2)
def mput (kv : List (α × Value)) (x : α) (v : Value) : List (α × Value) := match mfind x kv 0 with | some (i, _) => kv.set i (x, v) | none => kv ++ [(x, v)]
theorem mfind_some {x : α} : ∀ {l : List (α × Value)} {i j : Nat} {v : Value}, mfind x l i = some (j, v) → i ≤ j ∧ l[j - i]? = some (x, v)
  | [], _, _, _, h => by cases h
  | p :: l, i, j, v, h => by
    simp only [mfind] at h
    split at h
    · rename_i e; cases h; subst e; exact ⟨Nat.le_refl _, by simp⟩
    · obtain ⟨h1, h2⟩ := mfind_some h
      refine ⟨by omega, ?_⟩
      rw [show j - i = (j - (i + 1)) + 1 by omega]; simpa using h2
theorem mfind_none {x : α} : ∀ {l : List (α × Value)} {i : Nat}, mfind x l i = none ↔ x ∉ l.map (·.1)
  | [], i => by simp [mfind]
  | p :: l, i => by
    simp only [mfind, List.map_cons, List.mem_cons, not_or]
    split
    · rename_i e; simp [e]
    · rename_i e; rw [mfind_none]; simp [e]
theorem mget_none {kv : List (α × Value)} {x : α} : mget kv x = none ↔ x ∉ kv.map (·.1) := by
  unfold mget
  rw [Option.map_eq_none_iff, mfind_none]
theorem mfind_set {x y : α} {v : Value} (hxy : y ≠ x) : ∀ {l : List (α × Value)} {k : Nat} {u : Value} {i : Nat}, l[k]? = some (x, u) → mfind y (l.set k (x, v)) i = mfind y l i
  | [], k, u, i, h => by simp at h
  | p :: l, 0, u, i, h => by
    simp at h; subst h
    simp [mfind, hxy]
  | p :: l, k + 1, u, i, h => by
    simp only [List.set_cons_succ, mfind]
    rw [mfind_set hxy (by simpa using h)]
theorem mfind_app {x : α} {m : List (α × Value)} : ∀ {l : List (α × Value)} {i : Nat}, mfind x (l ++ m) i = (mfind x l i).or (mfind x m (i + l.length))
  | [], i => by simp [mfind]
  | p :: l, i => by
    simp only [List.cons_append, mfind]
    split
    · rfl
    · rw [mfind_app, List.length_cons, show i + 1 + l.length = i + (l.length + 1) by omega]
theorem mfind_hit {x : α} {v : Value} : ∀ {l : List (α × Value)} {k : Nat} {u : Value} {i : Nat}, mfind x l i = some (k + i, u) → mfind x (l.set k (x, v)) i = some (k + i, v)
  | [], k, u, i, h => by cases h
  | p :: l, 0, u, i, h => by simp [mfind]
  | p :: l, k + 1, u, i, h => by
    simp only [mfind, List.set_cons_succ] at h ⊢
    split
    · rename_i e; rw [if_pos e] at h; have := (Prod.mk.inj (Option.some.inj h)).1; omega
    · rename_i e; rw [if_neg e] at h
      rw [show k + 1 + i = k + (i + 1) by omega] at h ⊢
      exact mfind_hit h
theorem mget_mput (kv : List (α × Value)) (x y : α) (v : Value) : mget (mput kv x v) y = if y = x then some v else mget kv y := by
  unfold mput
  cases h : mfind x kv 0 with
  | none =>
    simp only
    unfold mget
    rw [mfind_app]
    by_cases e : y = x
    · subst e; rw [h]; simp [mfind]
    · rw [if_neg e]; simp [mfind, e]
  | some p =>
    obtain ⟨i, u⟩ := p
    simp only
    unfold mget
    by_cases e : y = x
    · subst e
      rw [mfind_hit (k := i) (i := 0) h, if_pos rfl]; rfl
    · obtain ⟨_, h2⟩ := mfind_some h
      rw [mfind_set e (by simpa using h2), if_neg e]
theorem mput_keys (kv : List (α × Value)) (x : α) (v : Value) : (mput kv x v).map (·.1) = if x ∈ kv.map (·.1) then kv.map (·.1) else kv.map (·.1) ++ [x] := by
  unfold mput
  cases h : mfind x kv 0 with
  | none => rw [if_neg (mfind_none.1 h)]; simp
  | some p =>
    obtain ⟨i, u⟩ := p
    obtain ⟨_, h2⟩ := mfind_some h
    have hm : x ∈ kv.map (·.1) := by
      have := List.mem_of_getElem? h2
      exact List.mem_map.2 ⟨_, this, rfl⟩
    rw [if_pos hm]
    simp only
    apply List.ext_getElem?
    intro j
    simp only [List.getElem?_map, List.getElem?_set]
    split
    · rename_i e; subst e
      simp at h2
      split
      · rw [h2]; rfl
      · rename_i hl
        have := (List.getElem?_eq_some_iff.1 h2).1
        exact absurd this hl
    · rfl
theorem mput_mem {kv : List (α × Value)} {x y : α} {v : Value} : y ∈ (mput kv x v).map (·.1) ↔ y ∈ kv.map (·.1) ∨ y = x := by
  rw [mput_keys]
  split
  · rename_i h; exact ⟨.inl, fun h' => h'.elim id fun e => e ▸ h⟩
  · simp
theorem mput_nodup {kv : List (α × Value)} {x : α} {v : Value} (h : (kv.map (·.1)).Nodup) : ((mput kv x v).map (·.1)).Nodup := by
  rw [mput_keys]
  split
  · exact h
  · rename_i hx
    rw [List.nodup_append]
    exact ⟨h, by simp, fun a ha b hb e => by rw [List.mem_singleton.1 hb] at e; subst e; exact hx ha⟩
end
/-- A key type: how keys are told apart. -/
class KeyT {α : Type} [DecidableEq α] (P : Program) (k : TypeId) (κ : α → Value) : Prop where
  check : ∀ e x w, (Instr.checkKey e 10000 k (κ x)).run P w = .ok () w
  find : ∀ x (es : List MapEntry) (kv : List (α × Value)), (es.map fun e => (e.key, e.val)) = kv.map (fun p => (κ p.1, p.2)) → ∀ w, (Instr.findKey k (κ x) es).run P w = .ok (mfind x kv 0) w
  bits : ∀ x, Instr.sameBits 10000 (κ x) (κ x) = true
/-- A type's zero value, of one cell. -/
class ZeroV (P : Program) (t : Nat) (zv : outParam Value) : Prop where
  ok : (P.info? t).bind (·.zero) = some zv
theorem ZeroV.run {P : Program} {t : Nat} {zv : Value} (h : ZeroV P t zv) (w : World) : (zeroValue t).run P w = .ok zv w := by
  have h := h.ok
  cases hi : P.info? t with
  | none => simp [hi] at h
  | some i =>
    simp only [hi, Option.bind_some] at h
    simp [zeroValue, typeInfo, hi, h]
/-- A map's type: of its keys and elements. -/
class MapT (P : Program) (t : TypeId) (k e : outParam TypeId) : Prop where
  ok : P.underlying t = some (.map k e)
section
variable {α : Type}
def MapO (κ : α → Value) (m : Value) (kv : List (α × Value)) : HP := fun h => ∃ b es clock, m = .map (some b) ∧ h b = some (.map es clock) ∧ (es.toList.map fun e => (e.key, e.val)) = kv.map fun p => (κ p.1, p.2)
class MapAt (Γ : List HP) (m : Value) (κ : outParam (α → Value)) (kv : outParam (List (α × Value))) (put : outParam (HP → List HP)) : Prop where
  foc : Foc Γ (MapO κ m kv) put
instance (priority := high) map_here {κ : α → Value} {m : Value} {kv : List (α × Value)} {Γ : List HP} : MapAt (MapO κ m kv :: Γ) m κ kv (fun A' => A' :: Γ) := ⟨Foc.here⟩
instance map_there {B : HP} {κ : α → Value} {m : Value} {kv : List (α × Value)} {Γ : List HP} {put : HP → List HP} [h : MapAt Γ m κ kv put] : MapAt (B :: Γ) m κ kv (fun A' => B :: put A') := ⟨h.foc.there⟩
variable {P : Program} {ops : Array Oper} {K : Fr → World → Prop} {r : List Oper} {ρ : Fr} {w w0 : World} {d : Nat} {ty : TypeId} {pos : String} {af : Array Edge} {g : Option (Nat × Bool)} {dst : Option Nat} {x y z : Operand} {t : TypeId} {Γ : List HP} {κ : α → Value} {kv : List (α × Value)} {m : Value}
theorem st_makeMap (κ : α → Value) (hw : Sat w0 w Γ) (h : ∀ m w', Sat w0 w' (MapO κ m [] :: Γ) → opsW P ops K r (upd ρ d m) w') : opsW P ops K (⟨some d, .makeMap t none, ty, pos, af, none⟩ :: r) ρ w := by
  refine step_eff rfl ?_
  simp only [opW, execOp, Instr.makeMap, Option.map_none, Sem.run_bind, Sem.run_pure, Result.andThen_ok, run_newObj, opUpon]
  exact h (.map (some w.heap.size)) _ (hw.push (o := .map #[] 0) ⟨w.heap.size, #[], 0, rfl, by simp, by simp⟩)
theorem map_of {i : Nat} (hw : Sat w0 w Γ) (hi : Γ[i]? = some (MapO κ m kv)) : ∃ b es clock, m = .map (some b) ∧ w.heap[b]? = some (.map es clock) ∧ (es.toList.map fun e => (e.key, e.val)) = kv.map fun p => (κ p.1, p.2) := by
  obtain ⟨h1, hs, b, es, clock, hm, hb, he⟩ := hw.at i hi
  exact ⟨b, es, clock, hm, (hs b _ hb).1, he⟩
theorem rv_lookup [DecidableEq α] {k e : TypeId} {q : α} {zv : Value} {put : HP → List HP} [M : MapT P t k e] [KT : KeyT P k κ] [Z : ZeroV P e zv] (hx : evl ρ x = m) (hy : evl ρ y = κ q) (hw : Sat w0 w Γ) (O : MapAt Γ m κ kv put) : ReadV P ⟨dst, .lookup t x y false, ty, pos, af, g⟩ ρ w ((mget kv q).getD zv) := by
  obtain ⟨i, hi, _⟩ := O.foc.ok
  obtain ⟨b, es, clock, rfl, hb, he⟩ := map_of hw hi
  have hf := KT.find q es.toList kv he w
  simp only [ReadV, execOp, hx, hy, Instr.lookup, Sem.run_bind, run_underlying M.ok, Result.andThen_ok, Sem.run_pure, MapKept.run_getObj_map hb, KT.check, hf]
  cases h : mfind q kv 0 with
  | none => simp [mget, h, Z.run]
  | some p => simp [mget, h]
theorem rv_lookupOk [DecidableEq α] {k e : TypeId} {q : α} {zv : Value} {put : HP → List HP} [M : MapT P t k e] [KT : KeyT P k κ] [Z : ZeroV P e zv] (hx : evl ρ x = m) (hy : evl ρ y = κ q) (hw : Sat w0 w Γ) (O : MapAt Γ m κ kv put) : ReadV P ⟨dst, .lookup t x y true, ty, pos, af, g⟩ ρ w (.tuple #[(mget kv q).getD zv, .bool (mget kv q).isSome]) := by
  obtain ⟨i, hi, _⟩ := O.foc.ok
  obtain ⟨b, es, clock, rfl, hb, he⟩ := map_of hw hi
  have hf := KT.find q es.toList kv he w
  simp only [ReadV, execOp, hx, hy, Instr.lookup, Sem.run_bind, run_underlying M.ok, Result.andThen_ok, Sem.run_pure, MapKept.run_getObj_map hb, KT.check, hf]
  cases h : mfind q kv 0 with
  | none => simp [mget, h, Z.run]
  | some p => simp [mget, h]
theorem rv_lenM {k e : TypeId} {put : HP → List HP} [M : MapT P t k e] (hx : evl ρ x = m) (hw : Sat w0 w Γ) (O : MapAt Γ m κ kv put) : ReadV P ⟨dst, .call { callee := .builtin .len, args := #[x], argTypes := #[t] }, ty, pos, af, g⟩ ρ w (.int .i64 kv.length) := by
  obtain ⟨i, hi, _⟩ := O.foc.ok
  obtain ⟨b, es, clock, rfl, hb, he⟩ := map_of hw hi
  have hl : es.size = kv.length := by
    have := congrArg List.length he
    simpa using this
  simp [ReadV, execOp, resolve, invoke, builtin, hx, Builtin.len_, run_underlying M.ok, MapKept.run_getObj_map hb, hl, goInt]
theorem st_mapUpdate [DecidableEq α] {k e : TypeId} {q : α} {v : Value} {put : HP → List HP} [M : MapT P t k e] [KT : KeyT P k κ] (hx : evl ρ x = m) (hy : evl ρ y = κ q) (hz : evl ρ z = v) (hw : Sat w0 w Γ) (O : MapAt Γ m κ kv put)
    (h : ∀ w', Sat w0 w' (put (MapO κ m (mput kv q v))) → opsW P ops K r ρ w') : opsW P ops K (⟨none, .mapUpdate t x y z, ty, pos, af, none⟩ :: r) ρ w := by
  refine step_eff rfl ?_
  obtain ⟨i, hi, hput⟩ := O.foc.ok
  obtain ⟨b, es, clock, rfl, hb, he⟩ := map_of hw hi
  have hf := KT.find q es.toList kv he w
  simp only [opW, execOp, hx, hy, hz, Instr.mapUpdate, Sem.run_bind, run_underlying M.ok, Result.andThen_ok, MapKept.run_getObj_map hb, KT.check, hf]
  cases hm : mfind q kv 0 with
  | none =>
    simp only [MapKept.run_setObj_map _ hb, Result.andThen_ok, Sem.run_pure, opUpon, updo]
    refine h _ ?_
    rw [hput]
    refine (hw.focus i hi).put (b := b) (o' := .map (es.push { key := κ q, val := v, born := clock }) (clock + 1)) (A' := MapO κ (.map (some b)) (mput kv q v)) ?_ |>.back i hi
    rintro h1 _ ⟨b', es', clock', hmm, hb', _⟩
    cases hmm
    refine ⟨⟨_, hb'⟩, b, es.push { key := κ q, val := v, born := clock }, clock + 1, rfl, by simp [hpS], ?_⟩
    simp [mput, hm, he]
  | some p =>
    obtain ⟨j, u⟩ := p
    obtain ⟨_, hj⟩ := mfind_some hm
    rw [Nat.sub_zero] at hj
    have hjl := (List.getElem?_eq_some_iff.1 hj).1
    have hlen : es.size = kv.length := by have := congrArg List.length he; simpa using this
    have hkey : ((es[j]?).map (·.key)).getD (κ q) = κ q := by
      have := congrArg (fun l => l[j]?) he
      simp only [List.getElem?_map, hj, Option.map_some] at this
      rw [Array.getElem?_eq_getElem (by omega)]
      rw [Array.getElem?_toList, Array.getElem?_eq_getElem (by omega)] at this
      simp at this ⊢
      exact this.1
    simp only [Instr.keyThatStays, hkey, KT.bits, if_true, Sem.run_pure, Sem.run_bind, Result.andThen_ok, MapKept.run_setObj_map _ hb, opUpon, updo]
    refine h _ ?_
    rw [hput]
    refine (hw.focus i hi).put (b := b) (o' := .map (es.modify j fun e => { e with key := κ q, val := v }) clock) (A' := MapO κ (.map (some b)) (mput kv q v)) ?_ |>.back i hi
    rintro h1 _ ⟨b', es', clock', hmm, hb', _⟩
    cases hmm
    refine ⟨⟨_, hb'⟩, b, es.modify j fun e => { e with key := κ q, val := v }, clock, rfl, by simp [hpS], ?_⟩
    simp only [mput, hm]
    apply List.ext_getElem?
    intro a
    have hea := congrArg (fun l => l[a]?) he
    simp only [List.getElem?_map] at hea
    simp only [List.getElem?_map, Array.toList_modify, List.getElem?_modify, List.getElem?_set]
    by_cases e1 : j = a
    · subst e1
      rw [if_pos rfl, if_pos hjl]
      rw [Array.getElem?_toList, Array.getElem?_eq_getElem (by omega)]
      simp
    · rw [if_neg e1]
      simp only [e1, if_false]
      rw [← hea]
      cases es.toList[a]? <;> rfl
/-- Keys that are structs: found by asking. -/
theorem find_asking [DecidableEq α] {k : TypeId} (heq : ∀ x y w, (Op.equal k (κ x) (κ y)).run P w = .ok (decide (x = y)) w) (q : α) (w : World) : ∀ (es : List MapEntry) (kv : List (α × Value)) (i : Nat), (es.map fun e => (e.key, e.val)) = kv.map (fun p => (κ p.1, p.2)) → (Instr.findAsking k (κ q) es i).run P w = .ok (mfind q kv i) w
  | [], kv, i, h => by
    have : kv = [] := by simpa using h.symm
    subst this
    simp [Instr.findAsking, mfind]
  | e :: es, [], i, h => by simp at h
  | e :: es, p :: kv, i, h => by
    simp only [List.map_cons, List.cons.injEq, Prod.mk.injEq] at h
    obtain ⟨⟨h1, h2⟩, h3⟩ := h
    have ih := find_asking heq q w es kv (i + 1) h3
    simp only [Instr.findAsking, h1, Sem.run_bind, heq, Result.andThen_ok, mfind]
    by_cases e1 : q = p.1
    · rw [if_pos e1, decide_eq_true e1, if_pos rfl, Sem.run_pure, h2]
    · rw [if_neg e1, decide_eq_false e1, if_neg (by simp)]; exact ih
theorem find_struct [DecidableEq α] {k : TypeId} {fs : Array Field} (hk : P.underlying k = some (.struct fs)) (heq : ∀ x y w, (Op.equal k (κ x) (κ y)).run P w = .ok (decide (x = y)) w) (q : α) (es : List MapEntry) (kv : List (α × Value)) (h : (es.map fun e => (e.key, e.val)) = kv.map (fun p => (κ p.1, p.2))) (w : World) : (Instr.findKey k (κ q) es).run P w = .ok (mfind q kv 0) w := by
  simp only [Instr.findKey, Sem.run_bind, run_underlying hk, Result.andThen_ok]
  cases es with
  | nil =>
    have : kv = [] := by simpa using h.symm
    subst this
    simp [Instr.findNow, mfind]
  | cons e es =>
    have hn : Instr.findNow (.struct fs) (κ q) (e :: es) 0 = none := by
      simp [Instr.findNow, Instr.sameNow]
    rw [hn]
    exact find_asking heq q w _ _ 0 h
end
end Go.Sl
