/-
  Slices of slices, append, rows of rows.
-/
import Derived.Test.YtlgombjhcpgleaaSlMore
import Derived.Laws.AppendOwn
namespace Go.Sl
open Go.RowKit (Below)
section
variable {P : Program}

/-- An element of a slice of values that are kept as they are (slices, pointers): shut, so that a value's evaluation stops here. -/
@[irreducible] def vget (ss : List Value) (i : Nat) : Value := ss.getD i undef
theorem vget_eq (ss : List Value) (i : Nat) : vget ss i = ss.getD i undef := by unfold vget; rfl
theorem rv_elemV {i : Nat} {ρ : Fr} {w : World} {ty : TypeId} {pos : String} {af : Array Edge} {g : Option (Nat × Bool)} {dst : Option Nat} {x : Operand} {t : TypeId} {s : Value} {xs : List Value} [C : CellT P t] (hx : evl ρ x = .pointer (some (eadr tVal s i))) (h : RS tVal w s xs) (hi : i < xs.length) : ReadV P ⟨dst, .load t x, ty, pos, af, g⟩ ρ w (vget xs i) :=
  rv_elem hx h hi (by rw [vget_eq]; rfl)

/-! ### Slice expressions -/
def ssub (s : Value) (sz lo hi : Nat) : Value := match s with
  | .slice a _ cap => .slice (if cap = lo then a else a.map (·.add (lo * sz))) (hi - lo) (cap - lo)
  | v => v
def cut {α : Type} (xs : List α) (lo hi : Nat) : List α := (xs.take hi).drop lo
theorem cut_len {α : Type} {xs : List α} {lo hi : Nat} (h : hi ≤ xs.length) : (cut xs lo hi).length = hi - lo := by simp [cut]; omega
theorem Ty.drop {α : Type} (T : Ty α) : ∀ (xs : List α) (k : Nat), (xs.flatMap T.enc).drop (k * T.sz) = (xs.drop k).flatMap T.enc
  | xs, 0 => by simp
  | [], k + 1 => by simp
  | x :: xs, k + 1 => by
    have h := T.ok x
    have ih := T.drop xs k
    rw [List.drop_succ_cons, List.flatMap_cons, ← ih, List.drop_append, List.drop_eq_nil_of_le (by rw [h, Nat.add_mul]; omega), h]
    simp only [List.nil_append]; congr 1; rw [Nat.add_mul]; omega
theorem Ty.take {α : Type} (T : Ty α) : ∀ (xs : List α) (k : Nat), (xs.flatMap T.enc).take (k * T.sz) = (xs.take k).flatMap T.enc
  | xs, 0 => by simp
  | [], k + 1 => by simp
  | x :: xs, k + 1 => by
    have h := T.ok x
    have ih := T.take xs k
    rw [List.take_succ_cons, List.flatMap_cons, List.flatMap_cons, ← ih, List.take_append, List.take_of_length_le (by rw [h, Nat.add_mul]; omega), h]
    congr 2; rw [Nat.add_mul]; omega
theorem Ty.cut {α : Type} (T : Ty α) (xs : List α) (lo hi : Nat) : Sl.cut (xs.flatMap T.enc) (lo * T.sz) (hi * T.sz) = (Sl.cut xs lo hi).flatMap T.enc := by
  simp only [Sl.cut, T.take, T.drop]
theorem addr_add {b off k : Nat} : (⟨b, off, none⟩ : Addr).add k = ⟨b, off + k, none⟩ := by unfold Addr.add; split <;> simp_all
theorem addr_add' {p : Addr} (h : p.spot = none) (k : Nat) : p.add k = ⟨p.block, p.off + k, none⟩ := by
  obtain ⟨b, off, sp⟩ := p; simp only at h; subst h; exact addr_add

theorem own_ssub {s : Value} {e : TypeId} {sz : Nat} {vs : List Value} {h : PH} {lo hi : Nat} (ho : Own s e sz vs h) (h1 : lo ≤ hi) (h2 : hi ≤ slen s) : Own (ssub s sz lo hi) e sz (cut vs (lo * sz) (hi * sz)) h := by
  rcases ho with ⟨rfl, rfl⟩ | ⟨b, off, n, cap, pre, post, rfl, hpre, hlen, hnc, hbig, hpost, hb⟩
  · simp only [slen] at h2
    have : lo = 0 := by omega
    have : hi = 0 := by omega
    subst lo hi
    left; simp [ssub, cut]
  · simp only [slen] at h2
    right
    have hm1 : lo * sz ≤ hi * sz := Nat.mul_le_mul_right _ h1
    have hm2 : hi * sz ≤ n * sz := Nat.mul_le_mul_right _ h2
    have hcl : (cut vs (lo * sz) (hi * sz)).length = (hi - lo) * sz := by rw [cut_len (by omega), Nat.sub_mul]
    have hsplit : vs = vs.take (lo * sz) ++ cut vs (lo * sz) (hi * sz) ++ vs.drop (hi * sz) := by
      have e1 : vs.take (lo * sz) = (vs.take (hi * sz)).take (lo * sz) := by rw [List.take_take]; congr 1; omega
      rw [e1]
      simp only [cut, List.take_append_drop]
    by_cases hc : cap = lo
    · subst hc
      have : hi = cap := by omega
      subst this
      refine ⟨b, off, 0, 0, pre, vs ++ post, by simp [ssub], hpre, by rw [hcl]; simp, Nat.le_refl _, Nat.zero_le _, by simp, ?_⟩
      have hcn : cut vs (hi * sz) (hi * sz) = [] := by apply List.eq_nil_of_length_eq_zero; rw [hcl]; simp
      rw [hb, hcn]; simp
    · refine ⟨b, off + lo * sz, hi - lo, cap - lo, pre ++ vs.take (lo * sz), vs.drop (hi * sz) ++ post, by simp [ssub, hc, addr_add], by simp [hpre]; omega, hcl, by omega, by omega, ?_, ?_⟩
      · simp only [List.length_append, List.length_drop, hlen]
        have : (cap - lo - (hi - lo)) * sz = (n - hi) * sz + (cap - n) * sz := by rw [← Nat.add_mul]; congr 1; omega
        have h3 : (n - hi) * sz = n * sz - hi * sz := Nat.sub_mul _ _ _
        omega
      · rw [hb]
        congr 3
        conv => lhs; rw [hsplit]
        simp
theorem os_ssub {α : Type} {T : Ty α} {e : TypeId} {s : Value} {xs : List α} {h : PH} {lo hi : Nat} (ho : OS T e s xs h) (h1 : lo ≤ hi) (h2 : hi ≤ xs.length) : OS T e (ssub s T.sz lo hi) (cut xs lo hi) h := by
  have hl := ho.2
  refine ⟨by rw [← T.cut]; exact own_ssub ho.1 h1 (by omega), ?_⟩
  rw [cut_len h2]
  have := ho.1
  rcases this with ⟨rfl, _⟩ | ⟨b, off, n, cap, pre, post, rfl, _⟩
  · simp only [slen] at hl; simp [ssub, slen]
  · simp [ssub, slen]
theorem rs_ssub {α : Type} {T : Ty α} {w : World} {s : Value} {xs : List α} {lo hi : Nat} (ho : RS T w s xs) (h1 : lo ≤ hi) (h2 : hi ≤ xs.length) : RS T w (ssub s T.sz lo hi) (cut xs lo hi) := by
  obtain ⟨⟨a, n, cap, rfl, hlen, ⟨hnc, hbig⟩, hc⟩, hl⟩ := ho
  simp only [slen] at hl
  subst hl
  have hcl := cut_len (lo := lo) h2
  refine ⟨⟨_, hi - lo, cap - lo, rfl, by rw [T.len, hcl], ⟨by omega, by omega⟩, fun i v hv => ?_⟩, hcl⟩
  rw [← T.cut] at hv
  have hil := (List.getElem?_eq_some_iff.1 hv).1
  have hcl2 : (cut (xs.flatMap T.enc) (lo * T.sz) (hi * T.sz)).length = hi * T.sz - lo * T.sz := cut_len (by rw [T.len]; exact Nat.mul_le_mul_right _ h2)
  have hv' : (xs.flatMap T.enc)[lo * T.sz + i]? = some v := by
    simp only [cut, List.getElem?_drop] at hv
    rw [List.getElem?_take] at hv
    split at hv
    · exact hv
    · cases hv
  obtain ⟨p, rfl, hsp, hcell⟩ := hc _ _ hv'
  by_cases hcl' : cap = lo
  · subst hcl'
    have : hi * T.sz ≤ cap * T.sz := Nat.mul_le_mul_right _ (by omega)
    omega
  · refine ⟨p.add (lo * T.sz), by simp [hcl'], by rw [addr_add' hsp], ?_⟩
    rw [addr_add' hsp]
    simp only []
    rw [Nat.add_assoc]; exact hcell
theorem Sat.sub {w0 w : World} {Γ : List HP} {α : Type} {T : Ty α} {s : Value} {e : TypeId} {xs : List α} {put : HP → List HP} (hw : Sat w0 w Γ) (O : OwnAt Γ s α T e xs put) (lo hi : Nat) (h1 : lo ≤ hi) (h2 : hi ≤ xs.length) : Sat w0 w (put (OS T e (ssub s T.sz lo hi) (cut xs lo hi))) := by
  obtain ⟨i, hi', hp⟩ := O.foc.ok
  rw [hp]
  exact Sat.back i hi' ((hw.focus i hi').mono fun h ho => os_ssub ho h1 h2)

section
variable {ops : Array Oper} {K : Fr → World → Prop} {r : List Oper} {ρ : Fr} {w w0 : World} {d : Nat} {ty : TypeId} {pos : String} {af : Array Edge} {g : Option (Nat × Bool)} {dst : Option Nat} {x y z : Operand} {t t' : TypeId} {Γ : List HP}
variable {α : Type} {T : Ty α} {s : Value} {xs : List α}
theorem pv_sliceTo {e sz by_ : Nat} {k : IntKind} {j : Int} [S : SliceT P t e sz by_] (hx : evl ρ x = s) (hy : evl ρ y = .int k j) (h : RS T w s xs) (hz : sz = T.sz) (h0 : 0 ≤ j) (h1 : j ≤ xs.length) :
    PureV P ⟨dst, .slice t x none (some y) none, ty, pos, af, g⟩ ρ (ssub s T.sz 0 j.toNat) := fun w => by
  subst hz
  obtain ⟨⟨a, n, cap, rfl, _, ⟨hnc, _⟩, _⟩, hl⟩ := h
  simp only [slen] at hl
  have hj : j ≤ cap := by omega
  simp [execOp, Instr.sliceAt, Instr.slice, Instr.sliceBounds, Instr.sliceBound, asIntOf, hx, hy, run_underlying S.und, h0, hj, S.size, ssub]
theorem pv_sliceFrom {e sz by_ : Nat} {k : IntKind} {j : Int} [S : SliceT P t e sz by_] (hx : evl ρ x = s) (hy : evl ρ y = .int k j) (h : RS T w s xs) (hz : sz = T.sz) (h0 : 0 ≤ j) (h1 : j ≤ xs.length) :
    PureV P ⟨dst, .slice t x (some y) none none, ty, pos, af, g⟩ ρ (ssub s T.sz j.toNat xs.length) := fun w => by
  subst hz
  obtain ⟨⟨a, n, cap, rfl, _, ⟨hnc, _⟩, _⟩, hl⟩ := h
  simp only [slen] at hl
  have hj : j ≤ n := by omega
  simp [execOp, Instr.sliceAt, Instr.slice, Instr.sliceBounds, Instr.sliceBound, asIntOf, hx, hy, run_underlying S.und, h0, hj, S.size, ssub, hl]
theorem pv_sliceBoth {e sz by_ : Nat} {k k' : IntKind} {i j : Int} [S : SliceT P t e sz by_] (hx : evl ρ x = s) (hy : evl ρ y = .int k i) (hz' : evl ρ z = .int k' j) (h : RS T w s xs) (hz : sz = T.sz) (h0 : 0 ≤ i) (hij : i ≤ j) (h1 : j ≤ xs.length) :
    PureV P ⟨dst, .slice t x (some y) (some z) none, ty, pos, af, g⟩ ρ (ssub s T.sz i.toNat j.toNat) := fun w => by
  subst hz
  obtain ⟨⟨a, n, cap, rfl, _, ⟨hnc, _⟩, _⟩, hl⟩ := h
  simp only [slen] at hl
  have hj : j ≤ cap := by omega
  have hj0 : 0 ≤ j := by omega
  have hi : i ≤ max j 0 := by omega
  simp [execOp, Instr.sliceAt, Instr.slice, Instr.sliceBounds, Instr.sliceBound, asIntOf, hx, hy, hz', run_underlying S.und, h0, hj, hj0, hi, S.size, ssub]
theorem pv_sliceAll {e sz by_ : Nat} [S : SliceT P t e sz by_] (hx : evl ρ x = s) (h : RS T w s xs) (hz : sz = T.sz) :
    PureV P ⟨dst, .slice t x none none none, ty, pos, af, g⟩ ρ (ssub s T.sz 0 xs.length) := fun w => by
  subst hz
  obtain ⟨⟨a, n, cap, rfl, _, ⟨hnc, _⟩, _⟩, hl⟩ := h
  simp only [slen] at hl
  simp [execOp, Instr.sliceAt, Instr.slice, Instr.sliceBounds, Instr.sliceBound, hx, run_underlying S.und, S.size, ssub, hl]

/-! ### append -/
theorem first_cells {s : Value} {sz : Nat} {vs : List Value} {n : Nat} (h : RSl w s sz vs) (hn : slen s = n) (w' : World) (hw' : w'.heap = w.heap) : (Builtin.firstCells sz n s).run P w' = .ok vs.toArray w' := by
  obtain ⟨a, n', cap, rfl, hlen, _, hc⟩ := h
  simp only [slen] at hn; subst hn
  cases a with
  | none =>
    have : vs = [] := by
      apply List.eq_nil_iff_length_eq_zero.2
      rcases Nat.eq_zero_or_pos vs.length with h | h
      · exact h
      · obtain ⟨p, hp, _⟩ := hc 0 _ (List.getElem?_eq_getElem h); cases hp
    subst this
    simp [Builtin.firstCells]
  | some p =>
    refine run_firstCells_some (P := P) w' sz n' p n' cap vs hlen fun j v hv => ?_
    obtain ⟨p', hp', hsp, hcell⟩ := hc j v hv
    cases hp'
    rw [addr_add' hsp]
    simpa [World.cell?, hw'] using hcell
theorem Sat.renew {A' : HP} {i : Nat} {A : HP} {o : Obj} (hw : Sat w0 w Γ) (hi : Γ[i]? = some A) (ha : A' (fun x => if x = w.heap.size then some o else none)) : Sat w0 (pushW w o) (Γ.set i A') := by
  have h1 := (hw.push ha).focus (i + 1) (A := A) (by simpa using hi)
  exact Sat.back i hi h1.tail
/-- append onto a slice of the call's own. -/
theorem st_append {e sz by_ : Nat} {s2 : Value} {ys : List α} {zs : List Value} {put : HP → List HP} [S : SliceT P t e sz by_] [Z : ZeroT P e zs] (O : OwnAt Γ s α T e xs put) (hx : evl ρ x = s) (hy : evl ρ y = s2) (h2 : RS T w s2 ys) (hsz : sz = T.sz) (hzl : zs.length = sz)
    (hone : ∀ x ∈ ys, ∀ v ∈ T.enc x, v.oneCell' = true) (hb : (xs.length + ys.length) * by_ ≤ 140737488355328) (hl : xs.length + ys.length ≤ big) (hw : Sat w0 w Γ)
    (h : ∀ s' w', Sat w0 w' (put (OS T e s' (xs ++ ys))) → opsW P ops K r (upd ρ d s') w') : opsW P ops K (⟨some d, .call { callee := .builtin .append, args := #[x, y], argTypes := #[t, t] }, ty, pos, af, none⟩ :: r) ρ w := by
  refine step_eff rfl ?_
  subst hsz
  obtain ⟨i, hi, hp⟩ := O.foc.ok
  simp only [hp] at h
  obtain ⟨inf, hinf, hs, hby⟩ := S.info
  obtain ⟨zv, hzv, hzr⟩ := Z.zero
  have h1 := hw.rs i hi
  obtain ⟨ph, hph, hown⟩ := hw.at i hi
  obtain ⟨a2, cap2, hs2⟩ := h2.shape
  have hfc2 : ∀ w' : World, w'.heap = w.heap → (Builtin.firstCells T.sz ys.length s2).run P w' = .ok (ys.flatMap T.enc).toArray w' := fun w' hw' => first_cells h2.1 h2.2.symm w' hw'
  have hfc1 : ∀ w' : World, w'.heap = w.heap → (Builtin.firstCells T.sz xs.length s).run P w' = .ok (xs.flatMap T.enc).toArray w' := fun w' hw' => first_cells h1.1 h1.2.symm w' hw'
  have hgrow : ∀ (a : Option Addr) (cap : Nat), s = .slice a xs.length cap → cap < xs.length + ys.length →
      (execOp (evl ρ) ⟨some d, .call { callee := .builtin .append, args := #[x, y], argTypes := #[t, t] }, ty, pos, af, none⟩).run P w =
      .ok (.value (.slice (some ⟨w.heap.size, 0, none⟩) (xs.length + ys.length) (grownCap w (xs.length + ys.length) cap e))) (pushW w.drew (.cells ((xs.flatMap T.enc).toArray ++ (ys.flatMap T.enc).toArray ++ Builtin.zeroCells zs.toArray (grownCap w (xs.length + ys.length) cap e - (xs.length + ys.length))) e)) := by
    intro a cap hsh hcap
    have hn : ¬ (xs.length + ys.length ≤ cap) := by omega
    have h63' : ¬ (9223372036854775807 < ((xs.length : Int) + (ys.length : Int))) := by unfold big at hl; omega
    have hfit := growslice_fits (bytes := by_) hcap hb
    have h48' : ¬ (281474976710656 < Builtin.nextslicecap (xs.length + ys.length) cap * by_) := by omega
    have hq : (Question.appendCap (xs.length + ys.length) cap e).forced = false := rfl
    rw [hsh] at hfc1
    rw [hs2] at hfc2
    simp [execOp, resolve, invoke, builtin, Builtin.append_, hx, hy, hsh, hs2, run_underlying S.und, S.size, typeInfo, hinf, hby, Builtin.lenOf, hn, h63', h48', hq, hfc1, hfc2, hzr, hzv, grownCap]
    rw [hfc1 w.drew rfl]
    simp only [Result.andThen_ok]
    rw [hfc2 w.drew rfl]
    have hlist : ∀ (X Y : List Value) (Z : Array Value), X.toArray ++ (Y.toArray ++ Z) = (X ++ Y).toArray ++ Z := fun X Y Z => by apply Array.ext'; simp only [Array.toList_append, List.append_assoc]
    simp only [newRow, Sem.run_bind, run_newObj, Result.andThen_ok, Sem.run_pure]
    rw [hlist]
    rfl
  simp only [opW]
  rcases hown with ⟨hown, hlen⟩
  have hnew : ∀ cap, cap < xs.length + ys.length → Sat w0 (pushW w.drew (.cells ((xs.flatMap T.enc).toArray ++ (ys.flatMap T.enc).toArray ++ Builtin.zeroCells zs.toArray (grownCap w (xs.length + ys.length) cap e - (xs.length + ys.length))) e)) (Γ.set i (OS T e (.slice (some ⟨w.heap.size, 0, none⟩) (xs.length + ys.length) (grownCap w (xs.length + ys.length) cap e)) (xs ++ ys))) := by
    intro cap hcap
    have hge := grownCap_ge w (xs.length + ys.length) cap e
    refine Sat.renew (w := w.drew) hw.drew hi ⟨.inr ⟨w.heap.size, 0, _, _, [], (Builtin.zeroCells zs.toArray (grownCap w (xs.length + ys.length) cap e - (xs.length + ys.length))).toList, rfl, rfl, by rw [T.len]; simp, hge, hl, ?_, ?_⟩, by simp [slen]⟩
    · simp [size_zeroCells, hzl]
    · simp
  rcases hown with ⟨rfl, hnil⟩ | ⟨b, off, n, cap, pre, post, rfl, hpre, hlen', hnc, hbig, hpost, hb'⟩
  · simp only [slen] at hlen
    by_cases hys : ys.length = 0
    · have hy0 := List.eq_nil_of_length_eq_zero hys
      subst hy0
      have hr : (execOp (evl ρ) ⟨some d, .call { callee := .builtin .append, args := #[x, y], argTypes := #[t, t] }, ty, pos, af, none⟩).run P w = .ok (.value (.slice none 0 0)) w := by
        have hfc2' := hfc2 w rfl
        rw [hs2] at hfc2'
        simp only [List.length_nil] at hfc2'
        simp [execOp, resolve, invoke, builtin, Builtin.append_, hx, hy, hs2, run_underlying S.und, S.size, Builtin.lenOf, hfc2']
      rw [hr]
      refine h _ _ ?_
      have : xs = [] := List.eq_nil_of_length_eq_zero hlen
      subst this
      simp only [List.append_nil]
      rw [show Γ.set i (OS T e (.slice none 0 0) []) = Γ from ?_]
      · exact hw
      · apply List.ext_getElem?
        intro k
        rw [List.getElem?_set]
        split
        · rename_i hk; subst hk; split
          · rw [hi]
          · rename_i hk; rw [List.getElem?_eq_none (by omega)]
        · rfl
    · rw [hgrow none 0 (by rw [hlen]) (by omega)]
      exact h _ _ (hnew 0 (by omega))
  · simp only [slen] at hlen
    subst hlen
    by_cases hroom : xs.length + ys.length ≤ cap
    · have hfc2' := hfc2 w rfl
      rw [hs2] at hfc2'
      have hlx : (xs.flatMap T.enc).length = xs.length * T.sz := T.len xs
      have hly : (ys.flatMap T.enc).length = ys.length * T.sz := T.len ys
      have hm : xs.length * T.sz + ys.length * T.sz ≤ xs.length * T.sz + (cap - xs.length) * T.sz := by
        have : ys.length * T.sz ≤ (cap - xs.length) * T.sz := Nat.mul_le_mul_right _ (by omega)
        omega
      have hst := run_storeCells (P := P) (bt := e) (ys.flatMap T.enc) (off + xs.length * T.sz) 0 (pre ++ xs.flatMap T.enc ++ post) w (by
        intro v hv
        obtain ⟨x', hx', hv'⟩ := List.mem_flatMap.1 hv
        exact hone x' hx' v hv') (by simp only [List.length_append, hlx, hly]; omega) (hph _ _ hb').1
      have hr : (execOp (evl ρ) ⟨some d, .call { callee := .builtin .append, args := #[x, y], argTypes := #[t, t] }, ty, pos, af, none⟩).run P w = .ok (.value (.slice (some ⟨b, off, none⟩) (xs.length + ys.length) cap)) (putB w b (.cells ((pre ++ xs.flatMap T.enc ++ post).take (off + xs.length * T.sz + 0) ++ ys.flatMap T.enc ++ (pre ++ xs.flatMap T.enc ++ post).drop (off + xs.length * T.sz + 0 + (ys.flatMap T.enc).length)).toArray e (0, 0))) := by
        simp only [execOp, resolve, invoke, builtin, Builtin.append_, hx, hy, hs2, Sem.run_bind, Sem.run_pure, Result.andThen_ok, List.map_toArray, List.map_cons, List.map_nil, run_underlying S.und, S.size, Builtin.lenOf]
        simp [hfc2', hroom, addr_add, run_underlying S.und, Builtin.lenOf, S.size]
        rw [hst]
        simp
      rw [hr]
      have h1' : (pre ++ xs.flatMap T.enc ++ post).take (off + xs.length * T.sz + 0) = pre ++ xs.flatMap T.enc := by
        rw [List.take_append_of_le_length (by simp only [List.length_append, hlx]; omega)]
        exact List.take_of_length_le (by simp only [List.length_append, hlx]; omega)
      have h2' : (pre ++ xs.flatMap T.enc ++ post).drop (off + xs.length * T.sz + 0 + (ys.flatMap T.enc).length) = post.drop (ys.length * T.sz) := by
        rw [List.drop_append, List.drop_eq_nil_of_le (by simp only [List.length_append, hlx, hly]; omega)]
        simp only [List.nil_append, List.length_append, hlx, hly]; congr 1; omega
      rw [h1', h2']
      refine h _ _ (Sat.back i hi (Sat.put (hw.focus i hi) fun h1 hsub hA => ?_))
      rcases hA with ⟨hA, _⟩
      rcases hA with ⟨hc, _⟩ | ⟨b1, off1, n1, cap1, pre1, post1, hs1, hpre1, hlen1, hnc1, hbig1, hpost1, hb1⟩
      · cases hc
      · cases hs1
        refine ⟨⟨_, hb1⟩, .inr ⟨b, off, xs.length + ys.length, cap, pre, post.drop (ys.length * T.sz), rfl, hpre, by rw [T.len, List.length_append], hroom, hl, ?_, ?_⟩, by simp [slen]⟩
        · simp only [List.length_drop]
          have : (cap - (xs.length + ys.length)) * T.sz = (cap - xs.length) * T.sz - ys.length * T.sz := by rw [← Nat.sub_mul]; congr 1; omega
          omega
        · simp [hpS]
    · rw [hgrow _ cap rfl (by omega)]
      exact h _ _ (hnew cap (by omega))
end

theorem RS.one {α : Type} {T : Ty α} {w : World} {s : Value} {xs : List α} (h : RS T w s xs) : s.oneCell' = true := by
  obtain ⟨a, cap, rfl⟩ := h.shape; rfl
/-- Element types whose cells are of one cell each. -/
class OneT {α : Type} (T : Ty α) : Prop where
  ok : ∀ (x : α) (v : Value), v ∈ T.enc x → v.oneCell' = true
instance : OneT tInt := ⟨fun _ v hv => by rw [List.mem_singleton.1 hv]; rfl⟩
instance : OneT tBool := ⟨fun _ v hv => by rw [List.mem_singleton.1 hv]; rfl⟩
theorem Foc.app {A : HP} {Δ Γ : List HP} {put : HP → List HP} (h : Foc Γ A put) : Foc (Δ ++ Γ) A (fun A' => Δ ++ put A') := by
  obtain ⟨i, hi, hp⟩ := h.ok
  refine ⟨Δ.length + i, by rw [List.getElem?_append_right (by omega)]; simpa using hi, fun A' => ?_⟩
  rw [hp, List.set_append_right _ _ (by omega)]; simp
instance box_app {Δ : List HP} {p : Addr} {t : TypeId} {cells : List Value} {Γ : List HP} {put : HP → List HP} [h : BoxAt Γ p t cells put] : BoxAt (Δ ++ Γ) p t cells (fun A' => Δ ++ put A') := ⟨h.foc.app⟩
instance own_app {Δ : List HP} {α : Type} {T : Ty α} {s : Value} {e : TypeId} {xs : List α} {Γ : List HP} {put : HP → List HP} [h : OwnAt Γ s α T e xs put] : OwnAt (Δ ++ Γ) s α T e xs (fun A' => Δ ++ put A') := ⟨h.foc.app⟩

/-! ### Rows of rows -/
def RowsAt {α : Type} (T : Ty α) (e : TypeId) (ss : List Value) (xss : List (List α)) : HP := fun h => ss.length = xss.length ∧ SatL (List.zipWith (OS T e) ss xss) h
theorem SatL.app {Γ : List HP} : ∀ (Δ : List HP) {h1 h2 h : PH}, Disj h1 h2 → Sub h1 h → Sub h2 h → SatL Δ h1 → SatL Γ h2 → SatL (Δ ++ Γ) h := by
  intro Δ
  induction Δ with
  | nil => intro h1 h2 h _ _ s2 _ hg; exact hg.sub s2
  | cons A Δ ih =>
    intro h1 h2 h d s1 s2 hd hg
    obtain ⟨g1, g2, dg, t1, t2, ha, hr⟩ := hd
    refine ⟨g1, hpU g2 h2, fun b => ?_, t1.trans s1, fun b o hb => ?_, ha, ih (h1 := g2) (h2 := h2) (d.symm.sub t2).symm (fun b o hb => by simp [hpU, hb]) (fun b o hb => ?_) hr hg⟩
    · cases hg1 : g1 b with
      | none => exact .inl rfl
      | some o =>
        right
        have : g2 b = none := (dg b).resolve_left (by rw [hg1]; simp)
        have h2n : h2 b = none := (d b).resolve_left (by rw [t1 b o hg1]; simp)
        simp [hpU, this, h2n]
    · simp only [hpU] at hb
      split at hb
      · rename_i o' ho'; cases hb; exact s1 b _ (t2 b _ ho')
      · exact s2 b o hb
    · simp only [hpU]
      have : g2 b = none := by
        rcases d b with h | h
        · cases hg2 : g2 b with
          | none => rfl
          | some o' => rw [t2 b o' hg2] at h; cases h
        · rw [hb] at h; cases h
      rw [this]; exact hb
theorem SatL.split {Γ : List HP} : ∀ (Δ : List HP) {h : PH}, SatL (Δ ++ Γ) h → ∃ h1 h2, Disj h1 h2 ∧ Sub h1 h ∧ Sub h2 h ∧ SatL Δ h1 ∧ SatL Γ h2 := by
  intro Δ
  induction Δ with
  | nil => intro h hh; exact ⟨fun _ => none, h, fun _ => .inl rfl, fun _ _ hb => (by simp at hb), Sub.refl _, trivial, hh⟩
  | cons A Δ ih =>
    intro h hh
    obtain ⟨g1, g2, dg, t1, t2, ha, hr⟩ := hh
    obtain ⟨k1, k2, dk, u1, u2, hd, hg⟩ := ih hr
    refine ⟨hpU g1 k1, k2, fun b => ?_, fun b o hb => ?_, u2.trans t2, ⟨g1, k1, dg.sub u1, fun b o hb => by simp [hpU, hb], fun b o hb => ?_, ha, hd⟩, hg⟩
    · rcases dk b with h | h
      · rcases dg b with h' | h'
        · left; simp [hpU, h', h]
        · right; cases hk : k2 b with
          | none => rfl
          | some o => rw [u2 b o hk] at h'; cases h'
      · exact .inr h
    · simp only [hpU] at hb
      split at hb
      · rename_i o' ho'; cases hb; exact t1 b _ ho'
      · exact t2 b o (u1 b o hb)
    · simp only [hpU]
      rcases dg b with h | h
      · rw [h]; exact hb
      · rw [u1 b o hb] at h; cases h
variable {w w0 : World} {Γ : List HP} {α : Type} {T : Ty α} {e : TypeId} {ss : List Value} {xss : List (List α)}
theorem Sat.flat (h : Sat w0 w (RowsAt T e ss xss :: Γ)) : ss.length = xss.length ∧ Sat w0 w (List.zipWith (OS T e) ss xss ++ Γ) := by
  obtain ⟨h1, h2, d, s1, s2, ⟨hl, ha⟩, hg⟩ := h.sat
  exact ⟨hl, h.below, SatL.app _ d s1 s2 ha hg⟩
theorem Sat.unflat (hl : ss.length = xss.length) (h : Sat w0 w (List.zipWith (OS T e) ss xss ++ Γ)) : Sat w0 w (RowsAt T e ss xss :: Γ) := by
  obtain ⟨h1, h2, d, s1, s2, ha, hg⟩ := h.sat.split
  exact ⟨h.below, h1, h2, d, s1, s2, ⟨hl, ha⟩, hg⟩
theorem Sat.rows0 (h : Sat w0 w Γ) : Sat w0 w (RowsAt T e [] [] :: Γ) := Sat.unflat rfl h
/-- One row, out of the rows. -/
theorem Sat.rowOut {i : Nat} (hi : i < xss.length) (h : Sat w0 w (RowsAt T e ss xss :: Γ)) : Sat w0 w (OS T e (vget ss i) (xss.getD i []) :: ((List.zipWith (OS T e) ss xss).eraseIdx i ++ Γ)) := by
  obtain ⟨hl, h⟩ := h.flat
  have := h.focus i (A := OS T e (vget ss i) (xss.getD i [])) (by
    rw [List.getElem?_append_left (by simp; omega)]
    simp [vget_eq, List.getElem?_zipWith, List.getD, List.getElem?_eq_getElem (show i < ss.length by omega), List.getElem?_eq_getElem hi])
  rwa [List.eraseIdx_append_of_lt_length (by simp; omega)] at this
theorem Sat.rowIn {i : Nat} {s' : Value} {xs' : List α} (hi : i < xss.length) (hl : ss.length = xss.length) (h : Sat w0 w (OS T e s' xs' :: ((List.zipWith (OS T e) ss xss).eraseIdx i ++ Γ))) : Sat w0 w (RowsAt T e (ss.set i s') (xss.set i xs') :: Γ) := by
  refine Sat.unflat (by simp [hl]) ?_
  have h1 : i < (List.zipWith (OS T e) ss xss ++ Γ).length := by simp; omega
  rw [← List.eraseIdx_append_of_lt_length (by simp; omega)] at h
  have h2 := Sat.back i (List.getElem?_eq_getElem h1) h
  rw [List.set_append_left _ _ (by simp; omega)] at h2
  have : List.zipWith (OS T e) (ss.set i s') (xss.set i xs') = (List.zipWith (OS T e) ss xss).set i (OS T e s' xs') := by
    apply List.ext_getElem?
    intro k
    by_cases hk : i = k
    · subst hk
      rw [List.getElem?_zipWith, List.getElem?_set_self (by omega), List.getElem?_set_self (by omega), List.getElem?_set_self (by simp; omega)]
    · rw [List.getElem?_zipWith, List.getElem?_set_ne hk, List.getElem?_set_ne hk, List.getElem?_set_ne hk, List.getElem?_zipWith]
  rw [this]; exact h2
theorem Sat.only {A : HP} (h : Sat w0 w (A :: Γ)) : Sat w0 w [A] := h.tailMono fun _ _ => trivial
theorem Sat.comm {Δ : List HP} (h : Sat w0 w (Δ ++ Γ)) : Sat w0 w (Γ ++ Δ) := by
  obtain ⟨h1, h2, d, s1, s2, ha, hg⟩ := h.sat.split
  exact ⟨h.below, SatL.app _ d.symm s2 s1 hg ha⟩
theorem Sat.rowsLen (h : Sat w0 w (RowsAt T e ss xss :: Γ)) : ss.length = xss.length := h.flat.1
theorem Sat.row {i : Nat} (hi : i < xss.length) (h : Sat w0 w (RowsAt T e ss xss :: Γ)) : RS T w (vget ss i) (xss.getD i []) := (h.rowOut hi).rs 0 rfl
theorem Sat.rowPush {s' : Value} {xs' : List α} (h : Sat w0 w (OS T e s' xs' :: RowsAt T e ss xss :: Γ)) : Sat w0 w (RowsAt T e (ss ++ [s']) (xss ++ [xs']) :: Γ) := by
  obtain ⟨hl, h1⟩ := (Sat.swap h).flat
  refine Sat.unflat (by simp [hl]) ?_
  rw [List.zipWith_append hl]
  simpa using h1
theorem Sat.rowsNil (h : Sat w0 w Γ) : ∀ n, Sat w0 w (RowsAt T e (List.replicate n (.slice none 0 0)) (List.replicate n []) :: Γ)
  | 0 => h.rows0
  | n + 1 => by
    rw [List.replicate_succ', List.replicate_succ']
    exact (Sat.nil (T := T) (e := e) (Sat.rowsNil h n)).rowPush
end
theorem vget_set {ss : List Value} {i : Nat} {v : Value} (h : i < ss.length) : vget (ss.set i v) i = v := by simp [vget_eq, List.getD, h]
theorem set_vget {ss : List Value} {i : Nat} (h : i < ss.length) : ss.set i (vget ss i) = ss := by
  apply List.ext_getElem (by simp)
  intro k h1 h2
  rw [List.getElem_set]
  split
  · rename_i e; subst e; simp [vget_eq, List.getD, h]
  · rfl
theorem Sat.rowNew {w0 w : World} {Γ : List HP} {α : Type} {T : Ty α} {e : TypeId} {ss : List Value} {xss : List (List α)} {i : Nat} {s' : Value} {xs' : List α} (hi : i < xss.length) (h : Sat w0 w (OS T e s' xs' :: RowsAt T e ss xss :: Γ)) : Sat w0 w (RowsAt T e (ss.set i s') (xss.set i xs') :: Γ) := by
  have hl := h.swap.rowsLen
  have h1 := (h.swap.rowOut hi).tail
  have h2 := h1.focus ((List.zipWith (OS T e) ss xss).eraseIdx i).length (A := OS T e s' xs') (by rw [List.getElem?_append_right (Nat.le_refl _)]; simp)
  refine Sat.rowIn hi hl ?_
  rw [List.eraseIdx_append_of_length_le (Nat.le_refl _)] at h2
  simpa using h2
theorem Sat.rowBack {w0 w : World} {Γ : List HP} {α : Type} {T : Ty α} {e : TypeId} {ss : List Value} {xss : List (List α)} {i : Nat} {xs' : List α} (hi : i < xss.length) (hl : ss.length = xss.length) (h : Sat w0 w (OS T e (vget ss i) xs' :: ((List.zipWith (OS T e) ss xss).eraseIdx i ++ Γ))) : Sat w0 w (RowsAt T e ss (xss.set i xs') :: Γ) := by
  have := Sat.rowIn hi hl h
  rwa [set_vget (by omega)] at this
attribute [irreducible] ssub
end Go.Sl
