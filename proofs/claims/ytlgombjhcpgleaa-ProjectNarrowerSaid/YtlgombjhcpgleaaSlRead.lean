/-
  From the form's reading of an argument to what a walk is told: a slice of elements of one kind.
-/
import Derived.Test.YtlgombjhcpgleaaSlGo
import Derived.ChangeSame
import Derived.ChangeShapes
import Derived.ChangeSlices
namespace Go.Sl
open Go.RowKit (Below)
section
variable {H : Type} {enc : TypeId × Value → H} {P : Program} {w : World} {base : Nat} {spare : Nat → Bool} {held : Bool}
/-- Whatever reads as type t is the encoding of something good. -/
def Rd {α : Type} (enc : TypeId × Value → H) (P : Program) (w : World) (base : Nat) (spare : Nat → Bool) (held : Bool) (t : TypeId) (T : Ty α) (Good : α → Prop) : Prop :=
  ∀ fuel cs y, DataW.trod enc P w base spare held fuel t cs = some y → ∃ x, cs = T.enc x ∧ Good x
theorem rd_int {t : TypeId} (ht : P.underlying t = some (.int .i64)) : Rd enc P w base spare held t tInt fun n => -9223372036854775808 ≤ n ∧ n ≤ 9223372036854775807 := by
  intro fuel cs y h
  obtain ⟨n, rfl, _, hw⟩ := DataW.trod_int ht h
  refine ⟨n, rfl, ?_⟩
  simpa [Lit.wf, IntKind.min, IntKind.max, IntKind.signed, IntKind.bits] using hw
theorem rd_bool {t : TypeId} (ht : P.underlying t = some .bool) : Rd enc P w base spare held t tBool fun _ => True := by
  intro fuel cs y h
  obtain ⟨b, rfl, _⟩ := DataW.trod_bool ht h
  exact ⟨b, rfl, trivial⟩
theorem mapM_get {α β : Type} {f : α → Option β} : ∀ {l : List α} {r : List β}, l.mapM f = some r → ∀ (i : Nat) (x : α), l[i]? = some x → ∃ y, f x = some y ∧ r[i]? = some y
  | [], r, h, i, x, hx => by simp at hx
  | a :: l, r, h, i, x, hx => by
    simp only [List.mapM_cons, Option.bind_eq_bind, Option.pure_def] at h
    cases ha : f a with
    | none => simp [ha] at h
    | some b =>
      cases hl : l.mapM f with
      | none => simp [ha, hl] at h
      | some r' =>
        simp only [ha, hl, Option.bind_some, Option.some.injEq] at h
        subst h
        cases i with
        | zero => simp at hx; subst hx; exact ⟨b, ha, rfl⟩
        | succ i => simp at hx; obtain ⟨y, h1, h2⟩ := mapM_get hl i x hx; exact ⟨y, h1, by simpa using h2⟩
theorem cells_get {a : Addr} {n : Nat} {cs : List Value} (h : w.cells? base a n = some cs) : cs.length = n ∧ ∀ (i : Nat) v, cs[i]? = some v → w.cell? (a.add i) = some v := by
  unfold World.cells? at h
  split at h
  · have hl : cs.length = n := by
      have : ∀ {l : List Nat} {r : List Value}, l.mapM (fun i => w.cell? (a.add i)) = some r → r.length = l.length := by
        intro l
        induction l with
        | nil => intro r h; simp at h; subst h; rfl
        | cons x l ih =>
          intro r h
          simp only [List.mapM_cons, Option.bind_eq_bind, Option.pure_def] at h
          cases hx : w.cell? (a.add x) with
          | none => simp [hx] at h
          | some b =>
            cases hr : l.mapM (fun i => w.cell? (a.add i)) with
            | none => simp [hx, hr] at h
            | some r' => simp only [hx, hr, Option.bind_some, Option.some.injEq] at h; subst h; simp [ih hr]
      have := this h; simpa using this
    refine ⟨hl, fun i v hv => ?_⟩
    have hi := (List.getElem?_eq_some_iff.1 hv).1
    obtain ⟨y, h1, h2⟩ := mapM_get h i i (by rw [List.getElem?_range (by omega)])
    rw [hv] at h2; cases h2; exact h1
  · cases h
theorem add_add (a : Addr) (i j : Nat) (hs : a.spot = none) : (a.add i).add j = ⟨a.block, a.off + (i + j), none⟩ := by
  unfold Addr.add
  obtain ⟨b, o, s⟩ := a
  simp only at hs; subst hs
  split <;> split <;> simp_all <;> omega
theorem list_of_get {α β : Type} {Q : Nat → α → Prop} : ∀ (n : Nat), (∀ i, i < n → ∃ x, Q i x) → ∃ xs : List α, xs.length = n ∧ ∀ (i : Nat) x, xs[i]? = some x → Q i x
  | 0, _ => ⟨[], rfl, by simp⟩
  | n + 1, h => by
    obtain ⟨xs, hl, hx⟩ := list_of_get (β := β) n fun i hi => h i (by omega)
    obtain ⟨x, hq⟩ := h n (by omega)
    refine ⟨xs ++ [x], by simp [hl], fun i y hy => ?_⟩
    rcases Nat.lt_or_ge i n with hi | hi
    · rw [List.getElem?_append_left (by omega)] at hy; exact hx i y hy
    · have hlt := (List.getElem?_eq_some_iff.1 hy).1
      simp at hlt
      have : i = n := by omega
      subst this
      rw [List.getElem?_append_right (by omega), hl] at hy
      simp at hy; subst hy; exact hq
/-- A slice: its elements are good, and the walk may read them. -/
theorem rd_slice {α : Type} {T : Ty α} {Good : α → Prop} {t e : TypeId} (ht : P.underlying t = some (.slice e)) (hsz : P.cellsOf e = T.sz) (hpos : 0 < T.sz) (hE : Rd enc P w base spare held e T Good) :
    Rd enc P w base spare held t tVal fun v => ∃ xs, RS T w v xs ∧ ∀ x ∈ xs, Good x := by
  intro fuel cs y h
  rcases DataW.trod_slice ht h with ⟨rfl, _⟩ | ⟨a, len, cap, elems, rest, fuel', _, rfl, _, _, hlc, hcm, hlen, hel, _⟩
  · exact ⟨_, rfl, [], RS.nil, by simp⟩
  · have hget : ∀ i, i < len → ∃ x : α, Good x ∧ ∀ (k : Nat) v, (T.enc x)[k]? = some v → w.cell? ((a.add (i * P.cellsOf e)).add k) = some v := by
      intro i hi
      have h1 := hel i hi
      rw [List.getElem?_eq_getElem (by omega)] at h1
      cases hc : w.cells? base (a.add (i * P.cellsOf e)) (P.cellsOf e) with
      | none => simp [hc] at h1
      | some cs =>
        simp only [hc, Option.bind_some] at h1
        obtain ⟨x, rfl, hg⟩ := hE _ cs _ h1
        exact ⟨x, hg, (cells_get hc).2⟩
    obtain ⟨xs, hl, hx⟩ := list_of_get (β := Unit) (Q := fun i (x : α) => Good x ∧ ∀ (k : Nat) v, (T.enc x)[k]? = some v → w.cell? ((a.add (i * P.cellsOf e)).add k) = some v) len hget
    refine ⟨_, rfl, xs, ⟨⟨some a, len, cap, rfl, by rw [T.len, hl], ⟨hlc, by unfold maxLen at hcm; unfold big; omega⟩, ?_⟩, hl⟩, ?_⟩
    · intro i v hv
      have hi := (List.getElem?_eq_some_iff.1 hv).1
      rw [T.len] at hi
      have hq : i / T.sz < xs.length := (Nat.div_lt_iff_lt_mul hpos).2 hi
      have hmod : i % T.sz < T.sz := Nat.mod_lt _ hpos
      have hsplit : i = i / T.sz * T.sz + i % T.sz := by rw [Nat.mul_comm]; exact (Nat.div_add_mod i T.sz).symm
      have h1 := T.get xs (i / T.sz) (i % T.sz) hq hmod
      rw [← hsplit, hv] at h1
      have hgd : xs[i / T.sz]? = some (xs.getD (i / T.sz) T.dflt) := by simp [List.getD, hq]
      have hcell := (hx _ _ hgd).2 _ _ h1.symm
      have hspot : a.spot = none := by
        cases hsp : a.spot with
        | none => rfl
        | some s0 =>
          have hx0 : 0 < xs.length := Nat.lt_of_le_of_lt (Nat.zero_le _) hq
          have he0 : 0 < (T.enc xs[0]).length := by rw [T.ok]; exact hpos
          have h00 := (hx 0 xs[0] (List.getElem?_eq_getElem hx0)).2 0 (T.enc xs[0])[0] (List.getElem?_eq_getElem he0)
          have : (a.add (0 * P.cellsOf e)).add 0 = a := by simp [Addr.add]
          rw [this] at h00
          unfold World.cell? at h00
          split at h00
          · simp [hsp] at h00
          · cases h00
      refine ⟨a, rfl, hspot, ?_⟩
      rw [add_add a _ _ hspot, hsz, ← hsplit] at hcell
      exact hcell
    · intro x hxm
      obtain ⟨i, hi, rfl⟩ := List.getElem_of_mem hxm
      exact (hx i _ (List.getElem?_eq_getElem hi)).1
/-- A struct: each field reads. -/
theorem rd_struct {t : TypeId} {fs : Array Field} (ht : P.underlying t = some (.struct fs)) {fuel : Nat} {cs : List Value} {y : DataW H × List MemPlace} (h : DataW.trod enc P w base spare held fuel t cs = some y) :
    cs.length = P.cellsOf t ∧ ∀ (i : Nat) (f : Field), fs[i]? = some f → ∃ n y', DataW.trod enc P w base spare held n f.type ((cs.drop f.offset).take (P.cellsOf f.type)) = some y' := by
  obtain ⟨xs, n, _, _, hl, hlen, hf⟩ := DataW.trod_struct ht h
  refine ⟨hl, fun i f hi => ?_⟩
  have hil : i < fs.size := (Array.getElem?_eq_some_iff.1 hi).1
  have := hf i f hi
  rw [List.getElem?_eq_getElem (by omega)] at this
  exact ⟨n, _, this⟩
theorem rd_field {t i off ft n : Nat} (F : FieldT P t i off ft) (hn : P.cellsOf ft = n) {fuel : Nat} {cs : List Value} {y : DataW H × List MemPlace} (h : DataW.trod enc P w base spare held fuel t cs = some y) :
    ∃ m y', DataW.trod enc P w base spare held m ft ((cs.drop off).take n) = some y' := by
  obtain ⟨fs, fld, hd, hf, rfl, rfl, _⟩ := F.place
  obtain ⟨_, hh⟩ := rd_struct hd h
  subst hn
  exact hh i fld hf
theorem rd_len {t i off ft n : Nat} (F : FieldT P t i off ft) (hn : P.cellsOf t = n) {fuel : Nat} {cs : List Value} {y : DataW H × List MemPlace} (h : DataW.trod enc P w base spare held fuel t cs = some y) : cs.length = n := by
  obtain ⟨fs, fld, hd, hf, rfl, rfl, _⟩ := F.place
  subst hn
  exact (rd_struct hd h).1
end
end Go.Sl
