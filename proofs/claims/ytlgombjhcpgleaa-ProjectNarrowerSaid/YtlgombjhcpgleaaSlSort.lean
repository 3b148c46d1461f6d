/-
  What the kit's contracts of the sorting functions say of the world, as 'Sat'.
-/
import Derived.Test.YtlgombjhcpgleaaSlGo
import Derived.Sort.Row
import Derived.Sort.Grow
import Derived.Laws.Cover3
namespace Go.Sl
open Go.RowKit (Below)

theorem Sat.ahead {w0 w : World} {Γ : List HP} (h : Sat w0 w Γ) (n : Nat) : Sat w0 (Sort.ahead w n) Γ := ⟨h.below.trans ⟨rfl, rfl, rfl, Nat.le_refl _, fun _ _ => rfl⟩, h.sat⟩
theorem Sat.grow {w0 w : World} {Γ : List HP} (h : Sat w0 w Γ) (os : Array Obj) : Sat w0 (Sort.grow w os) Γ := by
  have hsz := h.below.size
  refine ⟨h.below.trans ⟨rfl, rfl, rfl, by simp [Sort.grow], fun k hk => ?_⟩, h.sat.sub fun b o hb => ?_⟩
  · simp only [Sort.grow]; rw [Array.getElem?_append_left (by omega)]
  · simp only [newH] at hb ⊢
    split at hb
    · cases hb
    · rename_i h1
      rw [if_neg h1]
      have hlt := (Array.getElem?_eq_some_iff.1 hb).1
      simp only [Sort.grow]; rw [Array.getElem?_append_left hlt]; exact hb
theorem ints_enc (xs : List Int) : xs.flatMap tInt.enc = xs.map (Value.int .i64) := by
  induction xs with
  | nil => rfl
  | cons x xs ih => rw [List.flatMap_cons, ih]; rfl
theorem putCells_mid {pre post : List Value} {xs ys : List Int} (hl : ys.length = xs.length) :
    Sort.putCells (Value.int .i64) pre.length ys.toArray (pre ++ xs.map (Value.int .i64) ++ post).toArray = (pre ++ ys.map (Value.int .i64) ++ post).toArray := by
  apply Array.ext_getElem?
  intro k
  simp only [Sort.putCells, Array.getElem?_mapIdx, List.getElem?_toArray, List.size_toArray]
  by_cases h1 : k < pre.length
  · rw [List.append_assoc, List.getElem?_append_left h1, List.append_assoc, List.getElem?_append_left h1]
    cases pre[k]? with
    | none => rfl
    | some v => simp only [Option.map_some]; rw [if_neg (by omega)]
  · by_cases h2 : k < pre.length + ys.length
    · have e1 : (pre ++ xs.map (Value.int .i64) ++ post)[k]? = some (Value.int .i64 (xs[k - pre.length]'(by omega))) := by
        rw [List.append_assoc, List.getElem?_append_right (by omega), List.getElem?_append_left (by simp; omega), List.getElem?_map, List.getElem?_eq_getElem (by omega)]; rfl
      have e2 : (pre ++ ys.map (Value.int .i64) ++ post)[k]? = some (Value.int .i64 (ys[k - pre.length]'(by omega))) := by
        rw [List.append_assoc, List.getElem?_append_right (by omega), List.getElem?_append_left (by simp; omega), List.getElem?_map, List.getElem?_eq_getElem (by omega)]; rfl
      rw [e1, e2]
      simp only [Option.map_some]
      rw [if_pos (by omega)]
      congr 2
      simp [show k - pre.length < ys.length by omega]
    · have e1 : (pre ++ xs.map (Value.int .i64) ++ post)[k]? = post[k - pre.length - ys.length]? := by
        rw [List.append_assoc, List.getElem?_append_right (by omega), List.getElem?_append_right (by simp; omega)]; simp [hl]
      have e2 : (pre ++ ys.map (Value.int .i64) ++ post)[k]? = post[k - pre.length - ys.length]? := by
        rw [List.append_assoc, List.getElem?_append_right (by omega), List.getElem?_append_right (by simp; omega)]; simp
      rw [e1, e2]
      cases post[k - pre.length - ys.length]? with
      | none => rfl
      | some v => simp only [Option.map_some]; rw [if_neg (by omega)]
theorem Sat.intsAt {w0 w : World} {Γ : List HP} {e : TypeId} {s : Value} {xs : List Int} (hw : Sat w0 w (OS tInt e s xs :: Γ)) :
    (s = .slice none 0 0 ∧ xs = []) ∨ ∃ b off cap, s = .slice (some ⟨b, off, none⟩) xs.length cap ∧ xs.length ≤ cap ∧ b < w.heap.size ∧ Sort.Holds (Value.int .i64) w b off xs.toArray ∧
      ∀ ys : List Int, ys.length = xs.length → ∀ n, Sat w0 (Sort.putRow (Value.int .i64) (Sort.ahead w n) b off ys.toArray) (OS tInt e s ys :: Γ) := by
  obtain ⟨h1, hs, ho, hl⟩ := hw.at 0 rfl
  rcases ho with ⟨rfl, hnil⟩ | ⟨b, off, n, cap, pre, post, rfl, hpre, hvl, hnc, hbig, hpl, hb⟩
  · left
    refine ⟨rfl, ?_⟩
    cases xs with
    | nil => rfl
    | cons x xs => simp [tInt] at hnil
  · right
    simp only [slen] at hl
    subst hl
    rw [ints_enc] at hb
    have hheap := (hs b _ hb).1
    refine ⟨b, off, cap, rfl, hnc, (Array.getElem?_eq_some_iff.1 hheap).1, fun j hj => ⟨?_, frozen_of_heap hheap _⟩, fun ys hy m => ?_⟩
    · simp only [List.size_toArray] at hj
      rw [cell_of_heap hheap, List.append_assoc, List.getElem?_append_right (by omega), List.getElem?_append_left (by simp; omega), hpre, show off + j - off = j by omega, List.getElem?_map, List.getElem?_eq_getElem hj]
      simp [hj]
    · have e1 : Sort.putRow (Value.int .i64) (Sort.ahead w m) b off ys.toArray = putB (Sort.ahead w m) b (.cells (pre ++ ys.map (Value.int .i64) ++ post).toArray e (0, 0)) := by
        simp only [Sort.putRow, Sort.mapBlock, putB, Sort.ahead]
        congr 1
        apply Array.ext_getElem?
        intro k
        have hbl := (Array.getElem?_eq_some_iff.1 hheap).1
        by_cases hk : b = k
        · subst hk
          rw [Array.getElem?_modify, if_pos rfl, hheap, Array.getElem?_setIfInBounds_self_of_lt hbl]
          simp only [Option.map_some, Sort.onCells]
          rw [← hpre, putCells_mid hy]
        · rw [Array.getElem?_modify, if_neg hk, Array.getElem?_setIfInBounds_ne hk]
      rw [e1]
      refine Sat.put (hw.ahead m) fun g hg ⟨ho', hl'⟩ => ?_
      rcases ho' with ⟨hn, _⟩ | ⟨b', off', n', cap', pre', post', hs', hpre', hvl', hnc', hbig', hpl', hb'⟩
      · cases hn
      · cases hs'
        refine ⟨⟨_, hb'⟩, .inr ⟨b, off, _, cap, pre, post, rfl, hpre, by rw [ints_enc]; simp [hy, tInt], hnc, hbig, hpl, by rw [ints_enc]; simp [hpS]⟩, by rw [hy]; exact hl'⟩
section
variable {P : Program} {ρ : Fr} {w : World} {ty : TypeId} {pos : String} {af : Array Edge} {g : Option (Nat × Bool)} {dst : Option Nat} {x y : Operand} {t t' : TypeId}
theorem pv_eqlNilS {e sz by_ : Nat} {a : Option Addr} {n c : Nat} [S : SliceT P t e sz by_] (hx : evl ρ x = .slice a n c) : PureV P ⟨dst, .binOp .eql t x (.const (.slice none 0 0)) t', ty, pos, af, g⟩ ρ (.bool a.isNone) := fun w => by
  have h1 := run_equal_slice_nil (P := P) w t e a n c S.und
  simp only [execOp, eqGuard, hx]
  cases x <;> simp [evl, binOp, h1]
theorem pv_neqNilS {e sz by_ : Nat} {a : Option Addr} {n c : Nat} [S : SliceT P t e sz by_] (hx : evl ρ x = .slice a n c) : PureV P ⟨dst, .binOp .neq t x (.const (.slice none 0 0)) t', ty, pos, af, g⟩ ρ (.bool !a.isNone) := fun w => by
  have h1 := run_neq_slice_nil (P := P) w t e a n c S.und
  simp only [execOp, eqGuard, hx]
  cases x <;> simp [evl, h1]
end
end Go.Sl
