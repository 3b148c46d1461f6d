
/-
  Contract of 'slices.Reverse' over ints.
-/
import Derived.Test.YtegndanecnicaaaGreatMW3
import Derived.Test.YtegndanecnicaaaGreatMSlB
set_option linter.unusedSimpArgs false
set_option linter.unusedVariables false
namespace Go.Proofs.YtegndanecnicaaaGreat
open Go.Sl Go
attribute [local irreducible] vc opsW opsD opV opW PureV ReadV Thn Blk
def revI (xs : List Int) (i : Nat) : List Int := (List.range xs.length).map fun (k : Nat) => if k < i ∨ xs.length - 1 - i < k then xs.getD (xs.length - 1 - k) tInt.dflt else xs.getD k tInt.dflt
theorem revI_len (xs : List Int) (i : Nat) : (revI xs i).length = xs.length := by simp [revI]
theorem revI_at {xs : List Int} {i k : Nat} (h : k < xs.length) : (revI xs i).getD k tInt.dflt = if k < i ∨ xs.length - 1 - i < k then xs.getD (xs.length - 1 - k) tInt.dflt else xs.getD k tInt.dflt := by simp [revI, List.getD, h]
theorem ext_getI {A B : List Int} (hl : A.length = B.length) (h : ∀ i, i < A.length → A.getD i tInt.dflt = B.getD i tInt.dflt) : A = B := by
  apply List.ext_getElem hl
  intro i h1 h2
  have := h i h1
  rwa [getD_at h1, getD_at h2] at this
theorem set_getI {l : List Int} {i j : Nat} {x : Int} (hi : i < l.length) : (l.set i x).getD j tInt.dflt = if j = i then x else l.getD j tInt.dflt := by
  simp only [List.getD, List.getElem?_set]
  by_cases h : i = j
  · subst h; simp [hi]
  · rw [if_neg h, if_neg (Ne.symm h)]
theorem revI_zero (xs : List Int) : revI xs 0 = xs := ext_getI (revI_len xs 0) fun k hk => by
  rw [revI_len] at hk
  rw [revI_at hk, if_neg (by omega)]
theorem revI_end {xs : List Int} {i : Nat} (h : xs.length - 1 ≤ 2 * i) (hi : i ≤ xs.length) : revI xs i = xs.reverse := ext_getI (by rw [revI_len, List.length_reverse]) fun k hk => by
  rw [revI_len] at hk
  rw [revI_at hk]
  have hr : xs.reverse.getD k tInt.dflt = xs.getD (xs.length - 1 - k) tInt.dflt := by
    rw [getD_at (by rw [List.length_reverse]; exact hk), List.getElem_reverse, getD_at (by omega)]
  rw [hr]
  split
  · rfl
  · rename_i hn
    have : k = xs.length - 1 - k := by omega
    rw [← this]
theorem revI_step {xs : List Int} {i : Nat} (h : 2 * i < xs.length - 1) : ((revI xs i).set i ((revI xs i).getD (xs.length - 1 - i) tInt.dflt)).set (xs.length - 1 - i) ((revI xs i).getD i tInt.dflt) = revI xs (i + 1) := ext_getI (by simp [revI]) fun k hk => by
  have hl := revI_len xs i
  rw [List.length_set, List.length_set, hl] at hk
  rw [set_getI (by rw [List.length_set, hl]; omega), set_getI (by rw [hl]; omega), revI_at (show i < xs.length by omega), revI_at (show xs.length - 1 - i < xs.length by omega), revI_at hk, revI_at hk]
  by_cases e1 : k = xs.length - 1 - i
  · subst e1
    rw [if_pos rfl, if_neg (by omega), if_pos (by omega), show xs.length - 1 - (xs.length - 1 - i) = i by omega]
  · rw [if_neg e1]
    by_cases e2 : k = i
    · subst e2
      rw [if_pos rfl, if_neg (by omega), if_pos (by omega)]
    · rw [if_neg e2]
      by_cases e3 : k < i ∨ xs.length - 1 - i < k
      · rw [if_pos e3, if_pos (by omega)]
      · rw [if_neg e3, if_neg (by omega)]
set_option maxRecDepth 8000 in
set_option maxHeartbeats 4000000 in
theorem Reverse_spec {w0 w : World} {Γ : List HP} {v : Value} {xs : List Int} (hn : xs.length ≤ 1048576) (hw : Sat w0 w (OS tInt 3 v xs :: Γ)) :
    Calls Tryz.prog 87 #[v] w fun e w' => e = .returned (.tuple #[]) ∧ Sat w0 w' (OS tInt 3 v xs.reverse :: Γ) := by
  refine calls_of_vc (args := [v]) mixed Tryz.func87 rfl (by kernel_rfl) (Nat.le_of_ble_eq_true rfl) ?_
  rw [← revI_zero xs] at hw
  have h0 := revI_len xs 0
  repeat (first | refine go_run ?_ | (refine go_newP ?_; clear hw; intro p w hw) | (refine go_newWr ?_; clear hw; intro w hw) | (refine go_newS ?_; clear hw; intro s w hw))
  refine vc_loop [2, 3, 7, 8, 9, 10, 11, 12, 13, 14, 15, 16, 17, 18, 19, 20, 21, 22, 23, 24, 25, 26, 27] (G := Nat) (fun i => [(2, .int .i64 i), (3, .int .i64 ((xs.length : Int) - 1 - i))]) (fun i w => i ≤ xs.length ∧ 2 * i ≤ xs.length + 1 ∧ Sat w0 w (OS tInt 3 v (revI xs i) :: Γ)) (fun i => xs.length - i) 0 (fun _ => rfl) ⟨rfl, by show Value.int .i64 (((revI xs 0).length : Int) - 1) = Value.int .i64 ((xs.length : Int) - 1 - ((0 : Nat) : Int)); rw [h0]; congr 1; omega, trivial⟩ ⟨Nat.zero_le _, by omega, hw⟩ ?_
  clear hw h0
  rintro σ i w ⟨hi, hi2, hw⟩
  have hl := revI_len xs i
  repeat (first | refine go_run ?_ | (refine go_newP ?_; clear hw; intro p w hw) | (refine go_newW ?_; clear hw; intro w hw) | (refine go_newS ?_; clear hw; intro s w hw))
  refine go_if (fun h1 => ?_) (fun h1 => ?_)
  · have hj : ((xs.length : Int) - 1 - i).toNat = xs.length - 1 - i := by omega
    have hl2 : ((revI xs i).set i ((revI xs i).getD ((xs.length : Int) - 1 - i).toNat tInt.dflt)).length = xs.length := by rw [List.length_set, hl]
    repeat (first | refine go_run ?_ | (refine go_newP ?_; clear hw; intro p w hw) | (refine go_newWr ?_; clear hw; intro w hw) | (refine go_newS ?_; clear hw; intro s w hw))
    refine vc_plan [.op 0, .op 1, .op 2, .op 3, .op 4, .op 5, .op 6, .op 7, .op 8, .op 9, .op 10, .op 11, .op 12, .op 13, .op 14, .op 15] hw (by kernel_rfl) ?_; clear hw; intro w hw
    repeat (first | refine go_run ?_ | (refine go_newP ?_; clear hw; intro p w hw) | (refine go_newWr ?_; clear hw; intro w hw) | (refine go_newS ?_; clear hw; intro s w hw))
    rw [hj, revI_step (by omega)] at hw
    exact ⟨i + 1, ⟨rfl, by show Value.int .i64 ((xs.length : Int) - 1 - i - 1) = Value.int .i64 ((xs.length : Int) - 1 - ((i + 1 : Nat) : Int)); congr 1; omega, trivial⟩, by repeat (first | exact agree_refl | (apply agree_upd rfl) | (apply agree_mix rfl) | (apply agree_sets rfl)), ⟨by omega, by omega, hw⟩, by omega⟩
  repeat (first | refine go_run ?_ | (refine go_newP ?_; clear hw; intro p w hw) | (refine go_newW ?_; clear hw; intro w hw) | (refine go_newS ?_; clear hw; intro s w hw))
  rw [revI_end (by omega) hi] at hw
  exact res_none' rfl ⟨rfl, hw⟩
end Go.Proofs.YtegndanecnicaaaGreat
