
/-
  Contracts of the helpers 'States' and 'Edges'.
-/
import Derived.Test.YtoddgmmkpiojlaaMW2
set_option linter.unusedSimpArgs false
set_option linter.unusedVariables false
namespace Go.Proofs.Ytoddgmmkpiojlaa
open Go.Sl
attribute [local irreducible] vc opsW opsD opV opW PureV ReadV Thn Blk

def statesI (l : List (List Int)) (k : Int) (i : Nat) : List (List Int) := statesS (l.take i) k
def rowsX (s : List Int) (x : Nat) : List (List Int) := (List.range x).map fun (x : Nat) => s ++ [(x : Int)]
theorem statesI_succ {l : List (List Int)} {k : Int} {i : Nat} (hi : i < l.length) : statesI l k (i + 1) = statesI l k i ++ rowsX (l.getD i []) k.toNat := by
  unfold statesI statesS rowsX
  rw [take_snoc [] hi]; simp
theorem statesI_end (l : List (List Int)) (k : Int) : statesI l k l.length = statesS l k := by unfold statesI; rw [List.take_length]
theorem rowsX_succ (s : List Int) (x : Nat) : rowsX s (x + 1) = rowsX s x ++ [s ++ [(x : Int)]] := by simp [rowsX, List.range_succ]
theorem statesL_row {vars : List Int} {i : Nat} (hi : i < (statesL vars).length) : ((statesL vars).getD i []).length = vars.length := (mem_statesL.1 (mem_getD [] hi)).1
theorem mul_le_of {n k i : Nat} {p : Int} (h : i < n) (hp : ((n : Int) * k) ≤ p) : (i : Int) * k + k ≤ p := by
  have h1 : (i + 1) * k ≤ n * k := Nat.mul_le_mul_right k h
  rw [Nat.succ_mul] at h1
  have h2 : ((i * k + k : Nat) : Int) ≤ ((n * k : Nat) : Int) := by exact_mod_cast h1
  simp only [Int.natCast_add, Int.natCast_mul] at h2
  omega

set_option maxRecDepth 8000 in
set_option maxHeartbeats 4000000 in
theorem States_spec {w0 : World} {a : Value} {vars : List Int} (ha : RS tInt w0 a vars) (hp : ∀ x ∈ vars, 1 ≤ x) (hn : vars.length ≤ 64) (hB : prodL vars ≤ 65536) :
    Calls Try.prog 10 #[a] w0 fun e w' => ∃ s ss, e = .returned s ∧ Sat w0 w' [RowsAt tInt 3 ss (statesL vars), OS tVal 22 s ss] := by
  have hla := ha.big
  have hw := Sat.start w0
  refine calls_of_vc (args := [a]) mixed Try.func10 rfl (by kernel_rfl) (Nat.le_of_ble_eq_true rfl) ?_
  repeat (first | refine go_run ?_ | (refine go_newP ?_; clear hw; intro p w hw) | (refine go_newW ?_; clear hw; intro w hw) | (refine go_newS ?_; clear hw; intro s w hw))
  refine st_buildSlice0 tInt hw ?_
  clear hw
  intro s w hw
  repeat (first | refine go_run ?_ | (refine go_newP ?_; clear hw; intro p w hw) | (refine go_newW ?_; clear hw; intro w hw) | (refine go_newS ?_; clear hw; intro s w hw))
  replace hw := (hw.swap.rows0 (T := tInt) (e := 3)).swap.rowPush
  refine vc_loop3 [3, 5, 6, 8, 9, 14, 15, 16, 17, 18, 19, 20, 21, 22, 23, 24, 25, 26, 27, 28, 29, 30, 31, 32, 33, 34, 35, 36, 37, 38, 39, 40] (G := Nat) (H := Value) (I := List Value) (fun k s _ => [(14, .int .i64 k), (3, s)]) (fun k s ss w => k ≤ vars.length ∧ Sat w0 w [RowsAt tInt 3 ss (statesL (vars.take k)), OS tVal 22 s ss]) (fun k _ _ => vars.length - k) 0 _ _ (fun _ _ _ => rfl) ⟨rfl, rfl, trivial⟩ ⟨Nat.zero_le _, hw⟩ ?_
  clear hw
  rintro σ k s ss w ⟨hk, hw⟩
  repeat (first | refine go_run ?_ | (refine go_newP ?_; clear hw; intro p w hw) | (refine go_newW ?_; clear hw; intro w hw) | (refine go_newS ?_; clear hw; intro s w hw))
  refine go_if (fun h1 => ?_) (fun h1 => ?_)
  · have hkl : k < vars.length := by omega
    have hpk : ∀ x ∈ vars.take k, 1 ≤ x := fun x hx => hp x (List.mem_of_mem_take hx)
    have hvk := hp _ (mem_getD tInt.dflt hkl)
    have hS : statesL (vars.take (k + 1)) = statesS (statesL (vars.take k)) (vars.getD k tInt.dflt) := by rw [take_snoc tInt.dflt hkl, statesL_snoc]
    have hN : ((statesL (vars.take k)).length : Int) * (vars.getD k tInt.dflt).toNat ≤ 65536 := by
      have h2 := prodL_take hp (k + 1)
      rw [take_snoc tInt.dflt hkl, prodL_snoc] at h2
      have h3 := prodL_pos hpk
      rw [statesL_len hpk, Int.toNat_of_nonneg (by omega), Int.toNat_of_nonneg (by omega)]
      omega
    have hN2 : ((statesL (vars.take k)).length : Int) ≤ 65536 := by
      have h2 := prodL_take hp k
      rw [statesL_len hpk]
      omega
    have hV : vars.getD k tInt.dflt ≤ 65536 := by
      have h2 := prodL_take hp (k + 1)
      rw [take_snoc tInt.dflt hkl, prodL_snoc] at h2
      have h3 := prodL_pos hpk
      have h4 : 1 * vars.getD k tInt.dflt ≤ prodL (vars.take k) * vars.getD k tInt.dflt := Int.mul_le_mul_of_nonneg_right h3 (by omega)
      omega
    obtain ⟨V, hVe⟩ : ∃ V, V = vars.getD k tInt.dflt := ⟨_, rfl⟩
    obtain ⟨L, hLe⟩ : ∃ L, L = statesL (vars.take k) := ⟨_, rfl⟩
    have hrow : ∀ i, i < L.length → (L.getD i []).length ≤ 64 := fun i hi => by
      subst hLe
      rw [statesL_row hi, List.length_take]; omega
    have hss : ss.length = (statesL (vars.take k)).length := hw.rowsLen
    rw [← hLe] at hS hN hN2 hw hss
    rw [← hVe] at hS hN hV hvk
    repeat (first | refine go_run ?_ | (refine go_newP ?_; clear hw; intro p w hw) | (refine go_newW ?_; clear hw; intro w hw) | (refine go_newS ?_; clear hw; intro s w hw))
    have hb := hw
    have hout : RS tVal w s ss := rsO hb
    have ha1 := ha.at hw
    obtain ⟨w1, hw1⟩ : ∃ w1, w1 = w := ⟨_, rfl⟩
    rw [← hw1] at hb hout ha1
    replace hw := Sat.start w
    rw [← hw1] at hw
    rw [← hVe]
    refine vc_loop3 [6, 8, 9, 20, 21, 22, 23, 24, 25, 26, 27, 28, 29, 30, 31, 32, 33, 34, 35, 36, 37, 38] (G := Nat) (H := Value) (I := List Value) (fun i s _ => [(20, .int .i64 i), (6, s)]) (fun i s' ss' w => i ≤ L.length ∧ ss'.length = i * V.toNat ∧ Sat w1 w [RowsAt tInt 3 ss' (statesI L V i), OS tVal 22 s' ss']) (fun i _ _ => L.length - i) 0 _ [] (fun _ _ _ => rfl) ⟨rfl, rfl, trivial⟩ ⟨Nat.zero_le _, (by simp), hw1 ▸ hw.nil.rows0⟩ ?_
    clear hw hw1
    rintro σ1 i s' ss' w ⟨hi, hsl', hw⟩
    repeat (first | refine go_run ?_ | (refine go_newP ?_; clear hw; intro p w hw) | (refine go_newW ?_; clear hw; intro w hw) | (refine go_newS ?_; clear hw; intro s w hw))
    refine go_if (fun h2 => ?_) (fun h2 => ?_)
    · have hil : i < L.length := by omega
      have hr := hb.row hil
      have hrl := hrow i hil
      have hmul := mul_le_of hil hN
      have hsl'' : (ss'.length : Int) = (i : Int) * V.toNat := by rw [hsl']; simp
      repeat (first | refine go_run ?_ | (refine go_newP ?_; clear hw; intro p w hw) | (refine go_newW ?_; clear hw; intro w hw) | (refine go_newS ?_; clear hw; intro s w hw))
      refine vc_loop3 [6, 9, 25, 26, 27, 28, 29, 30, 31, 32, 33, 34, 35, 36, 37] (G := Nat) (H := Value) (I := List Value) (fun x s _ => [(25, .int .i64 x), (6, s)]) (fun x s' ss' w => x ≤ V.toNat ∧ ss'.length = i * V.toNat + x ∧ Sat w1 w [RowsAt tInt 3 ss' (statesI L V i ++ rowsX (L.getD i []) x), OS tVal 22 s' ss']) (fun x _ _ => V.toNat - x) 0 s' ss' (fun _ _ _ => rfl) ⟨rfl, rfl, trivial⟩ ⟨Nat.zero_le _, hsl', by simpa [rowsX] using hw⟩ ?_
      clear hw hsl' hsl''
      rintro σ2 x s2 ss2 w ⟨hx, hs2, hw⟩
      have hs3 : (ss2.length : Int) = (i : Int) * V.toNat + x := by rw [hs2]; simp
      repeat (first | refine go_run ?_ | (refine go_newP ?_; clear hw; intro p w hw) | (refine go_newW ?_; clear hw; intro w hw) | (refine go_newS ?_; clear hw; intro s w hw))
      refine go_if (fun h3 => ?_) (fun h3 => ?_)
      · repeat (first | refine go_run ?_ | (refine go_newP ?_; clear hw; intro p w hw) | (refine go_newW ?_; clear hw; intro w hw) | (refine go_newS ?_; clear hw; intro s w hw))
        refine st_buildSlice0 tInt hw ?_
        clear hw
        intro e1 w hw
        repeat (first | refine go_run ?_ | (refine go_newP ?_; clear hw; intro p w hw) | (refine go_newW ?_; clear hw; intro w hw) | (refine go_newS ?_; clear hw; intro s w hw))
        replace hw := hw.tail.tail.rowPush
        rw [List.nil_append, List.append_assoc, ← rowsX_succ] at hw
        exact ⟨x + 1, _, _, ⟨rfl, rfl, trivial⟩, by repeat (first | exact agree_refl | (apply agree_upd rfl) | (apply agree_mix rfl) | (apply agree_sets rfl)), ⟨by omega, by simp; omega, hw⟩, by omega⟩
      · have hxe : x = V.toNat := by omega
        subst hxe
        rw [← statesI_succ hil] at hw
        repeat (first | refine go_run ?_ | (refine go_newP ?_; clear hw; intro p w hw) | (refine go_newW ?_; clear hw; intro w hw) | (refine go_newS ?_; clear hw; intro s w hw))
        exact ⟨i + 1, _, ss2, ⟨rfl, rfl, trivial⟩, by repeat (first | exact agree_refl | (apply agree_upd rfl) | (apply agree_mix rfl) | (apply agree_sets rfl)), ⟨by omega, by rw [Nat.succ_mul]; omega, hw⟩, by omega⟩
    · have hie : i = L.length := by omega
      subst hie
      rw [statesI_end, ← hS] at hw
      repeat (first | refine go_run ?_ | (refine go_newP ?_; clear hw; intro p w hw) | (refine go_newW ?_; clear hw; intro w hw) | (refine go_newS ?_; clear hw; intro s w hw))
      exact ⟨k + 1, _, ss', ⟨rfl, rfl, trivial⟩, by repeat (first | exact agree_refl | (apply agree_upd rfl) | (apply agree_mix rfl) | (apply agree_sets rfl)), ⟨by omega, (hb.call hw).comm.tail.tail⟩, by omega⟩
  · rw [List.take_of_length_le (by omega)] at hw
    repeat (first | refine go_run ?_ | (refine go_newP ?_; clear hw; intro p w hw) | (refine go_newW ?_; clear hw; intro w hw) | (refine go_newS ?_; clear hw; intro s w hw))
    exact res_one (v := s) rfl rfl ⟨s, ss, rfl, hw⟩

end Go.Proofs.Ytoddgmmkpiojlaa
