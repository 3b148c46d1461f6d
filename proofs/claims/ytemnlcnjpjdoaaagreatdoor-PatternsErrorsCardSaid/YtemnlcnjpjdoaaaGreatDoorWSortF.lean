
/-
  The kit's contract of 'slices.SortFunc' over lists of numbers, and the contract of 'slices.Compare'.
-/
import Derived.Test.YtemnlcnjpjdoaaaGreatDoorTypes
import Derived.Test.YtemnlcnjpjdoaaaGreatDoorMTA
import Derived.Test.YtemnlcnjpjdoaaaGreatDoorMSlB
import Derived.Shelf.SlSortCmp.Whole1
set_option linter.unusedSimpArgs false
set_option linter.unusedVariables false
namespace Go.Proofs.YtemnlcnjpjdoaaaGreatDoor
open Go.Sl Go Go.Shelf
attribute [local irreducible] vc opsW opsD opV opW PureV ReadV Thn Blk
def renF : Ren := ⟨fun k => bif Nat.beq k 6 then 82 else bif Nat.beq k 14 then 97 else bif Nat.beq k 15 then 98 else bif Nat.beq k 20 then 105 else bif Nat.beq k 21 then 106 else bif Nat.beq k 22 then 107 else bif Nat.beq k 23 then 108 else bif Nat.beq k 24 then 109 else bif Nat.beq k 25 then 110 else bif Nat.beq k 26 then 111 else bif Nat.beq k 27 then 112 else bif Nat.beq k 28 then 113 else bif Nat.beq k 29 then 114 else bif Nat.beq k 46 then 126 else bif Nat.beq k 47 then 127 else bif Nat.beq k 48 then 128 else bif Nat.beq k 49 then 129 else bif Nat.beq k 50 then 130 else bif Nat.beq k 57 then 134 else 0, fun k => bif Nat.beq k 0 then 0 else bif Nat.beq k 3 then 3 else bif Nat.beq k 4 then 4 else bif Nat.beq k 5 then 5 else bif Nat.beq k 9 then 9 else bif Nat.beq k 22 then 29 else bif Nat.beq k 24 then 22 else bif Nat.beq k 25 then 101 else bif Nat.beq k 39 then 167 else bif Nat.beq k 45 then 176 else bif Nat.beq k 46 then 177 else bif Nat.beq k 50 then 126 else bif Nat.beq k 53 then 183 else bif Nat.beq k 55 then 147 else bif Nat.beq k 66 then 190 else bif Nat.beq k 70 then 194 else bif Nat.beq k 76 then 198 else bif Nat.beq k 77 then 199 else 0, fun k => k⟩
set_option maxRecDepth 100000 in
theorem layF : SlLaysF.n6 Tryz.prog renF := { mixed := mixed, f6 := ⟨Tryz.f82.name, by kernel_rfl, Tryz.func82.trans (by kernel_rfl)⟩, f14 := ⟨Tryz.f97.name, by kernel_rfl, Tryz.func97.trans (by kernel_rfl)⟩, f15 := Tryz.func98.trans (by kernel_rfl), f20 := ⟨Tryz.f105.name, by kernel_rfl, Tryz.func105.trans (by kernel_rfl)⟩, f21 := ⟨Tryz.f106.name, by kernel_rfl, Tryz.func106.trans (by kernel_rfl)⟩, f22 := ⟨Tryz.f107.name, by kernel_rfl, Tryz.func107.trans (by kernel_rfl)⟩, f23 := ⟨Tryz.f108.name, by kernel_rfl, Tryz.func108.trans (by kernel_rfl)⟩, f24 := ⟨Tryz.f109.name, by kernel_rfl, Tryz.func109.trans (by kernel_rfl)⟩, f25 := ⟨Tryz.f110.name, by kernel_rfl, Tryz.func110.trans (by kernel_rfl)⟩, f26 := ⟨Tryz.f111.name, by kernel_rfl, Tryz.func111.trans (by kernel_rfl)⟩, f27 := ⟨Tryz.f112.name, by kernel_rfl, Tryz.func112.trans (by kernel_rfl)⟩, f28 := Tryz.func113.trans (by kernel_rfl), f29 := Tryz.func114.trans (by kernel_rfl), f46 := ⟨Tryz.f126.name, by kernel_rfl, Tryz.func126.trans (by kernel_rfl)⟩, f47 := Tryz.func127.trans (by kernel_rfl), f48 := Tryz.func128.trans (by kernel_rfl), f49 := ⟨Tryz.f129.name, by kernel_rfl, Tryz.func129.trans (by kernel_rfl)⟩, f50 := ⟨Tryz.f130.name, by kernel_rfl, Tryz.func130.trans (by kernel_rfl)⟩, f57 := ⟨Tryz.f134.name, by kernel_rfl, Tryz.func134.trans (by kernel_rfl)⟩, t0 := by kernel_rfl, a0 := fun w => by kernel_rfl, z0 := fun w => by kernel_rfl, v0 := fun w => by kernel_rfl, t3 := by kernel_rfl, a3 := fun w => by kernel_rfl, z3 := fun w => by kernel_rfl, v3 := fun w => by kernel_rfl, t4 := by kernel_rfl, a4 := fun w => by kernel_rfl, z4 := fun w => by kernel_rfl, v4 := fun w => by kernel_rfl, t5 := by kernel_rfl, a5 := fun w => by kernel_rfl, z5 := fun w => by kernel_rfl, v5 := fun w => by kernel_rfl, t9 := by kernel_rfl, a9 := fun w => by kernel_rfl, z9 := fun w => by kernel_rfl, v9 := fun w => by kernel_rfl, t22 := by kernel_rfl, a22 := fun w => by kernel_rfl, z22 := fun w => by kernel_rfl, v22 := fun w => by kernel_rfl, a24 := fun w => by kernel_rfl, z24 := fun w => by kernel_rfl, t25 := by kernel_rfl, a25 := fun w => by kernel_rfl, z25 := fun w => by kernel_rfl, v25 := fun w => by kernel_rfl, t39 := by kernel_rfl, a39 := fun w => by kernel_rfl, z39 := fun w => by kernel_rfl, v39 := fun w => by kernel_rfl, t45 := by kernel_rfl, a45 := fun w => by kernel_rfl, z45 := fun w => by kernel_rfl, v45 := fun w => by kernel_rfl, t46 := by kernel_rfl, a46 := fun w => by kernel_rfl, z46 := fun w => by kernel_rfl, v46 := fun w => by kernel_rfl, t50 := by kernel_rfl, a50 := fun w => by kernel_rfl, z50 := fun w => by kernel_rfl, v50 := fun w => by kernel_rfl, t53 := by kernel_rfl, a53 := fun w => by kernel_rfl, z53 := fun w => by kernel_rfl, v53 := fun w => by kernel_rfl, t55 := by kernel_rfl, a55 := fun w => by kernel_rfl, z55 := fun w => by kernel_rfl, v55 := fun w => by kernel_rfl, t66 := by kernel_rfl, a66 := fun w => by kernel_rfl, z66 := fun w => by kernel_rfl, v66 := fun w => by kernel_rfl, t70 := by kernel_rfl, a70 := fun w => by kernel_rfl, z70 := fun w => by kernel_rfl, v70 := fun w => by kernel_rfl, t76 := by kernel_rfl, a76 := fun w => by kernel_rfl, z76 := fun w => by kernel_rfl, v76 := fun w => by kernel_rfl, t77 := by kernel_rfl, a77 := fun w => by kernel_rfl, z77 := fun w => by kernel_rfl, v77 := fun w => by kernel_rfl }

set_option maxRecDepth 8000 in
theorem isNaN_spec {w : World} {x : Int} : Calls Tryz.prog 115 #[.int .i64 x] w fun e w' => e = .returned (.bool false) ∧ w' = w := by
  have hw := Sat.start w
  refine calls_of_vc (args := [.int .i64 x]) mixed Tryz.func115 rfl (by kernel_rfl) (Nat.le_of_ble_eq_true rfl) ?_
  repeat (first | refine go_run ?_ | (refine go_newP ?_; clear hw; intro p w hw) | (refine go_newW ?_; clear hw; intro w hw) | (refine go_newS ?_; clear hw; intro s w hw))
  exact res_one (v := .bool (!decide (x = x))) rfl rfl ⟨by simp, rfl⟩
set_option maxRecDepth 8000 in
theorem cmpI_spec {w : World} {x y : Int} : Calls Tryz.prog 99 #[.int .i64 x, .int .i64 y] w fun e w' => e = .returned (.int .i64 (if x < y then -1 else if y < x then 1 else 0)) ∧ w' = w := by
  have hw := Sat.start w
  refine calls_of_vc (args := [.int .i64 x, .int .i64 y]) mixed Tryz.func99 rfl (by kernel_rfl) (Nat.le_of_ble_eq_true rfl) ?_
  repeat (first | refine go_run ?_ | (refine go_newP ?_; clear hw; intro p w hw) | (refine go_newW ?_; clear hw; intro w hw) | (refine go_newS ?_; clear hw; intro s w hw))
  refine st_call rfl isNaN_spec ?_
  rintro _ w' ⟨rfl, rfl⟩
  refine ⟨_, rfl, ?_⟩
  repeat (first | refine go_run ?_ | (refine go_newP ?_; clear hw; intro p w hw) | (refine go_newW ?_; clear hw; intro w hw) | (refine go_newS ?_; clear hw; intro s w hw))
  refine st_call rfl isNaN_spec ?_
  rintro _ w' ⟨rfl, rfl⟩
  refine ⟨_, rfl, ?_⟩
  repeat (first | refine go_run ?_ | (refine go_newP ?_; clear hw; intro p w hw) | (refine go_newW ?_; clear hw; intro w hw) | (refine go_newS ?_; clear hw; intro s w hw))
  refine go_if (fun h1 => ?_) (fun h1 => ?_)
  · repeat (first | refine go_run ?_ | (refine go_newP ?_; clear hw; intro p w hw) | (refine go_newW ?_; clear hw; intro w hw) | (refine go_newS ?_; clear hw; intro s w hw))
    exact res_one (v := .int .i64 (-1)) rfl rfl ⟨by rw [if_pos h1], rfl⟩
  repeat (first | refine go_run ?_ | (refine go_newP ?_; clear hw; intro p w hw) | (refine go_newW ?_; clear hw; intro w hw) | (refine go_newS ?_; clear hw; intro s w hw))
  refine go_if (fun h2 => ?_) (fun h2 => ?_)
  · repeat (first | refine go_run ?_ | (refine go_newP ?_; clear hw; intro p w hw) | (refine go_newW ?_; clear hw; intro w hw) | (refine go_newS ?_; clear hw; intro s w hw))
    exact res_one (v := .int .i64 1) rfl rfl ⟨by rw [if_neg (by omega), if_pos h2], rfl⟩
  · repeat (first | refine go_run ?_ | (refine go_newP ?_; clear hw; intro p w hw) | (refine go_newW ?_; clear hw; intro w hw) | (refine go_newS ?_; clear hw; intro s w hw))
    exact res_one (v := .int .i64 0) rfl rfl ⟨by rw [if_neg (by omega), if_neg (by omega)], rfl⟩
set_option maxRecDepth 8000 in
set_option maxHeartbeats 2000000 in
theorem Compare_spec {w0 : World} {a b : Value} {xs ys : List Int} (ha : RS tInt w0 a xs) (hb : RS tInt w0 b ys) :
    Calls Tryz.prog 83 #[a, b] w0 fun e w' => e = .returned (.int .i64 (lexC xs ys)) ∧ w' = w0 := by
  have hla := ha.big
  have hlb := hb.big
  have hw := Sat.start w0
  refine calls_of_vc (args := [a, b]) mixed Tryz.func83 rfl (by kernel_rfl) (Nat.le_of_ble_eq_true rfl) ?_
  repeat (first | refine go_run ?_ | (refine go_newP ?_; clear hw; intro p w hw) | (refine go_newW ?_; clear hw; intro w hw) | (refine go_newS ?_; clear hw; intro s w hw))
  refine vc_loop [4, 5, 6, 7, 8, 11, 12, 13, 14, 15, 16, 17, 18, 19, 20, 21, 22, 23, 24, 25, 26, 27, 28, 29, 30] (G := Nat) (fun k => [(11, .int .i64 k)]) (fun k w => w = w0 ∧ k ≤ xs.length ∧ k ≤ ys.length ∧ lexC xs ys = lexC (xs.drop k) (ys.drop k)) (fun k => xs.length - k) 0 (fun _ => rfl) ⟨rfl, trivial⟩ ⟨rfl, Nat.zero_le _, Nat.zero_le _, rfl⟩ ?_
  clear hw
  rintro σ k w ⟨rfl, hk1, hk2, he⟩
  have hw := Sat.start w
  repeat (first | refine go_run ?_ | (refine go_newP ?_; clear hw; intro p w hw) | (refine go_newW ?_; clear hw; intro w hw) | (refine go_newS ?_; clear hw; intro s w hw))
  refine go_if (fun h1 => ?_) (fun h1 => ?_)
  · have hkl : k < xs.length := by omega
    have hdx : xs.drop k = xs.getD k tInt.dflt :: xs.drop (k + 1) := by rw [List.drop_eq_getElem_cons hkl]; simp [List.getD, hkl]
    repeat (first | refine go_run ?_ | (refine go_newP ?_; clear hw; intro p w hw) | (refine go_newW ?_; clear hw; intro w hw) | (refine go_newS ?_; clear hw; intro s w hw))
    refine go_if (fun h2 => ?_) (fun h2 => ?_)
    · have hdy : ys.drop k = [] := List.drop_eq_nil_of_le (by omega)
      repeat (first | refine go_run ?_ | (refine go_newP ?_; clear hw; intro p w hw) | (refine go_newW ?_; clear hw; intro w hw) | (refine go_newS ?_; clear hw; intro s w hw))
      exact res_one (v := .int .i64 1) rfl rfl ⟨by rw [he, hdx, hdy]; rfl, rfl⟩
    have hky : k < ys.length := by omega
    have hdy : ys.drop k = ys.getD k tInt.dflt :: ys.drop (k + 1) := by rw [List.drop_eq_getElem_cons hky]; simp [List.getD, hky]
    rw [hdx, hdy] at he
    simp only [lexC] at he
    repeat (first | refine go_run ?_ | (refine go_newP ?_; clear hw; intro p w hw) | (refine go_newW ?_; clear hw; intro w hw) | (refine go_newS ?_; clear hw; intro s w hw))
    refine st_call rfl cmpI_spec ?_
    rintro _ w' ⟨rfl, rfl⟩
    refine ⟨_, rfl, ?_⟩
    by_cases c1 : xs.getD k tInt.dflt < ys.getD k tInt.dflt
    · rw [if_pos c1] at he ⊢
      repeat (first | refine go_run ?_ | (refine go_newP ?_; clear hw; intro p w hw) | (refine go_newW ?_; clear hw; intro w hw) | (refine go_newS ?_; clear hw; intro s w hw))
      exact res_one (v := .int .i64 (-1)) rfl rfl ⟨by rw [he], rfl⟩
    by_cases c2 : ys.getD k tInt.dflt < xs.getD k tInt.dflt
    · rw [if_neg c1, if_pos c2] at he ⊢
      repeat (first | refine go_run ?_ | (refine go_newP ?_; clear hw; intro p w hw) | (refine go_newW ?_; clear hw; intro w hw) | (refine go_newS ?_; clear hw; intro s w hw))
      exact res_one (v := .int .i64 1) rfl rfl ⟨by rw [he], rfl⟩
    rw [if_neg c1, if_neg c2] at he ⊢
    repeat (first | refine go_run ?_ | (refine go_newP ?_; clear hw; intro p w hw) | (refine go_newW ?_; clear hw; intro w hw) | (refine go_newS ?_; clear hw; intro s w hw))
    exact ⟨k + 1, ⟨rfl, trivial⟩, by repeat (first | exact agree_refl | (apply agree_upd rfl) | (apply agree_mix rfl) | (apply agree_sets rfl)), ⟨rfl, by omega, by omega, he⟩, by omega⟩
  · have hdx : xs.drop k = [] := List.drop_eq_nil_of_le (by omega)
    repeat (first | refine go_run ?_ | (refine go_newP ?_; clear hw; intro p w hw) | (refine go_newW ?_; clear hw; intro w hw) | (refine go_newS ?_; clear hw; intro s w hw))
    refine go_if (fun h3 => ?_) (fun h3 => ?_)
    · have hky : k < ys.length := by omega
      have hdy : ys.drop k = ys.getD k tInt.dflt :: ys.drop (k + 1) := by rw [List.drop_eq_getElem_cons hky]; simp [List.getD, hky]
      repeat (first | refine go_run ?_ | (refine go_newP ?_; clear hw; intro p w hw) | (refine go_newW ?_; clear hw; intro w hw) | (refine go_newS ?_; clear hw; intro s w hw))
      exact res_one (v := .int .i64 (-1)) rfl rfl ⟨by rw [he, hdx, hdy]; rfl, rfl⟩
    · have hdy : ys.drop k = [] := List.drop_eq_nil_of_le (by omega)
      repeat (first | refine go_run ?_ | (refine go_newP ?_; clear hw; intro p w hw) | (refine go_newW ?_; clear hw; intro w hw) | (refine go_newS ?_; clear hw; intro s w hw))
      exact res_one (v := .int .i64 0) rfl rfl ⟨by rw [he, hdx, hdy]; rfl, rfl⟩
end Go.Proofs.YtemnlcnjpjdoaaaGreatDoor
