
/-
  The kit's contracts of 'slices.Sort' and 'slices.Compact' over ints, at this program.
-/
import Derived.Test.YtoddgmmkpiojlaaWTState
import Derived.Test.YtoddgmmkpiojlaaMSlB
import Derived.Shelf.Sort.Plain
import Derived.Shelf.Slices.In.SortNone
import Derived.Shelf.Slices.CompactI
set_option linter.unusedSimpArgs false
set_option linter.unusedVariables false
namespace Go.Proofs.Ytoddgmmkpiojlaa
open Go.Sl Go Go.Shelf

def renS : Ren := ⟨fun k => bif Nat.beq k 125 then 89 else bif Nat.beq k 128 then 99 else bif Nat.beq k 129 then 100 else bif Nat.beq k 189 then 87 else bif Nat.beq k 215 then 106 else bif Nat.beq k 216 then 96 else bif Nat.beq k 257 then 88 else bif Nat.beq k 294 then 90 else bif Nat.beq k 295 then 91 else bif Nat.beq k 296 then 92 else bif Nat.beq k 297 then 93 else bif Nat.beq k 298 then 94 else bif Nat.beq k 299 then 95 else bif Nat.beq k 300 then 97 else bif Nat.beq k 301 then 98 else bif Nat.beq k 328 then 101 else bif Nat.beq k 329 then 102 else bif Nat.beq k 330 then 103 else bif Nat.beq k 331 then 104 else bif Nat.beq k 332 then 105 else bif Nat.beq k 343 then 107 else 0, fun k => bif Nat.beq k 0 then 0 else bif Nat.beq k 3 then 3 else bif Nat.beq k 4 then 4 else bif Nat.beq k 5 then 5 else bif Nat.beq k 9 then 9 else bif Nat.beq k 28 then 22 else bif Nat.beq k 46 then 160 else bif Nat.beq k 51 then 170 else bif Nat.beq k 53 then 172 else bif Nat.beq k 131 then 116 else bif Nat.beq k 182 then 162 else bif Nat.beq k 183 then 163 else bif Nat.beq k 218 then 173 else bif Nat.beq k 222 then 177 else bif Nat.beq k 228 then 179 else bif Nat.beq k 229 then 180 else 0, fun k => k⟩
set_option maxRecDepth 100000 in
theorem laySort : Lays.n189 Try.prog renS := { mixed := mixed, f125 := Try.func89.trans (by kernel_rfl), f128 := Try.func99.trans (by kernel_rfl), f129 := Try.func100.trans (by kernel_rfl), f189 := Try.func87.trans (by kernel_rfl), f215 := Try.func106.trans (by kernel_rfl), f216 := Try.func96.trans (by kernel_rfl), f257 := Try.func88.trans (by kernel_rfl), f294 := Try.func90.trans (by kernel_rfl), f295 := Try.func91.trans (by kernel_rfl), f296 := Try.func92.trans (by kernel_rfl), f297 := Try.func93.trans (by kernel_rfl), f298 := Try.func94.trans (by kernel_rfl), f299 := Try.func95.trans (by kernel_rfl), f300 := Try.func97.trans (by kernel_rfl), f301 := Try.func98.trans (by kernel_rfl), f328 := Try.func101.trans (by kernel_rfl), f329 := Try.func102.trans (by kernel_rfl), f330 := Try.func103.trans (by kernel_rfl), f331 := Try.func104.trans (by kernel_rfl), f332 := Try.func105.trans (by kernel_rfl), f343 := Try.func107.trans (by kernel_rfl), t0 := by kernel_rfl, a0 := fun w => by kernel_rfl, z0 := fun w => by kernel_rfl, v0 := fun w => by kernel_rfl, t3 := by kernel_rfl, a3 := fun w => by kernel_rfl, z3 := fun w => by kernel_rfl, v3 := fun w => by kernel_rfl, t4 := by kernel_rfl, a4 := fun w => by kernel_rfl, z4 := fun w => by kernel_rfl, v4 := fun w => by kernel_rfl, t5 := by kernel_rfl, a5 := fun w => by kernel_rfl, z5 := fun w => by kernel_rfl, v5 := fun w => by kernel_rfl, t9 := by kernel_rfl, a9 := fun w => by kernel_rfl, z9 := fun w => by kernel_rfl, v9 := fun w => by kernel_rfl, t28 := by kernel_rfl, a28 := fun w => by kernel_rfl, z28 := fun w => by kernel_rfl, v28 := fun w => by kernel_rfl, t46 := by kernel_rfl, a46 := fun w => by kernel_rfl, z46 := fun w => by kernel_rfl, v46 := fun w => by kernel_rfl, t51 := by kernel_rfl, a51 := fun w => by kernel_rfl, z51 := fun w => by kernel_rfl, v51 := fun w => by kernel_rfl, t53 := by kernel_rfl, a53 := fun w => by kernel_rfl, z53 := fun w => by kernel_rfl, v53 := fun w => by kernel_rfl, t131 := by kernel_rfl, a131 := fun w => by kernel_rfl, z131 := fun w => by kernel_rfl, v131 := fun w => by kernel_rfl, t182 := by kernel_rfl, a182 := fun w => by kernel_rfl, z182 := fun w => by kernel_rfl, v182 := fun w => by kernel_rfl, t183 := by kernel_rfl, a183 := fun w => by kernel_rfl, z183 := fun w => by kernel_rfl, v183 := fun w => by kernel_rfl, t218 := by kernel_rfl, a218 := fun w => by kernel_rfl, z218 := fun w => by kernel_rfl, v218 := fun w => by kernel_rfl, t222 := by kernel_rfl, a222 := fun w => by kernel_rfl, z222 := fun w => by kernel_rfl, v222 := fun w => by kernel_rfl, t228 := by kernel_rfl, a228 := fun w => by kernel_rfl, z228 := fun w => by kernel_rfl, v228 := fun w => by kernel_rfl, t229 := by kernel_rfl, a229 := fun w => by kernel_rfl, z229 := fun w => by kernel_rfl, v229 := fun w => by kernel_rfl }
def sortL (xs : List Int) : List Int := xs.mergeSort fun x y => decide (x ≤ y)
theorem sortL_len (xs : List Int) : (sortL xs).length = xs.length := List.length_mergeSort _
theorem sortL_pw (xs : List Int) : (sortL xs).Pairwise (· ≤ ·) := by
  have := List.pairwise_mergeSort (le := fun x y : Int => decide (x ≤ y)) (fun a b c h k => by simp at h k ⊢; omega) (fun a b => by simp; omega) xs
  exact this.imp fun h => by simpa using h
theorem Sort_spec {w0 w : World} {Γ : List HP} {s : Value} {xs : List Int} (hw : Sat w0 w (OS tInt 3 s xs :: Γ)) (hn : xs.length < 4611686018427387904) :
    Calls Try.prog 87 #[s] w fun e w' => e = .returned (.tuple #[]) ∧ Sat w0 w' (OS tInt 3 s (sortL xs) :: Γ) := by
  rcases hw.intsAt with ⟨rfl, rfl⟩ | ⟨b, off, cap, rfl, hc, hb, hH, hput⟩
  · refine Calls.mono (Any.slices_Sort_int_none laySort none 0 w) ?_
    rintro e w' ⟨rfl, rfl⟩
    exact ⟨rfl, (by have e : sortL [] = [] := List.eq_nil_of_length_eq_zero (sortL_len []); rw [e]; exact hw)⟩
  · refine Calls.mono (Any.slices_Sort_int laySort b off cap xs w hH hb hn) ?_
    rintro e w' ⟨rfl, n, os, rfl⟩
    exact ⟨rfl, (hput (sortL xs) (sortL_len xs) n).grow os⟩
end Go.Proofs.Ytoddgmmkpiojlaa
