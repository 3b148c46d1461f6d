/-
  Several texts as one: WSort, WSlices, WClone, WTRank.
-/
import Derived.Test.YtegndanecnicaaaGreatMW2
import Derived.Test.YtegndanecnicaaaGreatMSlB
import Derived.Shelf.Sort.Plain
import Derived.Shelf.Slices.In.SortNone
import Derived.Shelf.Slices.CompactI
set_option linter.unusedSimpArgs false
set_option linter.unusedVariables false

/-
  The kit's contracts of 'slices.Sort' and 'slices.Compact' over ints, at this program.
-/
namespace Go.Proofs.YtegndanecnicaaaGreat
open Go.Sl Go Go.Shelf

def renS : Ren := ⟨fun k => bif Nat.beq k 125 then 113 else bif Nat.beq k 128 then 123 else bif Nat.beq k 129 then 124 else bif Nat.beq k 189 then 111 else bif Nat.beq k 215 then 130 else bif Nat.beq k 216 then 120 else bif Nat.beq k 257 then 112 else bif Nat.beq k 294 then 114 else bif Nat.beq k 295 then 115 else bif Nat.beq k 296 then 116 else bif Nat.beq k 297 then 117 else bif Nat.beq k 298 then 118 else bif Nat.beq k 299 then 119 else bif Nat.beq k 300 then 121 else bif Nat.beq k 301 then 122 else bif Nat.beq k 328 then 125 else bif Nat.beq k 329 then 126 else bif Nat.beq k 330 then 127 else bif Nat.beq k 331 then 128 else bif Nat.beq k 332 then 129 else bif Nat.beq k 343 then 131 else 0, fun k => bif Nat.beq k 0 then 0 else bif Nat.beq k 3 then 3 else bif Nat.beq k 4 then 4 else bif Nat.beq k 5 then 5 else bif Nat.beq k 9 then 9 else bif Nat.beq k 28 then 22 else bif Nat.beq k 46 then 210 else bif Nat.beq k 51 then 221 else bif Nat.beq k 53 then 198 else bif Nat.beq k 131 then 102 else bif Nat.beq k 182 then 214 else bif Nat.beq k 183 then 215 else bif Nat.beq k 218 then 223 else bif Nat.beq k 222 then 226 else bif Nat.beq k 228 then 228 else bif Nat.beq k 229 then 229 else 0, fun k => k⟩
set_option maxRecDepth 100000 in
theorem laySort : Lays.n189 Tryz.prog renS := { mixed := mixed, f125 := Tryz.func113.trans (by kernel_rfl), f128 := Tryz.func123.trans (by kernel_rfl), f129 := Tryz.func124.trans (by kernel_rfl), f189 := Tryz.func111.trans (by kernel_rfl), f215 := Tryz.func130.trans (by kernel_rfl), f216 := Tryz.func120.trans (by kernel_rfl), f257 := Tryz.func112.trans (by kernel_rfl), f294 := Tryz.func114.trans (by kernel_rfl), f295 := Tryz.func115.trans (by kernel_rfl), f296 := Tryz.func116.trans (by kernel_rfl), f297 := Tryz.func117.trans (by kernel_rfl), f298 := Tryz.func118.trans (by kernel_rfl), f299 := Tryz.func119.trans (by kernel_rfl), f300 := Tryz.func121.trans (by kernel_rfl), f301 := Tryz.func122.trans (by kernel_rfl), f328 := Tryz.func125.trans (by kernel_rfl), f329 := Tryz.func126.trans (by kernel_rfl), f330 := Tryz.func127.trans (by kernel_rfl), f331 := Tryz.func128.trans (by kernel_rfl), f332 := Tryz.func129.trans (by kernel_rfl), f343 := Tryz.func131.trans (by kernel_rfl), t0 := by kernel_rfl, a0 := fun w => by kernel_rfl, z0 := fun w => by kernel_rfl, v0 := fun w => by kernel_rfl, t3 := by kernel_rfl, a3 := fun w => by kernel_rfl, z3 := fun w => by kernel_rfl, v3 := fun w => by kernel_rfl, t4 := by kernel_rfl, a4 := fun w => by kernel_rfl, z4 := fun w => by kernel_rfl, v4 := fun w => by kernel_rfl, t5 := by kernel_rfl, a5 := fun w => by kernel_rfl, z5 := fun w => by kernel_rfl, v5 := fun w => by kernel_rfl, t9 := by kernel_rfl, a9 := fun w => by kernel_rfl, z9 := fun w => by kernel_rfl, v9 := fun w => by kernel_rfl, t28 := by kernel_rfl, a28 := fun w => by kernel_rfl, z28 := fun w => by kernel_rfl, v28 := fun w => by kernel_rfl, t46 := by kernel_rfl, a46 := fun w => by kernel_rfl, z46 := fun w => by kernel_rfl, v46 := fun w => by kernel_rfl, t51 := by kernel_rfl, a51 := fun w => by kernel_rfl, z51 := fun w => by kernel_rfl, v51 := fun w => by kernel_rfl, t53 := by kernel_rfl, a53 := fun w => by kernel_rfl, z53 := fun w => by kernel_rfl, v53 := fun w => by kernel_rfl, t131 := by kernel_rfl, a131 := fun w => by kernel_rfl, z131 := fun w => by kernel_rfl, v131 := fun w => by kernel_rfl, t182 := by kernel_rfl, a182 := fun w => by kernel_rfl, z182 := fun w => by kernel_rfl, v182 := fun w => by kernel_rfl, t183 := by kernel_rfl, a183 := fun w => by kernel_rfl, z183 := fun w => by kernel_rfl, v183 := fun w => by kernel_rfl, t218 := by kernel_rfl, a218 := fun w => by kernel_rfl, z218 := fun w => by kernel_rfl, v218 := fun w => by kernel_rfl, t222 := by kernel_rfl, a222 := fun w => by kernel_rfl, z222 := fun w => by kernel_rfl, v222 := fun w => by kernel_rfl, t228 := by kernel_rfl, a228 := fun w => by kernel_rfl, z228 := fun w => by kernel_rfl, v228 := fun w => by kernel_rfl, t229 := by kernel_rfl, a229 := fun w => by kernel_rfl, z229 := fun w => by kernel_rfl, v229 := fun w => by kernel_rfl }
def sortL (xs : List Int) : List Int := xs.mergeSort fun x y => decide (x ≤ y)
theorem sortL_len (xs : List Int) : (sortL xs).length = xs.length := List.length_mergeSort _
theorem sortL_pw (xs : List Int) : (sortL xs).Pairwise (· ≤ ·) := by
  have := List.pairwise_mergeSort (le := fun x y : Int => decide (x ≤ y)) (fun a b c h k => by simp at h k ⊢; omega) (fun a b => by simp; omega) xs
  exact this.imp fun h => by simpa using h
theorem Sort_spec {w0 w : World} {Γ : List HP} {s : Value} {xs : List Int} (hw : Sat w0 w (OS tInt 3 s xs :: Γ)) (hn : xs.length < 4611686018427387904) :
    Calls Tryz.prog 111 #[s] w fun e w' => e = .returned (.tuple #[]) ∧ Sat w0 w' (OS tInt 3 s (sortL xs) :: Γ) := by
  rcases hw.intsAt with ⟨rfl, rfl⟩ | ⟨b, off, cap, rfl, hc, hb, hH, hput⟩
  · refine Calls.mono (Any.slices_Sort_int_none laySort none 0 w) ?_
    rintro e w' ⟨rfl, rfl⟩
    exact ⟨rfl, (by have e : sortL [] = [] := List.eq_nil_of_length_eq_zero (sortL_len []); rw [e]; exact hw)⟩
  · refine Calls.mono (Any.slices_Sort_int laySort b off cap xs w hH hb hn) ?_
    rintro e w' ⟨rfl, n, os, rfl⟩
    exact ⟨rfl, (hput (sortL xs) (sortL_len xs) n).grow os⟩
end Go.Proofs.YtegndanecnicaaaGreat

/-
  Contracts of 'slices.Index', 'Contains' and 'Clone' over ints.
-/
namespace Go.Proofs.YtegndanecnicaaaGreat
open Go.Sl Go
attribute [local irreducible] vc opsW opsD opV opW PureV ReadV Thn Blk

set_option maxRecDepth 8000 in
theorem Index_spec {w0 : World} {a : Value} {xs : List Int} {v : Int} (ha : RS tInt w0 a xs) :
    Calls Tryz.prog 104 #[a, .int .i64 v] w0 fun e w' => (∃ r : Int, e = .returned (.int .i64 r) ∧ (0 ≤ r ↔ v ∈ xs)) ∧ Sat w0 w' [] := by
  have hla := ha.big
  have hw := Sat.start w0
  refine calls_of_vc (args := [a, .int .i64 v]) mixed Tryz.func104 rfl (by kernel_rfl) (Nat.le_of_ble_eq_true rfl) ?_
  repeat (first | refine go_run ?_ | (refine go_newP ?_; clear hw; intro p w hw) | (refine go_newW ?_; clear hw; intro w hw) | (refine go_newS ?_; clear hw; intro s w hw))
  refine vc_loop [4, 5, 8, 9, 10, 11, 12, 13, 14, 15, 16, 17, 18] (G := Nat) (fun k => [(8, .int .i64 k)]) (fun k w => k ≤ xs.length ∧ (∀ i, i < k → xs.getD i tInt.dflt ≠ v) ∧ Sat w0 w []) (fun k => xs.length - k) 0 (fun _ => rfl) ⟨rfl, trivial⟩ ⟨Nat.zero_le _, fun i hi => absurd hi (Nat.not_lt_zero _), hw⟩ ?_
  clear hw
  rintro σ k w ⟨hk, hpre, hw⟩
  repeat (first | refine go_run ?_ | (refine go_newP ?_; clear hw; intro p w hw) | (refine go_newW ?_; clear hw; intro w hw) | (refine go_newS ?_; clear hw; intro s w hw))
  refine go_if (fun h1 => ?_) (fun h1 => ?_)
  · have hkl : k < xs.length := by omega
    repeat (first | refine go_run ?_ | (refine go_newP ?_; clear hw; intro p w hw) | (refine go_newW ?_; clear hw; intro w hw) | (refine go_newS ?_; clear hw; intro s w hw))
    refine go_if (fun h2 => ?_) (fun h2 => ?_)
    · repeat (first | refine go_run ?_ | (refine go_newP ?_; clear hw; intro p w hw) | (refine go_newW ?_; clear hw; intro w hw) | (refine go_newS ?_; clear hw; intro s w hw))
      refine res_one (v := .int .i64 k) rfl rfl ⟨⟨k, rfl, ⟨fun _ => ?_, fun _ => by omega⟩⟩, hw⟩
      rw [h2]; exact mem_getD _ hkl
    · repeat (first | refine go_run ?_ | (refine go_newP ?_; clear hw; intro p w hw) | (refine go_newW ?_; clear hw; intro w hw) | (refine go_newS ?_; clear hw; intro s w hw))
      refine ⟨k + 1, ⟨rfl, trivial⟩, by repeat (first | exact agree_refl | (apply agree_upd rfl) | (apply agree_mix rfl) | (apply agree_sets rfl)), ⟨by omega, fun i hi => ?_, hw⟩, by omega⟩
      by_cases h : i = k
      · subst h; exact fun h => h2 h.symm
      · exact hpre i (by omega)
  · repeat (first | refine go_run ?_ | (refine go_newP ?_; clear hw; intro p w hw) | (refine go_newW ?_; clear hw; intro w hw) | (refine go_newS ?_; clear hw; intro s w hw))
    refine res_one (v := .int .i64 (-1)) rfl rfl ⟨⟨-1, rfl, ⟨fun h => by omega, fun h => ?_⟩⟩, hw⟩
    obtain ⟨i, hi, he⟩ := List.mem_iff_getElem.1 h
    exact absurd (by rw [getD_at hi]; exact he) (hpre i (by omega))

set_option maxRecDepth 8000 in
theorem Contains_spec {w0 : World} {a : Value} {xs : List Int} {v : Int} (ha : RS tInt w0 a xs) :
    Calls Tryz.prog 90 #[a, .int .i64 v] w0 fun e w' => e = .returned (.bool (decide (v ∈ xs))) ∧ Sat w0 w' [] := by
  have hw := Sat.start w0
  refine calls_of_vc (args := [a, .int .i64 v]) mixed Tryz.func90 rfl (by kernel_rfl) (Nat.le_of_ble_eq_true rfl) ?_
  repeat (first | refine go_run ?_ | (refine go_newP ?_; clear hw; intro p w hw) | (refine go_newW ?_; clear hw; intro w hw) | (refine go_newS ?_; clear hw; intro s w hw))
  refine st_call rfl (Index_spec ha) ?_
  rintro _ w' ⟨⟨r, rfl, hr⟩, hk'⟩
  replace hw := hw.call0 hk'
  clear hk'
  refine ⟨_, rfl, ?_⟩
  repeat (first | refine go_run ?_ | (refine go_newP ?_; clear hw; intro p w hw) | (refine go_newW ?_; clear hw; intro w hw) | (refine go_newS ?_; clear hw; intro s w hw))
  refine res_one (v := .bool (decide (0 ≤ r))) rfl rfl ⟨?_, hw⟩
  rw [decide_eq_decide.2 hr]

set_option maxRecDepth 8000 in
theorem Clone_spec {w0 : World} {a : Value} {xs : List Int} (ha : RS tInt w0 a xs) (hn : xs.length ≤ 1099511627776) :
    Calls Tryz.prog 51 #[a] w0 fun e w' => ∃ s, e = .returned s ∧ Sat w0 w' [OS tInt 3 s xs] := by
  have hw := Sat.start w0
  obtain ⟨ad, cap, hs⟩ := ha.shape
  subst hs
  refine calls_of_vc (args := [.slice ad xs.length cap]) mixed Tryz.func51 rfl (by kernel_rfl) (Nat.le_of_ble_eq_true rfl) ?_
  repeat (first | refine go_run ?_ | (refine go_newP ?_; clear hw; intro p w hw) | (refine go_newW ?_; clear hw; intro w hw) | (refine go_newS ?_; clear hw; intro s w hw))
  refine step_pure rfl (pv_eqlNilS (a := ad) (n := xs.length) (c := cap) rfl) ?_
  cases ad with
  | none =>
    have h0 : xs = [] := by
      rcases Nat.eq_zero_or_pos xs.length with h | h
      · exact List.eq_nil_of_length_eq_zero h
      · obtain ⟨p, c2, he, _⟩ := ha.some (by decide) h
        cases he
    subst h0
    repeat (first | refine go_run ?_ | (refine go_newP ?_; clear hw; intro p w hw) | (refine go_newW ?_; clear hw; intro w hw) | (refine go_newS ?_; clear hw; intro s w hw))
    exact res_one (v := .slice none 0 0) rfl rfl ⟨_, rfl, hw.nil⟩
  | some p =>
    repeat (first | refine go_run ?_ | (refine go_newP ?_; clear hw; intro p w hw) | (refine go_newW ?_; clear hw; intro w hw) | (refine go_newS ?_; clear hw; intro s w hw))
    refine st_buildSlice0 tInt hw ?_
    clear hw
    intro s1 w hw
    repeat (first | refine go_run ?_ | (refine go_newP ?_; clear hw; intro p w hw) | (refine go_newW ?_; clear hw; intro w hw) | (refine go_newS ?_; clear hw; intro s w hw))
    rw [List.nil_append] at hw
    exact res_one (v := s) rfl rfl ⟨_, rfl, hw⟩
end Go.Proofs.YtegndanecnicaaaGreat

/-
  Contracts of 'slices.Clone' over facts and effects.
-/
namespace Go.Proofs.YtegndanecnicaaaGreat
open Go.Sl Go
attribute [local irreducible] vc opsW opsD opV opW PureV ReadV Thn Blk
set_option maxRecDepth 8000 in
theorem CloneF_spec {w0 : World} {a : Value} {xs : List Fact} (ha : RS tFact w0 a xs) (hn : xs.length ≤ 1099511627776) :
    Calls Tryz.prog 59 #[a] w0 fun e w' => ∃ s, e = .returned s ∧ Sat w0 w' [OS tFact 92 s xs] := by
  have hw := Sat.start w0
  obtain ⟨ad, cap, hs⟩ := ha.shape
  subst hs
  refine calls_of_vc (args := [.slice ad xs.length cap]) mixed Tryz.func59 rfl (by kernel_rfl) (Nat.le_of_ble_eq_true rfl) ?_
  repeat (first | refine go_run ?_ | (refine go_newP ?_; clear hw; intro p w hw) | (refine go_newW ?_; clear hw; intro w hw) | (refine go_newS ?_; clear hw; intro s w hw))
  refine step_pure rfl (pv_eqlNilS (a := ad) (n := xs.length) (c := cap) rfl) ?_
  cases ad with
  | none =>
    have h0 : xs = [] := by
      rcases Nat.eq_zero_or_pos xs.length with h | h
      · exact List.eq_nil_of_length_eq_zero h
      · obtain ⟨p, c2, he, _⟩ := ha.some (by decide) h
        cases he
    subst h0
    repeat (first | refine go_run ?_ | (refine go_newP ?_; clear hw; intro p w hw) | (refine go_newW ?_; clear hw; intro w hw) | (refine go_newS ?_; clear hw; intro s w hw))
    exact res_one (v := .slice none 0 0) rfl rfl ⟨_, rfl, hw.nil⟩
  | some p =>
    repeat (first | refine go_run ?_ | (refine go_newP ?_; clear hw; intro p w hw) | (refine go_newW ?_; clear hw; intro w hw) | (refine go_newS ?_; clear hw; intro s w hw))
    refine st_buildSlice0 tFact hw ?_
    clear hw
    intro s1 w hw
    repeat (first | refine go_run ?_ | (refine go_newP ?_; clear hw; intro p w hw) | (refine go_newW ?_; clear hw; intro w hw) | (refine go_newS ?_; clear hw; intro s w hw))
    rw [List.nil_append] at hw
    exact res_one (v := s) rfl rfl ⟨_, rfl, hw⟩
set_option maxRecDepth 8000 in
theorem CloneE_spec {w0 : World} {a : Value} {xs : List EffV} (ha : RS tEff w0 a xs) (hn : xs.length ≤ 1099511627776) (ho : ∀ x ∈ xs, ∀ v ∈ tEff.enc x, v.oneCell' = true) :
    Calls Tryz.prog 72 #[a] w0 fun e w' => ∃ s, e = .returned s ∧ Sat w0 w' [OS tEff 90 s xs] := by
  have hw := Sat.start w0
  obtain ⟨ad, cap, hs⟩ := ha.shape
  subst hs
  refine calls_of_vc (args := [.slice ad xs.length cap]) mixed Tryz.func72 rfl (by kernel_rfl) (Nat.le_of_ble_eq_true rfl) ?_
  repeat (first | refine go_run ?_ | (refine go_newP ?_; clear hw; intro p w hw) | (refine go_newW ?_; clear hw; intro w hw) | (refine go_newS ?_; clear hw; intro s w hw))
  refine step_pure rfl (pv_eqlNilS (a := ad) (n := xs.length) (c := cap) rfl) ?_
  cases ad with
  | none =>
    have h0 : xs = [] := by
      rcases Nat.eq_zero_or_pos xs.length with h | h
      · exact List.eq_nil_of_length_eq_zero h
      · obtain ⟨p, c2, he, _⟩ := ha.some (by decide) h
        cases he
    subst h0
    repeat (first | refine go_run ?_ | (refine go_newP ?_; clear hw; intro p w hw) | (refine go_newW ?_; clear hw; intro w hw) | (refine go_newS ?_; clear hw; intro s w hw))
    exact res_one (v := .slice none 0 0) rfl rfl ⟨_, rfl, hw.nil⟩
  | some p =>
    repeat (first | refine go_run ?_ | (refine go_newP ?_; clear hw; intro p w hw) | (refine go_newW ?_; clear hw; intro w hw) | (refine go_newS ?_; clear hw; intro s w hw))
    refine st_buildSlice0 tEff hw ?_
    clear hw
    intro s1 w hw
    repeat (first | refine go_run ?_ | (refine go_newP ?_; clear hw; intro p w hw) | (refine go_newW ?_; clear hw; intro w hw) | (refine go_newS ?_; clear hw; intro s w hw))
    refine go_append ?_ (hone := ho)
    clear hw
    intro s w hw
    repeat (first | refine go_run ?_ | (refine go_newP ?_; clear hw; intro p w hw) | (refine go_newW ?_; clear hw; intro w hw) | (refine go_newS ?_; clear hw; intro s w hw))
    rw [List.nil_append] at hw
    exact res_one (v := s) rfl rfl ⟨_, rfl, hw⟩
end Go.Proofs.YtegndanecnicaaaGreat

/-
  Contracts of 'task.States', 'task.counted', 'task.Rank'.
-/
namespace Go.Proofs.YtegndanecnicaaaGreat
open Go.Sl Go
attribute [local irreducible] vc opsW opsD opV opW PureV ReadV Thn Blk

end Go.Proofs.YtegndanecnicaaaGreat
