
/-
  Contract of reference 35's 'begins'.
-/
import Derived.Test.YtkmbenhffledpaaGreatWLr8
set_option linter.unusedSimpArgs false
set_option linter.unusedVariables false
namespace Go.Proofs.YtkmbenhffledpaaGreat
open Go.Sl Go
attribute [local irreducible] vc opsW opsD opV opW PureV ReadV Thn Blk
set_option maxRecDepth 8000 in
set_option maxHeartbeats 8000000 in
theorem r35begins_spec {w0 : World} {av sv zv : Value} {t : TTask} {A : List RArc} {z cs V : List Int} {g0 : Fact} {zn : List Fact} (hA : RAll t V A) (hg : GoodT t) (hV : ∀ g : Int, 0 ≤ g → g < factN t → 0 ≤ dg V g) (hav : RS tRA w0 av A) (hsv : RS tInt w0 sv z) (hzv : RS tFact w0 zv zn) (hok : StateOk t.vars z) (hz : ∀ {f : Fact}, FactOk t.vars f → (f ∈ zn ↔ ZT (withC t cs) V (numF t.vars g0) (numF t.vars f))) :
    Calls Tryz.prog 42 #[av, sv, zv] w0 fun e w' => ∃ ov l, e = .returned ov ∧ (∀ {f : Fact}, FactOk t.vars f → (f ∈ l ↔ ZS (withC t cs) z V (numF t.vars g0) (numF t.vars f))) ∧ Sat w0 w' [OS tFact 77 ov l] := by
  have hab := hav.big
  have hN := factN_le hg
  have hzl := hok.1
  have hvl := hg.vars
  have hw := Sat.start w0
  refine calls_of_vc (args := [av, sv, zv]) mixed Tryz.func42 rfl (by kernel_rfl) (Nat.le_of_ble_eq_true rfl) ?_
  repeat (first | refine go_run ?_ | (refine go_newP ?_; clear hw; intro p w hw) | (refine go_newW ?_; clear hw; intro w hw) | (refine go_newS ?_; clear hw; intro s w hw))
  replace hw := hw.nil (T := tFact) (e := 77)
  refine vc_loop2 [7, 8, 9, 15, 16, 17, 18, 19, 20, 21, 22, 23, 24, 25, 26] (G := Nat) (H := Value) (fun k ov => [(15, .int .i64 k), (7, ov)]) (fun k ov w => k ≤ z.length ∧ Sat w0 w [OS tFact 77 ov (stL1 z k)]) (fun k _ => z.length - k) 0 (.slice none 0 0) (fun _ _ => rfl) ⟨rfl, rfl, trivial⟩ ⟨Nat.zero_le _, hw⟩ ?_
  clear hw
  rintro σ k ov w ⟨hk, hw⟩
  have hsl := stL1_len z k
  repeat (first | refine go_run ?_ | (refine go_newP ?_; clear hw; intro p w hw) | (refine go_newW ?_; clear hw; intro w hw) | (refine go_newS ?_; clear hw; intro s w hw))
  refine go_if (fun h1 => ?_) (fun h1 => ?_)
  · have hkl : k < z.length := by omega
    repeat (first | refine go_run ?_ | (refine go_newP ?_; clear hw; intro p w hw) | (refine go_newW ?_; clear hw; intro w hw) | (refine go_newS ?_; clear hw; intro s w hw))
    refine st_buildSlice1 tFact (x1 := ⟨(k : Int), z.getD k tInt.dflt⟩) rfl rfl rfl (Nat.le_of_ble_eq_true rfl) (Nat.zero_lt_succ _) hw ?_
    clear hw
    intro s1 w hw
    repeat (first | refine go_run ?_ | (refine go_newP ?_; clear hw; intro p w hw) | (refine go_newW ?_; clear hw; intro w hw) | (refine go_newS ?_; clear hw; intro s w hw))
    obtain ⟨ov2, hov2⟩ : ∃ ov2, ov2 = s := ⟨s, rfl⟩
    subst hov2
    rw [← stL1_succ] at hw
    exact ⟨k + 1, ov2, ⟨rfl, rfl, trivial⟩, by repeat (first | exact agree_refl | (apply agree_upd rfl) | (apply agree_mix rfl) | (apply agree_sets rfl)), ⟨by omega, hw.tail⟩, by omega⟩
  have hke : k = t.vars.length := by omega
  rw [hke] at hw
  repeat (first | refine go_run ?_ | (refine go_newP ?_; clear hw; intro p w hw) | (refine go_newW ?_; clear hw; intro w hw) | (refine go_newS ?_; clear hw; intro s w hw))
  refine vc_loop3 [7, 10, 12, 27, 28, 29, 30, 31, 32, 33, 34, 35, 36, 37, 38, 39, 40, 41, 42, 43, 44, 45, 46, 47, 48, 49, 50, 51, 52, 53, 54, 55, 56, 57, 58, 59, 60, 61] (G := Value) (H := Bool) (I := List Fact) (fun ov ch _ => [(7, ov), (10, .bool ch)]) (fun ov ch l w => SZ t z V cs g0 l ∧ (ch = false → ∀ n, n < A.length → (fun (l : List Fact) (a : RArc) => (a.start = true ∨ a.src ∈ l) → a.dst ∉ zn → a.dst ∈ l) l (A.getD n tRA.dflt)) ∧ Sat w0 w [OS tFact 77 ov l]) (fun _ ch l => 2 * (factN t + 1 - l.length) + (bif ch then 1 else 0)) ov true (stL1 z t.vars.length) (fun _ _ _ => rfl) ⟨rfl, rfl, trivial⟩ ⟨.start hok, (fun h => by cases h), hw⟩ ?_
  clear hw
  rintro σ1 ov1 ch l w ⟨hZ, hcl, hw⟩
  have hll := hZ.zn.len hg
  cases ch
  · repeat (first | refine go_run ?_ | (refine go_newP ?_; clear hw; intro p w hw) | (refine go_newW ?_; clear hw; intro w hw) | (refine go_newS ?_; clear hw; intro s w hw))
    refine res_one (v := ov1) rfl rfl ⟨ov1, l, rfl, fun hf => hZ.fin hg hV hA hok hz (fun a ha => ?_) hf, hw⟩
    obtain ⟨n, hn, rfl⟩ := List.getElem_of_mem ha
    have := hcl rfl n hn
    rwa [getD_at hn] at this
  clear hcl
  repeat (first | refine go_run ?_ | (refine go_newP ?_; clear hw; intro p w hw) | (refine go_newW ?_; clear hw; intro w hw) | (refine go_newS ?_; clear hw; intro s w hw))
  refine vc_loop4 [7, 10, 12, 30, 31, 32, 33, 34, 35, 36, 37, 38, 39, 40, 41, 42, 43, 44, 45, 46, 47, 48, 49, 50, 51, 52, 53, 54, 55, 56, 57, 58, 59, 60, 61] (G := Nat) (H := Value) (I := Bool) (M := List Fact) (fun m ov ch _ => [(30, .int .i64 m), (7, ov), (10, .bool ch)]) (fun m ov ch l1 w => m ≤ A.length ∧ SZ t z V cs g0 l1 ∧ l.length ≤ l1.length ∧ (ch = true → l.length < l1.length) ∧ (ch = false → ∀ n, n < m → (fun (l : List Fact) (a : RArc) => (a.start = true ∨ a.src ∈ l) → a.dst ∉ zn → a.dst ∈ l) l1 (A.getD n tRA.dflt)) ∧ Sat w0 w [OS tFact 77 ov l1]) (fun m _ _ _ => A.length - m) 0 ov1 false l (fun _ _ _ _ => rfl) ⟨rfl, rfl, rfl, trivial⟩ ⟨Nat.zero_le _, hZ, Nat.le_refl _, (fun h => by cases h), (fun _ n h => absurd h (Nat.not_lt_zero _)), hw⟩ ?_
  clear hw
  rintro σ2 m ov ch1 l1 w ⟨hm, hZ1, hl1, hl2, hcl, hw⟩
  have hll1 := hZ1.zn.len hg
  repeat (first | refine go_run ?_ | (refine go_newP ?_; clear hw; intro p w hw) | (refine go_newW ?_; clear hw; intro w hw) | (refine go_newS ?_; clear hw; intro s w hw))
  refine go_if (fun h2 => ?_) (fun h2 => ?_)
  · have hml : m < A.length := by omega
    have hma := mem_getD tRA.dflt hml
    obtain ⟨x, hx⟩ : ∃ x, x = A.getD m tRA.dflt := ⟨_, rfl⟩
    have hskip : ∀ (_ : (fun (l : List Fact) (a : RArc) => (a.start = true ∨ a.src ∈ l) → a.dst ∉ zn → a.dst ∈ l) l1 x), ch1 = false → ∀ n, n < m + 1 → (fun (l : List Fact) (a : RArc) => (a.start = true ∨ a.src ∈ l) → a.dst ∉ zn → a.dst ∈ l) l1 (A.getD n tRA.dflt) := fun h hch n hn => by
      by_cases e : n = m
      · rw [e, ← hx]; exact h
      · exact hcl hch n (by omega)
    rw [← hx] at hma
    obtain ⟨k1, k2, op, k3, k4⟩ := hA.ok x hma
    obtain ⟨st, hst⟩ : ∃ st, st = x.start := ⟨_, rfl⟩
    repeat (first | refine go_run ?_ | (refine go_newP ?_; clear hw; intro p w hw) | (refine go_newWr ?_; clear hw; intro w hw) | (refine go_newS ?_; clear hw; intro s w hw))
    obtain ⟨pa, hpa⟩ : ∃ pa, pa = p := ⟨p, rfl⟩
    subst hpa
    rw [← hx] at hw ⊢
    rw [← hst]
    replace hw : Sat w0 w [Box pa 88 [.bool st, .int .i64 x.src.var, .int .i64 x.src.val, .int .i64 x.dst.var, .int .i64 x.dst.val, .int .i64 (op : Int)], OS tFact 77 ov l1] := by rw [hst, ← k3]; exact hw
    cases st
    · simp only [gvff, gvtt]
      repeat (first | refine go_run ?_ | (refine go_newP ?_; clear hw; intro p w hw) | (refine go_newWr ?_; clear hw; intro w hw) | (refine go_newS ?_; clear hw; intro s w hw))
      refine step_read rfl (rv_boxRSub (k := 1) (n := 2) (vs := [.int .i64 x.src.var, .int .i64 x.src.val]) rfl (hw.boxR 0 rfl) rfl rfl) ?_
      repeat (first | refine go_run ?_ | (refine go_newP ?_; clear hw; intro p w hw) | (refine go_newWr ?_; clear hw; intro w hw) | (refine go_newS ?_; clear hw; intro s w hw))
      refine st_call rfl (r35in_spec (f := x.src) (rsO (s := ov) hw)) ?_
      rintro _ w' ⟨⟨r1, rfl, hr1⟩, hk'⟩
      replace hw := hw.call0 hk'
      clear hk'
      refine ⟨_, rfl, ?_⟩
      cases r1
      · have hns : x.src ∉ l1 := fun h => by have := hr1.2 h; cases this
        repeat (first | refine go_run ?_ | (refine go_newP ?_; clear hw; intro p w hw) | (refine go_newWr ?_; clear hw; intro w hw) | (refine go_newS ?_; clear hw; intro s w hw))
        exact ⟨m + 1, ov, ch1, l1, ⟨rfl, rfl, rfl, trivial⟩, by repeat (first | exact agree_refl | (apply agree_upd rfl) | (apply agree_mix rfl) | (apply agree_sets rfl)), ⟨by omega, hZ1, hl1, hl2, hskip (fun h => by
          rcases h with h | h
          · rw [← hst] at h; cases h
          · exact absurd h hns), hw.tail⟩, by omega⟩
      · have hsrc : x.start = true ∨ x.src ∈ l1 := .inr (hr1.1 rfl)
        repeat (first | refine go_run ?_ | (refine go_newP ?_; clear hw; intro p w hw) | (refine go_newWr ?_; clear hw; intro w hw) | (refine go_newS ?_; clear hw; intro s w hw))
        refine step_read rfl (rv_boxRSub (k := 3) (n := 2) (vs := [.int .i64 x.dst.var, .int .i64 x.dst.val]) rfl (hw.boxR 0 rfl) rfl rfl) ?_
        repeat (first | refine go_run ?_ | (refine go_newP ?_; clear hw; intro p w hw) | (refine go_newWr ?_; clear hw; intro w hw) | (refine go_newS ?_; clear hw; intro s w hw))
        refine st_call rfl (r35in_spec (f := x.dst) (hzv.at hw)) ?_
        rintro _ w' ⟨⟨r2, rfl, hr2⟩, hk'⟩
        replace hw := hw.call0 hk'
        clear hk'
        refine ⟨_, rfl, ?_⟩
        cases r2
        · have hnz : x.dst ∉ zn := fun h => by have := hr2.2 h; cases this
          repeat (first | refine go_run ?_ | (refine go_newP ?_; clear hw; intro p w hw) | (refine go_newWr ?_; clear hw; intro w hw) | (refine go_newS ?_; clear hw; intro s w hw))
          refine step_read rfl (rv_boxRSub (k := 3) (n := 2) (vs := [.int .i64 x.dst.var, .int .i64 x.dst.val]) rfl (hw.boxR 0 rfl) rfl rfl) ?_
          repeat (first | refine go_run ?_ | (refine go_newP ?_; clear hw; intro p w hw) | (refine go_newWr ?_; clear hw; intro w hw) | (refine go_newS ?_; clear hw; intro s w hw))
          refine st_call rfl (r35in_spec (f := x.dst) (rsO (s := ov) hw)) ?_
          rintro _ w' ⟨⟨r3, rfl, hr3⟩, hk'⟩
          replace hw := hw.call0 hk'
          clear hk'
          refine ⟨_, rfl, ?_⟩
          cases r3
          · have hno : x.dst ∉ l1 := fun h => by have := hr3.2 h; cases this
            repeat (first | refine go_run ?_ | (refine go_newP ?_; clear hw; intro p w hw) | (refine go_newWr ?_; clear hw; intro w hw) | (refine go_newS ?_; clear hw; intro s w hw))
            refine step_read rfl (rv_boxRSub (k := 3) (n := 2) (vs := [.int .i64 x.dst.var, .int .i64 x.dst.val]) rfl (hw.boxR 0 rfl) rfl rfl) ?_
            repeat (first | refine go_run ?_ | (refine go_newP ?_; clear hw; intro p w hw) | (refine go_newWr ?_; clear hw; intro w hw) | (refine go_newS ?_; clear hw; intro s w hw))
            refine st_buildSlice1 tFact (x1 := x.dst) rfl rfl rfl (Nat.le_of_ble_eq_true rfl) (Nat.zero_lt_succ _) hw ?_
            clear hw
            intro s1 w hw
            repeat (first | refine go_run ?_ | (refine go_newP ?_; clear hw; intro p w hw) | (refine go_newWr ?_; clear hw; intro w hw) | (refine go_newS ?_; clear hw; intro s w hw))
            obtain ⟨ov2, hov2⟩ : ∃ ov2, ov2 = s := ⟨s, rfl⟩
            subst hov2
            have hpl : (l1 ++ [x.dst]).length = l1.length + 1 := by simp
            exact ⟨m + 1, ov2, true, l1 ++ [x.dst], ⟨rfl, rfl, rfl, trivial⟩, by repeat (first | exact agree_refl | (apply agree_upd rfl) | (apply agree_mix rfl) | (apply agree_sets rfl)), ⟨by omega, hZ1.push hg hV hA hz hma hsrc hnz hno, by omega, fun _ => by omega, (fun h => by cases h), hw.sel⟩, by omega⟩
          · repeat (first | refine go_run ?_ | (refine go_newP ?_; clear hw; intro p w hw) | (refine go_newWr ?_; clear hw; intro w hw) | (refine go_newS ?_; clear hw; intro s w hw))
            exact ⟨m + 1, ov, ch1, l1, ⟨rfl, rfl, rfl, trivial⟩, by repeat (first | exact agree_refl | (apply agree_upd rfl) | (apply agree_mix rfl) | (apply agree_sets rfl)), ⟨by omega, hZ1, hl1, hl2, hskip (fun _ _ => hr3.1 rfl), hw.tail⟩, by omega⟩
        · repeat (first | refine go_run ?_ | (refine go_newP ?_; clear hw; intro p w hw) | (refine go_newWr ?_; clear hw; intro w hw) | (refine go_newS ?_; clear hw; intro s w hw))
          exact ⟨m + 1, ov, ch1, l1, ⟨rfl, rfl, rfl, trivial⟩, by repeat (first | exact agree_refl | (apply agree_upd rfl) | (apply agree_mix rfl) | (apply agree_sets rfl)), ⟨by omega, hZ1, hl1, hl2, hskip (fun _ h => absurd (hr2.1 rfl) h), hw.tail⟩, by omega⟩
    · have hsrc : x.start = true ∨ x.src ∈ l1 := .inl hst.symm
      repeat (first | refine go_run ?_ | (refine go_newP ?_; clear hw; intro p w hw) | (refine go_newWr ?_; clear hw; intro w hw) | (refine go_newS ?_; clear hw; intro s w hw))
      refine step_read rfl (rv_boxRSub (k := 3) (n := 2) (vs := [.int .i64 x.dst.var, .int .i64 x.dst.val]) rfl (hw.boxR 0 rfl) rfl rfl) ?_
      repeat (first | refine go_run ?_ | (refine go_newP ?_; clear hw; intro p w hw) | (refine go_newWr ?_; clear hw; intro w hw) | (refine go_newS ?_; clear hw; intro s w hw))
      refine st_call rfl (r35in_spec (f := x.dst) (hzv.at hw)) ?_
      rintro _ w' ⟨⟨r2, rfl, hr2⟩, hk'⟩
      replace hw := hw.call0 hk'
      clear hk'
      refine ⟨_, rfl, ?_⟩
      cases r2
      · have hnz : x.dst ∉ zn := fun h => by have := hr2.2 h; cases this
        repeat (first | refine go_run ?_ | (refine go_newP ?_; clear hw; intro p w hw) | (refine go_newWr ?_; clear hw; intro w hw) | (refine go_newS ?_; clear hw; intro s w hw))
        refine step_read rfl (rv_boxRSub (k := 3) (n := 2) (vs := [.int .i64 x.dst.var, .int .i64 x.dst.val]) rfl (hw.boxR 0 rfl) rfl rfl) ?_
        repeat (first | refine go_run ?_ | (refine go_newP ?_; clear hw; intro p w hw) | (refine go_newWr ?_; clear hw; intro w hw) | (refine go_newS ?_; clear hw; intro s w hw))
        refine st_call rfl (r35in_spec (f := x.dst) (rsO (s := ov) hw)) ?_
        rintro _ w' ⟨⟨r3, rfl, hr3⟩, hk'⟩
        replace hw := hw.call0 hk'
        clear hk'
        refine ⟨_, rfl, ?_⟩
        cases r3
        · have hno : x.dst ∉ l1 := fun h => by have := hr3.2 h; cases this
          repeat (first | refine go_run ?_ | (refine go_newP ?_; clear hw; intro p w hw) | (refine go_newWr ?_; clear hw; intro w hw) | (refine go_newS ?_; clear hw; intro s w hw))
          refine step_read rfl (rv_boxRSub (k := 3) (n := 2) (vs := [.int .i64 x.dst.var, .int .i64 x.dst.val]) rfl (hw.boxR 0 rfl) rfl rfl) ?_
          repeat (first | refine go_run ?_ | (refine go_newP ?_; clear hw; intro p w hw) | (refine go_newWr ?_; clear hw; intro w hw) | (refine go_newS ?_; clear hw; intro s w hw))
          refine st_buildSlice1 tFact (x1 := x.dst) rfl rfl rfl (Nat.le_of_ble_eq_true rfl) (Nat.zero_lt_succ _) hw ?_
          clear hw
          intro s1 w hw
          repeat (first | refine go_run ?_ | (refine go_newP ?_; clear hw; intro p w hw) | (refine go_newWr ?_; clear hw; intro w hw) | (refine go_newS ?_; clear hw; intro s w hw))
          obtain ⟨ov2, hov2⟩ : ∃ ov2, ov2 = s := ⟨s, rfl⟩
          subst hov2
          have hpl : (l1 ++ [x.dst]).length = l1.length + 1 := by simp
          exact ⟨m + 1, ov2, true, l1 ++ [x.dst], ⟨rfl, rfl, rfl, trivial⟩, by repeat (first | exact agree_refl | (apply agree_upd rfl) | (apply agree_mix rfl) | (apply agree_sets rfl)), ⟨by omega, hZ1.push hg hV hA hz hma hsrc hnz hno, by omega, fun _ => by omega, (fun h => by cases h), hw.sel⟩, by omega⟩
        · repeat (first | refine go_run ?_ | (refine go_newP ?_; clear hw; intro p w hw) | (refine go_newWr ?_; clear hw; intro w hw) | (refine go_newS ?_; clear hw; intro s w hw))
          exact ⟨m + 1, ov, ch1, l1, ⟨rfl, rfl, rfl, trivial⟩, by repeat (first | exact agree_refl | (apply agree_upd rfl) | (apply agree_mix rfl) | (apply agree_sets rfl)), ⟨by omega, hZ1, hl1, hl2, hskip (fun _ _ => hr3.1 rfl), hw.tail⟩, by omega⟩
      · repeat (first | refine go_run ?_ | (refine go_newP ?_; clear hw; intro p w hw) | (refine go_newWr ?_; clear hw; intro w hw) | (refine go_newS ?_; clear hw; intro s w hw))
        exact ⟨m + 1, ov, ch1, l1, ⟨rfl, rfl, rfl, trivial⟩, by repeat (first | exact agree_refl | (apply agree_upd rfl) | (apply agree_mix rfl) | (apply agree_sets rfl)), ⟨by omega, hZ1, hl1, hl2, hskip (fun _ h => absurd (hr2.1 rfl) h), hw.tail⟩, by omega⟩
  · have hme : m = A.length := by omega
    subst hme
    repeat (first | refine go_run ?_ | (refine go_newP ?_; clear hw; intro p w hw) | (refine go_newW ?_; clear hw; intro w hw) | (refine go_newS ?_; clear hw; intro s w hw))
    refine ⟨ov, ch1, l1, ⟨rfl, rfl, trivial⟩, by repeat (first | exact agree_refl | (apply agree_upd rfl) | (apply agree_mix rfl) | (apply agree_sets rfl)), ⟨hZ1, fun hch n hn => hcl hch n hn, hw⟩, ?_⟩
    cases ch1
    · simp only [cond_true, cond_false]; omega
    · have := hl2 rfl
      simp only [cond_true]; omega
end Go.Proofs.YtkmbenhffledpaaGreat
