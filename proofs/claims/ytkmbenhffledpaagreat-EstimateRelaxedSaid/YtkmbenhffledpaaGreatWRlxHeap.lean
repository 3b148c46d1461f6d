
/-
  Contracts of the relaxation's heap and of the package 'container/heap' over it.
-/
import Derived.Test.YtkmbenhffledpaaGreatMTA
import Derived.Test.YtkmbenhffledpaaGreatMSlB
import Derived.Test.YtkmbenhffledpaaGreatMW1
set_option linter.unusedSimpArgs false
set_option linter.unusedVariables false
namespace Go.Proofs.YtkmbenhffledpaaGreat
open Go.Sl
attribute [local irreducible] vc opsW opsD opV opW PureV ReadV Thn Blk

set_option maxRecDepth 8000 in
theorem rxLess_spec {w0 : World} {h : Value} {xs : List Item} {i j : Nat} {ii jj : Int} (hx : RS tItem w0 h xs) (ei : ii = i) (ej : jj = j) (hi : i < xs.length) (hj : j < xs.length) :
    Calls Tryz.prog 225 #[h, .int .i64 ii, .int .i64 jj] w0 fun e w' => e = .returned (.bool (ilt (hg tItem.dflt xs i) (hg tItem.dflt xs j))) ∧ Sat w0 w' [] := by
  subst ei ej
  have hw := Sat.start w0
  refine calls_of_vc (args := [h, .int .i64 i, .int .i64 j]) mixed Tryz.func225 rfl (by kernel_rfl) (Nat.le_of_ble_eq_true rfl) ?_
  repeat (first | refine go_run ?_ | (refine go_newP ?_; clear hw; intro p w hw) | (refine go_newW ?_; clear hw; intro w hw) | (refine go_newS ?_; clear hw; intro s w hw))
  exact res_one (v := .bool (ilt (hg tItem.dflt xs i) (hg tItem.dflt xs j))) rfl rfl ⟨rfl, hw⟩

set_option maxRecDepth 8000 in
theorem rxSwap_spec {w0 w : World} {Γ : List HP} {h : Value} {xs : List Item} {i j : Nat} {ii jj : Int} (ei : ii = i) (ej : jj = j) (hi : i < xs.length) (hj : j < xs.length) (hw : Sat w0 w (OS tItem 327 h xs :: Γ)) :
    Calls Tryz.prog 226 #[h, .int .i64 ii, .int .i64 jj] w fun e w' => e = .returned (.tuple #[]) ∧ Sat w0 w' (OS tItem 327 h (sw tItem.dflt xs i j) :: Γ) := by
  subst ei ej
  refine calls_of_vc (args := [h, .int .i64 i, .int .i64 j]) mixed Tryz.func226 rfl (by kernel_rfl) (Nat.le_of_ble_eq_true rfl) ?_
  repeat (first | refine go_run ?_ | (refine go_newP ?_; clear hw; intro p w hw) | (refine go_newW ?_; clear hw; intro w hw) | (refine go_newS ?_; clear hw; intro s w hw))
  refine st_elemAgg (s := h) (j := i) (x' := hg tItem.dflt xs j) rfl rfl rfl rfl hw inferInstance (by omega) ?_
  clear hw
  intro w hw
  have hl : (xs.set i (hg tItem.dflt xs j)).length = xs.length := by simp
  repeat (first | refine go_run ?_ | (refine go_newP ?_; clear hw; intro p w hw) | (refine go_newW ?_; clear hw; intro w hw) | (refine go_newS ?_; clear hw; intro s w hw))
  refine st_elemAgg (s := h) (j := j) (x' := hg tItem.dflt xs i) rfl rfl rfl rfl hw inferInstance (by omega) ?_
  clear hw
  intro w hw
  repeat (first | refine go_run ?_ | (refine go_newP ?_; clear hw; intro p w hw) | (refine go_newW ?_; clear hw; intro w hw) | (refine go_newS ?_; clear hw; intro s w hw))
  exact res_none' rfl ⟨rfl, hw⟩

set_option maxRecDepth 8000 in
theorem rxPush_spec {w0 w : World} {Γ : List HP} {q : Addr} {h : Value} {xs : List Item} {v : Item} (hl : xs.length < 1099511627776) (hw : Sat w0 w (OS tItem 327 h xs :: Box q 324 [h] :: Γ)) :
    Calls Tryz.prog 228 #[.pointer (some q), .iface 327 (.agg #[.int .i64 v.dist, .int .i64 v.state])] w fun e w' => e = .returned (.tuple #[]) ∧ ∃ h', Sat w0 w' (OS tItem 327 h' (xs ++ [v]) :: Box q 324 [h'] :: Γ) := by
  refine calls_of_vc (args := [.pointer (some q), .iface 327 (.agg #[.int .i64 v.dist, .int .i64 v.state])]) mixed Tryz.func228 rfl (by kernel_rfl) (Nat.le_of_ble_eq_true rfl) ?_
  repeat (first | refine go_run ?_ | (refine go_newP ?_; clear hw; intro p w hw) | (refine go_newWr ?_; clear hw; intro w hw) | (refine go_newS ?_; clear hw; intro s w hw))
  refine vc_plan [.op 0, .op 1, .op 2, .op 3, .op 4, .op 5, .chk 3, .op 6, .op 7, .op 8] hw (by kernel_rfl) ?_; clear hw; intro w hw
  repeat (first | refine go_run ?_ | (refine go_newP ?_; clear hw; intro p w hw) | (refine go_newWr ?_; clear hw; intro w hw) | (refine go_newS ?_; clear hw; intro s w hw))
  refine st_buildSlice1 tItem (x1 := v) rfl rfl rfl (Nat.le_of_ble_eq_true rfl) (Nat.zero_lt_succ _) hw ?_
  clear hw
  intro s w hw
  repeat (first | refine go_run ?_ | (refine go_newP ?_; clear hw; intro p w hw) | (refine go_newWr ?_; clear hw; intro w hw) | (refine go_newS ?_; clear hw; intro s w hw))
  exact res_none' rfl ⟨rfl, _, hw.tail.tail⟩

set_option maxRecDepth 8000 in
theorem rxPop_spec {w0 w : World} {Γ : List HP} {q : Addr} {h : Value} {xs : List Item} (hl : 0 < xs.length) (hb : xs.length ≤ 1099511627776) (hw : Sat w0 w (OS tItem 327 h xs :: Box q 324 [h] :: Γ)) :
    Calls Tryz.prog 227 #[.pointer (some q)] w fun e w' => e = .returned (.iface 327 ((.agg #[.int .i64 (hg tItem.dflt xs (xs.length - 1)).dist, .int .i64 (hg tItem.dflt xs (xs.length - 1)).state]))) ∧ ∃ h', Sat w0 w' (OS tItem 327 h' (xs.take (xs.length - 1)) :: Box q 324 [h'] :: Γ) := by
  refine calls_of_vc (args := [.pointer (some q)]) mixed Tryz.func227 rfl (by kernel_rfl) (Nat.le_of_ble_eq_true rfl) ?_
  repeat (first | refine go_run ?_ | (refine go_newP ?_; clear hw; intro p w hw) | (refine go_newW ?_; clear hw; intro w hw) | (refine go_newS ?_; clear hw; intro s w hw))
  have hk : (((xs.length : Nat) : Int) - 1).toNat = xs.length - 1 := by omega
  replace hw := Sat.sub (s := h) (xs := xs) hw inferInstance 0 (((xs.length : Nat) : Int) - 1).toNat (by omega) (by omega)
  repeat (first | refine go_run ?_ | (refine go_newP ?_; clear hw; intro p w hw) | (refine go_newW ?_; clear hw; intro w hw) | (refine go_newS ?_; clear hw; intro s w hw))
  refine res_one (v := .iface 327 ((.agg #[.int .i64 (hg tItem.dflt xs (((xs.length : Nat) : Int) - 1).toNat).dist, .int .i64 (hg tItem.dflt xs (((xs.length : Nat) : Int) - 1).toNat).state]))) rfl rfl ⟨by rw [hk], ssub h tItem.sz 0 (((xs.length : Nat) : Int) - 1).toNat, ?_⟩
  have hc : cut xs 0 (((xs.length : Nat) : Int) - 1).toNat = xs.take (xs.length - 1) := by rw [hk]; simp [cut]
  rw [hc] at hw
  exact hw.tail

set_option maxRecDepth 8000 in
theorem rxLen_spec {w0 : World} {h : Value} {xs : List Item} (hx : RS tItem w0 h xs) :
    Calls Tryz.prog 195 #[h] w0 fun e w' => e = .returned (.int .i64 xs.length) ∧ Sat w0 w' [] := by
  have hw := Sat.start w0
  refine calls_of_vc (args := [h]) mixed Tryz.func195 rfl (by kernel_rfl) (Nat.le_of_ble_eq_true rfl) ?_
  repeat (first | refine go_run ?_ | (refine go_newP ?_; clear hw; intro p w hw) | (refine go_newW ?_; clear hw; intro w hw) | (refine go_newS ?_; clear hw; intro s w hw))
  exact res_one (v := .int .i64 xs.length) rfl rfl ⟨rfl, hw⟩

set_option maxHeartbeats 1000000 in
set_option maxRecDepth 8000 in
theorem rxup_spec {w0 w : World} {Γ : List HP} {q : Addr} {h : Value} {xs : List Item} {j : Nat} {jj : Int} (ej : jj = j) (U : UpI tItem.dflt ilt xs j) (hb : xs.length ≤ 1099511627776) (hw : Sat w0 w (OS tItem 327 h xs :: Box q 324 [h] :: Γ)) :
    Calls Tryz.prog 154 #[.iface 325 (.pointer (some q)), .int .i64 jj] w fun e w' => e = .returned (.tuple #[]) ∧ ∃ ys, IsHeap tItem.dflt ilt ys ∧ ys.Perm xs ∧ Sat w0 w' (OS tItem 327 h ys :: Box q 324 [h] :: Γ) := by
  subst ej
  refine calls_of_vc (args := [.iface 325 (.pointer (some q)), .int .i64 j]) mixed Tryz.func154 rfl (by kernel_rfl) (Nat.le_of_ble_eq_true rfl) ?_
  repeat (first | refine go_run ?_ | (refine go_newP ?_; clear hw; intro p w hw) | (refine go_newW ?_; clear hw; intro w hw) | (refine go_newS ?_; clear hw; intro s w hw))
  refine vc_loop2 [1, 4, 5, 6, 7, 8, 9, 10, 11, 12, 13, 14, 15, 16, 17, 18, 19, 20, 21, 22] (G := Nat) (H := List Item) (fun j ys => [(1, .int .i64 j)]) (fun j ys w => UpI tItem.dflt ilt ys j ∧ ys.Perm xs ∧ Sat w0 w (OS tItem 327 h ys :: Box q 324 [h] :: Γ)) (fun j ys => j) j xs (fun _ _ => rfl) ⟨rfl, trivial⟩ ⟨U, .refl _, hw⟩ ?_
  clear hw U
  rintro σ j ys w ⟨U, hp, hw⟩
  have hlt := U.inb
  have hyl := hp.length_eq
  repeat (first | refine go_run ?_ | (refine go_newP ?_; clear hw; intro p w hw) | (refine go_newW ?_; clear hw; intro w hw) | (refine go_newS ?_; clear hw; intro s w hw))
  simp only [tdiv_half]
  by_cases hij : (j - 1) / 2 = j
  · have hdec : decide ((((j - 1) / 2 : Nat) : Int) = (j : Int)) = true := decide_eq_true (by omega)
    simp only [hdec]
    repeat (first | refine go_run ?_ | (refine go_newP ?_; clear hw; intro p w hw) | (refine go_newW ?_; clear hw; intro w hw) | (refine go_newS ?_; clear hw; intro s w hw))
    exact res_none' rfl ⟨rfl, ys, U.done (.inl hij), hp, hw⟩
  · have hdec : decide ((((j - 1) / 2 : Nat) : Int) = (j : Int)) = false := decide_eq_false (by omega)
    simp only [hdec, gvff]
    repeat (first | refine go_run ?_ | (refine go_newP ?_; clear hw; intro p w hw) | (refine go_newW ?_; clear hw; intro w hw) | (refine go_newS ?_; clear hw; intro s w hw))
    refine st_invokeV (u := h) rfl rfl (hw.box0 inferInstance rfl) (rxLess_spec (rsO hw) rfl rfl hlt (show (j - 1) / 2 < ys.length by omega)) ?_
    rintro _ w' ⟨rfl, hk⟩
    replace hw := hw.call0 hk
    clear hk
    cases hL : ilt (hg tItem.dflt ys j) (hg tItem.dflt ys ((j - 1) / 2)) with
    | false =>
      refine ⟨_, rfl, ?_⟩
      repeat (first | refine go_run ?_ | (refine go_newP ?_; clear hw; intro p w hw) | (refine go_newW ?_; clear hw; intro w hw) | (refine go_newS ?_; clear hw; intro s w hw))
      exact res_none' rfl ⟨rfl, ys, U.done (.inr hL), hp, hw⟩
    | true =>
      refine ⟨_, rfl, ?_⟩
      repeat (first | refine go_run ?_ | (refine go_newP ?_; clear hw; intro p w hw) | (refine go_newW ?_; clear hw; intro w hw) | (refine go_newS ?_; clear hw; intro s w hw))
      refine st_invokeV (u := h) rfl rfl (hw.box0 inferInstance rfl) (rxSwap_spec rfl rfl (show (j - 1) / 2 < ys.length by omega) hlt hw) ?_
      clear hw
      rintro _ w ⟨rfl, hw⟩
      refine ⟨_, rfl, ?_⟩
      repeat (first | refine go_run ?_ | (refine go_newP ?_; clear hw; intro p w hw) | (refine go_newW ?_; clear hw; intro w hw) | (refine go_newS ?_; clear hw; intro s w hw))
      exact ⟨(j - 1) / 2, _, ⟨rfl, trivial⟩, by repeat (first | exact agree_refl | (apply agree_upd rfl) | (apply agree_mix rfl) | (apply agree_sets rfl)), ⟨U.step hij hL, (sw_perm (by omega) hlt).trans hp, hw⟩, by omega⟩


set_option maxHeartbeats 2000000 in
set_option maxRecDepth 8000 in
theorem rxdown_spec {w0 w : World} {Γ : List HP} {q : Addr} {h : Value} {xs : List Item} {n : Nat} {nn : Int} (en : nn = n) (D : DnI tItem.dflt ilt xs n 0) (hb : xs.length ≤ 1099511627776) (hw : Sat w0 w (OS tItem 327 h xs :: Box q 324 [h] :: Γ)) :
    Calls Tryz.prog 155 #[.iface 325 (.pointer (some q)), .int .i64 0, .int .i64 nn] w fun e w' => ∃ b ys, e = .returned (.bool b) ∧ HeapN tItem.dflt ilt ys n ∧ ys.Perm xs ∧ (∀ k, n ≤ k → hg tItem.dflt ys k = hg tItem.dflt xs k) ∧ Sat w0 w' (OS tItem 327 h ys :: Box q 324 [h] :: Γ) := by
  subst en
  refine calls_of_vc (args := [.iface 325 (.pointer (some q)), .int .i64 0, .int .i64 n]) mixed Tryz.func155 rfl (by kernel_rfl) (Nat.le_of_ble_eq_true rfl) ?_
  repeat (first | refine go_run ?_ | (refine go_newP ?_; clear hw; intro p w hw) | (refine go_newW ?_; clear hw; intro w hw) | (refine go_newS ?_; clear hw; intro s w hw))
  refine vc_loop2 [7, 8, 9, 10, 12, 13, 14, 15, 16, 17, 18, 19, 20, 21, 22, 23, 24, 25, 26, 27, 28, 29, 30, 31, 32, 33, 34, 35, 36, 37, 38, 39, 40, 41, 42, 43, 44] (G := Nat) (H := List Item) (fun i ys => [(7, .int .i64 i)]) (fun i ys w => DnI tItem.dflt ilt ys n i ∧ i ≤ n ∧ ys.Perm xs ∧ (∀ k, n ≤ k → hg tItem.dflt ys k = hg tItem.dflt xs k) ∧ Sat w0 w (OS tItem 327 h ys :: Box q 324 [h] :: Γ)) (fun i ys => n - i) 0 xs (fun _ _ => rfl) ⟨rfl, trivial⟩ ⟨D, Nat.zero_le _, .refl _, fun _ _ => rfl, hw⟩ ?_
  clear hw D
  rintro σ i ys w ⟨D, hin, hp, hkeep, hw⟩
  have hle1 := D.le
  have hyl := hp.length_eq
  repeat (first | refine go_run ?_ | (refine go_newP ?_; clear hw; intro p w hw) | (refine go_newW ?_; clear hw; intro w hw) | (refine go_newS ?_; clear hw; intro s w hw))
  refine go_if (fun h1 => ?_) (fun h1 => ?_)
  · repeat (first | refine go_run ?_ | (refine go_newP ?_; clear hw; intro p w hw) | (refine go_newW ?_; clear hw; intro w hw) | (refine go_newS ?_; clear hw; intro s w hw))
    exact res_one (v := .bool _) rfl rfl ⟨_, ys, rfl, D.leaf (by omega), hp, hkeep, hw⟩
  · have hin' : 2 * i + 1 < n := by omega
    repeat (first | refine go_run ?_ | (refine go_newP ?_; clear hw; intro p w hw) | (refine go_newW ?_; clear hw; intro w hw) | (refine go_newS ?_; clear hw; intro s w hw))
    by_cases h2 : 2 * i + 2 < n
    · have hdec : decide (2 * (i : Int) + 1 + 1 < (n : Int)) = true := decide_eq_true (by omega)
      simp only [hdec, gvtt]
      repeat (first | refine go_run ?_ | (refine go_newP ?_; clear hw; intro p w hw) | (refine go_newW ?_; clear hw; intro w hw) | (refine go_newS ?_; clear hw; intro s w hw))
      refine st_invokeV (u := h) rfl rfl (hw.box0 inferInstance rfl) (rxLess_spec (i := 2 * i + 2) (j := 2 * i + 1) (rsO hw) (by omega) (by omega) (by omega) (by omega)) ?_
      rintro _ w' ⟨rfl, hk⟩
      replace hw := hw.call0 hk
      clear hk
      cases hL : ilt (hg tItem.dflt ys (2 * i + 2)) (hg tItem.dflt ys (2 * i + 1)) with
      | true =>
        refine ⟨_, rfl, ?_⟩
        repeat (first | refine go_runC ?_ | (refine go_newP ?_; clear hw; intro p w hw) | (refine go_newW ?_; clear hw; intro w hw) | (refine go_newS ?_; clear hw; intro s w hw))
        refine vc_cut [9, 34] (G := Nat) (fun j => [(9, .int .i64 j)]) (fun j w => (j = 2 * i + 1 ∨ j = 2 * i + 2) ∧ j < n ∧ (∀ c, 0 < c → c < n → (c - 1) / 2 = i → hle ilt (hg tItem.dflt ys j) (hg tItem.dflt ys c)) ∧ Sat w0 w (OS tItem 327 h ys :: Box q 324 [h] :: Γ)) (fun _ => rfl) ?_ ?_
        · repeat (first | refine go_run ?_ | (refine go_newP ?_; clear hw; intro p w hw) | (refine go_newW ?_; clear hw; intro w hw) | (refine go_newS ?_; clear hw; intro s w hw))
          refine ⟨2 * i + 2, ⟨?_, trivial⟩, by repeat (first | exact agree_refl | (apply agree_upd rfl) | (apply agree_mix rfl) | (apply agree_sets rfl)), .inr rfl, h2, fun c h0 h1 hc => ?_, hw⟩
          · show Value.int .i64 (2 * (i : Int) + 1 + 1) = _
            congr 1
          · have : c = 2 * i + 1 ∨ c = 2 * i + 2 := by omega
            rcases this with rfl | rfl
            · exact hle_of hL
            · exact hle_refl _
        · clear hw
          rintro σ1 j w ⟨hj, hjn, hmin, hw⟩
          repeat (first | refine go_run ?_ | (refine go_newP ?_; clear hw; intro p w hw) | (refine go_newW ?_; clear hw; intro w hw) | (refine go_newS ?_; clear hw; intro s w hw))
          refine st_invokeV (u := h) rfl rfl (hw.box0 inferInstance rfl) (rxLess_spec (rsO hw) rfl rfl (show j < ys.length by omega) (show i < ys.length by omega)) ?_
          rintro _ w' ⟨rfl, hk⟩
          replace hw := hw.call0 hk
          clear hk
          cases hL : ilt (hg tItem.dflt ys j) (hg tItem.dflt ys i) with
          | false =>
            refine ⟨_, rfl, ?_⟩
            repeat (first | refine go_run ?_ | (refine go_newP ?_; clear hw; intro p w hw) | (refine go_newW ?_; clear hw; intro w hw) | (refine go_newS ?_; clear hw; intro s w hw))
            exact res_one (v := .bool _) rfl rfl ⟨_, ys, rfl, D.done hmin hL, hp, hkeep, hw⟩
          | true =>
            refine ⟨_, rfl, ?_⟩
            repeat (first | refine go_run ?_ | (refine go_newP ?_; clear hw; intro p w hw) | (refine go_newW ?_; clear hw; intro w hw) | (refine go_newS ?_; clear hw; intro s w hw))
            refine st_invokeV (u := h) rfl rfl (hw.box0 inferInstance rfl) (rxSwap_spec rfl rfl (show i < ys.length by omega) (show j < ys.length by omega) hw) ?_
            clear hw
            rintro _ w ⟨rfl, hw⟩
            refine ⟨_, rfl, ?_⟩
            repeat (first | refine go_run ?_ | (refine go_newP ?_; clear hw; intro p w hw) | (refine go_newW ?_; clear hw; intro w hw) | (refine go_newS ?_; clear hw; intro s w hw))
            refine ⟨j, _, ⟨rfl, trivial⟩, by repeat (first | exact agree_refl | (apply agree_upd rfl) | (apply agree_mix rfl) | (apply agree_sets rfl)), ⟨D.step hj hjn hmin hL, by omega, (sw_perm (by omega) (by omega)).trans hp, fun k hk => ?_, hw⟩, by omega⟩
            rw [sw_get (by omega) (by omega), if_neg (by omega), if_neg (by omega)]
            exact hkeep k hk
      | false =>
        refine ⟨_, rfl, ?_⟩
        repeat (first | refine go_runC ?_ | (refine go_newP ?_; clear hw; intro p w hw) | (refine go_newW ?_; clear hw; intro w hw) | (refine go_newS ?_; clear hw; intro s w hw))
        refine vc_cut [9, 34] (G := Nat) (fun j => [(9, .int .i64 j)]) (fun j w => (j = 2 * i + 1 ∨ j = 2 * i + 2) ∧ j < n ∧ (∀ c, 0 < c → c < n → (c - 1) / 2 = i → hle ilt (hg tItem.dflt ys j) (hg tItem.dflt ys c)) ∧ Sat w0 w (OS tItem 327 h ys :: Box q 324 [h] :: Γ)) (fun _ => rfl) ?_ ?_
        · repeat (first | refine go_run ?_ | (refine go_newP ?_; clear hw; intro p w hw) | (refine go_newW ?_; clear hw; intro w hw) | (refine go_newS ?_; clear hw; intro s w hw))
          refine ⟨2 * i + 1, ⟨?_, trivial⟩, by repeat (first | exact agree_refl | (apply agree_upd rfl) | (apply agree_mix rfl) | (apply agree_sets rfl)), .inl rfl, hin', fun c h0 h1 hc => ?_, hw⟩
          · show Value.int .i64 (2 * (i : Int) + 1) = _
            congr 1
          · have : c = 2 * i + 1 ∨ c = 2 * i + 2 := by omega
            rcases this with rfl | rfl
            · exact hle_refl _
            · exact hL
        · clear hw
          rintro σ1 j w ⟨hj, hjn, hmin, hw⟩
          repeat (first | refine go_run ?_ | (refine go_newP ?_; clear hw; intro p w hw) | (refine go_newW ?_; clear hw; intro w hw) | (refine go_newS ?_; clear hw; intro s w hw))
          refine st_invokeV (u := h) rfl rfl (hw.box0 inferInstance rfl) (rxLess_spec (rsO hw) rfl rfl (show j < ys.length by omega) (show i < ys.length by omega)) ?_
          rintro _ w' ⟨rfl, hk⟩
          replace hw := hw.call0 hk
          clear hk
          cases hL : ilt (hg tItem.dflt ys j) (hg tItem.dflt ys i) with
          | false =>
            refine ⟨_, rfl, ?_⟩
            repeat (first | refine go_run ?_ | (refine go_newP ?_; clear hw; intro p w hw) | (refine go_newW ?_; clear hw; intro w hw) | (refine go_newS ?_; clear hw; intro s w hw))
            exact res_one (v := .bool _) rfl rfl ⟨_, ys, rfl, D.done hmin hL, hp, hkeep, hw⟩
          | true =>
            refine ⟨_, rfl, ?_⟩
            repeat (first | refine go_run ?_ | (refine go_newP ?_; clear hw; intro p w hw) | (refine go_newW ?_; clear hw; intro w hw) | (refine go_newS ?_; clear hw; intro s w hw))
            refine st_invokeV (u := h) rfl rfl (hw.box0 inferInstance rfl) (rxSwap_spec rfl rfl (show i < ys.length by omega) (show j < ys.length by omega) hw) ?_
            clear hw
            rintro _ w ⟨rfl, hw⟩
            refine ⟨_, rfl, ?_⟩
            repeat (first | refine go_run ?_ | (refine go_newP ?_; clear hw; intro p w hw) | (refine go_newW ?_; clear hw; intro w hw) | (refine go_newS ?_; clear hw; intro s w hw))
            refine ⟨j, _, ⟨rfl, trivial⟩, by repeat (first | exact agree_refl | (apply agree_upd rfl) | (apply agree_mix rfl) | (apply agree_sets rfl)), ⟨D.step hj hjn hmin hL, by omega, (sw_perm (by omega) (by omega)).trans hp, fun k hk => ?_, hw⟩, by omega⟩
            rw [sw_get (by omega) (by omega), if_neg (by omega), if_neg (by omega)]
            exact hkeep k hk
    · have hdec : decide (2 * (i : Int) + 1 + 1 < (n : Int)) = false := decide_eq_false (by omega)
      simp only [hdec]
      repeat (first | refine go_runC ?_ | (refine go_newP ?_; clear hw; intro p w hw) | (refine go_newW ?_; clear hw; intro w hw) | (refine go_newS ?_; clear hw; intro s w hw))
      refine vc_cut [9, 34] (G := Nat) (fun j => [(9, .int .i64 j)]) (fun j w => (j = 2 * i + 1 ∨ j = 2 * i + 2) ∧ j < n ∧ (∀ c, 0 < c → c < n → (c - 1) / 2 = i → hle ilt (hg tItem.dflt ys j) (hg tItem.dflt ys c)) ∧ Sat w0 w (OS tItem 327 h ys :: Box q 324 [h] :: Γ)) (fun _ => rfl) ?_ ?_
      · repeat (first | refine go_run ?_ | (refine go_newP ?_; clear hw; intro p w hw) | (refine go_newW ?_; clear hw; intro w hw) | (refine go_newS ?_; clear hw; intro s w hw))
        refine ⟨2 * i + 1, ⟨?_, trivial⟩, by repeat (first | exact agree_refl | (apply agree_upd rfl) | (apply agree_mix rfl) | (apply agree_sets rfl)), .inl rfl, hin', fun c h0 h1 hc => ?_, hw⟩
        · show Value.int .i64 (2 * (i : Int) + 1) = _
          congr 1
        · have : c = 2 * i + 1 := by omega
          subst this; exact hle_refl _
      · clear hw
        rintro σ1 j w ⟨hj, hjn, hmin, hw⟩
        repeat (first | refine go_run ?_ | (refine go_newP ?_; clear hw; intro p w hw) | (refine go_newW ?_; clear hw; intro w hw) | (refine go_newS ?_; clear hw; intro s w hw))
        refine st_invokeV (u := h) rfl rfl (hw.box0 inferInstance rfl) (rxLess_spec (rsO hw) rfl rfl (show j < ys.length by omega) (show i < ys.length by omega)) ?_
        rintro _ w' ⟨rfl, hk⟩
        replace hw := hw.call0 hk
        clear hk
        cases hL : ilt (hg tItem.dflt ys j) (hg tItem.dflt ys i) with
        | false =>
          refine ⟨_, rfl, ?_⟩
          repeat (first | refine go_run ?_ | (refine go_newP ?_; clear hw; intro p w hw) | (refine go_newW ?_; clear hw; intro w hw) | (refine go_newS ?_; clear hw; intro s w hw))
          exact res_one (v := .bool _) rfl rfl ⟨_, ys, rfl, D.done hmin hL, hp, hkeep, hw⟩
        | true =>
          refine ⟨_, rfl, ?_⟩
          repeat (first | refine go_run ?_ | (refine go_newP ?_; clear hw; intro p w hw) | (refine go_newW ?_; clear hw; intro w hw) | (refine go_newS ?_; clear hw; intro s w hw))
          refine st_invokeV (u := h) rfl rfl (hw.box0 inferInstance rfl) (rxSwap_spec rfl rfl (show i < ys.length by omega) (show j < ys.length by omega) hw) ?_
          clear hw
          rintro _ w ⟨rfl, hw⟩
          refine ⟨_, rfl, ?_⟩
          repeat (first | refine go_run ?_ | (refine go_newP ?_; clear hw; intro p w hw) | (refine go_newW ?_; clear hw; intro w hw) | (refine go_newS ?_; clear hw; intro s w hw))
          refine ⟨j, _, ⟨rfl, trivial⟩, by repeat (first | exact agree_refl | (apply agree_upd rfl) | (apply agree_mix rfl) | (apply agree_sets rfl)), ⟨D.step hj hjn hmin hL, by omega, (sw_perm (by omega) (by omega)).trans hp, fun k hk => ?_, hw⟩, by omega⟩
          rw [sw_get (by omega) (by omega), if_neg (by omega), if_neg (by omega)]
          exact hkeep k hk

set_option maxRecDepth 8000 in
theorem rxheapPush_spec {w0 w : World} {Γ : List HP} {q : Addr} {h : Value} {xs : List Item} {v : Item} (H : IsHeap tItem.dflt ilt xs) (hb : xs.length < 1099511627776) (hw : Sat w0 w (OS tItem 327 h xs :: Box q 324 [h] :: Γ)) :
    Calls Tryz.prog 125 #[.iface 325 (.pointer (some q)), .iface 327 (.agg #[.int .i64 v.dist, .int .i64 v.state])] w fun e w' => e = .returned (.tuple #[]) ∧ ∃ h' ys, IsHeap tItem.dflt ilt ys ∧ ys.Perm (v :: xs) ∧ Sat w0 w' (OS tItem 327 h' ys :: Box q 324 [h'] :: Γ) := by
  refine calls_of_vc (args := [.iface 325 (.pointer (some q)), .iface 327 (.agg #[.int .i64 v.dist, .int .i64 v.state])]) mixed Tryz.func125 rfl (by kernel_rfl) (Nat.le_of_ble_eq_true rfl) ?_
  repeat (first | refine go_run ?_ | (refine go_newP ?_; clear hw; intro p w hw) | (refine go_newW ?_; clear hw; intro w hw) | (refine go_newS ?_; clear hw; intro s w hw))
  refine st_invokeP rfl rfl (rxPush_spec (v := v) (by omega) hw) ?_
  clear hw
  rintro _ w ⟨rfl, h', hw⟩
  refine ⟨_, rfl, ?_⟩
  repeat (first | refine go_run ?_ | (refine go_newP ?_; clear hw; intro p w hw) | (refine go_newW ?_; clear hw; intro w hw) | (refine go_newS ?_; clear hw; intro s w hw))
  refine st_invokeV (u := h') rfl rfl (hw.box0 inferInstance rfl) (rxLen_spec (rsO hw)) ?_
  rintro _ w' ⟨rfl, hk⟩
  replace hw := hw.call0 hk
  clear hk
  refine ⟨_, rfl, ?_⟩
  have hl : (xs ++ [v]).length = xs.length + 1 := by simp
  repeat (first | refine go_run ?_ | (refine go_newP ?_; clear hw; intro p w hw) | (refine go_newW ?_; clear hw; intro w hw) | (refine go_newS ?_; clear hw; intro s w hw))
  refine st_call rfl (rxup_spec (j := xs.length) (by rw [hl]; omega) (upI_push H) (by omega) hw) ?_
  clear hw
  rintro _ w ⟨rfl, ys, h1, h2, hw⟩
  refine ⟨_, rfl, ?_⟩
  repeat (first | refine go_run ?_ | (refine go_newP ?_; clear hw; intro p w hw) | (refine go_newW ?_; clear hw; intro w hw) | (refine go_newS ?_; clear hw; intro s w hw))
  exact res_none' rfl ⟨rfl, h', ys, h1, h2.trans (List.perm_append_comm (l₁ := xs) (l₂ := [v])), hw⟩

set_option maxRecDepth 8000 in
theorem rxheapPop_spec {w0 w : World} {Γ : List HP} {q : Addr} {h : Value} {xs : List Item} (H : IsHeap tItem.dflt ilt xs) (hl : 0 < xs.length) (hb : xs.length ≤ 1099511627776) (hw : Sat w0 w (OS tItem 327 h xs :: Box q 324 [h] :: Γ)) :
    Calls Tryz.prog 126 #[.iface 325 (.pointer (some q))] w fun e w' => ∃ v h' ys, e = .returned (.iface 327 (.agg #[.int .i64 v.dist, .int .i64 v.state])) ∧ IsHeap tItem.dflt ilt ys ∧ xs.Perm (v :: ys) ∧ (∀ x ∈ xs, hle ilt v x) ∧ Sat w0 w' (OS tItem 327 h' ys :: Box q 324 [h'] :: Γ) := by
  refine calls_of_vc (args := [.iface 325 (.pointer (some q))]) mixed Tryz.func126 rfl (by kernel_rfl) (Nat.le_of_ble_eq_true rfl) ?_
  repeat (first | refine go_run ?_ | (refine go_newP ?_; clear hw; intro p w hw) | (refine go_newW ?_; clear hw; intro w hw) | (refine go_newS ?_; clear hw; intro s w hw))
  refine st_invokeV (u := h) rfl rfl (hw.box0 inferInstance rfl) (rxLen_spec (rsO hw)) ?_
  rintro _ w' ⟨rfl, hk⟩
  replace hw := hw.call0 hk
  clear hk
  refine ⟨_, rfl, ?_⟩
  repeat (first | refine go_run ?_ | (refine go_newP ?_; clear hw; intro p w hw) | (refine go_newW ?_; clear hw; intro w hw) | (refine go_newS ?_; clear hw; intro s w hw))
  refine st_invokeV (u := h) rfl rfl (hw.box0 inferInstance rfl) (rxSwap_spec (i := 0) (j := xs.length - 1) rfl (by omega) hl (by omega) hw) ?_
  clear hw
  rintro _ w ⟨rfl, hw⟩
  refine ⟨_, rfl, ?_⟩
  repeat (first | refine go_run ?_ | (refine go_newP ?_; clear hw; intro p w hw) | (refine go_newW ?_; clear hw; intro w hw) | (refine go_newS ?_; clear hw; intro s w hw))
  refine st_call rfl (rxdown_spec (n := xs.length - 1) (by omega) (dnI_pop H hl) (by rw [sw_len]; exact hb) hw) ?_
  clear hw
  rintro _ w ⟨b, ys, rfl, h1, h2, h3, hw⟩
  have hp := h2.trans (sw_perm hl (show xs.length - 1 < xs.length by omega))
  have hyl := hp.length_eq
  refine ⟨_, rfl, ?_⟩
  repeat (first | refine go_run ?_ | (refine go_newP ?_; clear hw; intro p w hw) | (refine go_newW ?_; clear hw; intro w hw) | (refine go_newS ?_; clear hw; intro s w hw))
  refine st_invokeP rfl rfl (rxPop_spec (by omega) (by omega) hw) ?_
  clear hw
  rintro _ w ⟨rfl, h', hw⟩
  refine ⟨_, rfl, ?_⟩
  repeat (first | refine go_run ?_ | (refine go_newP ?_; clear hw; intro p w hw) | (refine go_newW ?_; clear hw; intro w hw) | (refine go_newS ?_; clear hw; intro s w hw))
  have hlast : hg tItem.dflt ys (xs.length - 1) = hg tItem.dflt xs 0 := by
    rw [h3 _ (Nat.le_refl _), sw_get hl (by omega), if_pos rfl]
  obtain ⟨hh, hpp⟩ := pop_rest hl hp h1 hlast
  rw [hyl] at hw
  refine res_one (v := .iface 327 ((.agg #[.int .i64 (hg tItem.dflt ys (ys.length - 1)).dist, .int .i64 (hg tItem.dflt ys (ys.length - 1)).state]))) rfl rfl ⟨hg tItem.dflt xs 0, h', _, by rw [hyl, hlast], hh, hpp, fun x hx => root_mem H hx, hw⟩
end Go.Proofs.YtkmbenhffledpaaGreat
