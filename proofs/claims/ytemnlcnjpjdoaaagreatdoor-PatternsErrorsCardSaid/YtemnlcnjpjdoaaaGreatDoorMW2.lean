/-
  Several texts as one: WPdbHeap, WTCheck, WTState, WTStates.
-/
import Derived.Test.YtemnlcnjpjdoaaaGreatDoorMTA
import Derived.Test.YtemnlcnjpjdoaaaGreatDoorMSlB
import Derived.Test.YtemnlcnjpjdoaaaGreatDoorMW1
set_option linter.unusedSimpArgs false
set_option linter.unusedVariables false

/-
  Contracts of the heap of items and of the package 'container/heap' over it.
-/
namespace Go.Proofs.YtemnlcnjpjdoaaaGreatDoor
open Go.Sl
attribute [local irreducible] vc opsW opsD opV opW PureV ReadV Thn Blk

set_option maxRecDepth 8000 in
theorem qLess_spec {w0 : World} {h : Value} {xs : List Item} {i j : Nat} {ii jj : Int} (hx : RS tItem w0 h xs) (ei : ii = i) (ej : jj = j) (hi : i < xs.length) (hj : j < xs.length) :
    Calls Tryz.prog 154 #[h, .int .i64 ii, .int .i64 jj] w0 fun e w' => e = .returned (.bool (ilt (hg tItem.dflt xs i) (hg tItem.dflt xs j))) ∧ Sat w0 w' [] := by
  subst ei ej
  have hw := Sat.start w0
  refine calls_of_vc (args := [h, .int .i64 i, .int .i64 j]) mixed Tryz.func154 rfl (by kernel_rfl) (Nat.le_of_ble_eq_true rfl) ?_
  repeat (first | refine go_run ?_ | (refine go_newP ?_; clear hw; intro p w hw) | (refine go_newW ?_; clear hw; intro w hw) | (refine go_newS ?_; clear hw; intro s w hw))
  exact res_one (v := .bool (ilt (hg tItem.dflt xs i) (hg tItem.dflt xs j))) rfl rfl ⟨rfl, hw⟩

set_option maxRecDepth 8000 in
theorem qSwap_spec {w0 w : World} {Γ : List HP} {h : Value} {xs : List Item} {i j : Nat} {ii jj : Int} (ei : ii = i) (ej : jj = j) (hi : i < xs.length) (hj : j < xs.length) (hw : Sat w0 w (OS tItem 138 h xs :: Γ)) :
    Calls Tryz.prog 157 #[h, .int .i64 ii, .int .i64 jj] w fun e w' => e = .returned (.tuple #[]) ∧ Sat w0 w' (OS tItem 138 h (sw tItem.dflt xs i j) :: Γ) := by
  subst ei ej
  refine calls_of_vc (args := [h, .int .i64 i, .int .i64 j]) mixed Tryz.func157 rfl (by kernel_rfl) (Nat.le_of_ble_eq_true rfl) ?_
  repeat (first | refine go_run ?_ | (refine go_newP ?_; clear hw; intro p w hw) | (refine go_newW ?_; clear hw; intro w hw) | (refine go_newS ?_; clear hw; intro s w hw))
  refine st_elemAgg (s := h) (j := i) (x' := hg tItem.dflt xs j) rfl rfl rfl rfl hw inferInstance (by omega) ?_
  clear hw
  intro w hw
  have hl : (xs.set i (hg tItem.dflt xs j)).length = xs.length := by simp
  repeat (first | refine go_run ?_ | (refine go_newP ?_; clear hw; intro p w hw) | (refine go_newW ?_; clear hw; intro w hw) | (refine go_newS ?_; clear hw; intro s w hw))
  refine st_elemAgg (s := h) (j := j) (x' := hg tItem.dflt xs i) rfl rfl rfl rfl hw inferInstance (by omega) ?_
  clear hw
  intro w hw
  repeat (first | refine go_run ?_ | (refine go_newP ?_; clear hw; intro p w hw) | (refine go_newW ?_; clear hw; intro w hw) | (refine go_newS ?_; clear hw; intro s w hw))
  exact res_none' rfl ⟨rfl, hw⟩

set_option maxRecDepth 8000 in
theorem qPush_spec {w0 w : World} {Γ : List HP} {q : Addr} {h : Value} {xs : List Item} {v : Item} (hl : xs.length < 1048576) (hw : Sat w0 w (OS tItem 138 h xs :: Box q 135 [h] :: Γ)) :
    Calls Tryz.prog 156 #[.pointer (some q), .iface 138 (.agg #[.int .i64 v.dist, .int .i64 v.state])] w fun e w' => e = .returned (.tuple #[]) ∧ ∃ h', Sat w0 w' (OS tItem 138 h' (xs ++ [v]) :: Box q 135 [h'] :: Γ) := by
  refine calls_of_vc (args := [.pointer (some q), .iface 138 (.agg #[.int .i64 v.dist, .int .i64 v.state])]) mixed Tryz.func156 rfl (by kernel_rfl) (Nat.le_of_ble_eq_true rfl) ?_
  repeat (first | refine go_run ?_ | (refine go_newP ?_; clear hw; intro p w hw) | (refine go_newWr ?_; clear hw; intro w hw) | (refine go_newS ?_; clear hw; intro s w hw))
  refine vc_plan [.op 0, .op 1, .op 2, .op 3, .op 4, .op 5, .chk 3, .op 6, .op 7, .op 8] hw (by kernel_rfl) ?_; clear hw; intro w hw
  repeat (first | refine go_run ?_ | (refine go_newP ?_; clear hw; intro p w hw) | (refine go_newWr ?_; clear hw; intro w hw) | (refine go_newS ?_; clear hw; intro s w hw))
  refine st_buildSlice1 tItem (x1 := v) rfl rfl rfl (Nat.le_of_ble_eq_true rfl) (Nat.zero_lt_succ _) hw ?_
  clear hw
  intro s w hw
  repeat (first | refine go_run ?_ | (refine go_newP ?_; clear hw; intro p w hw) | (refine go_newWr ?_; clear hw; intro w hw) | (refine go_newS ?_; clear hw; intro s w hw))
  exact res_none' rfl ⟨rfl, _, hw.tail.tail⟩

set_option maxRecDepth 8000 in
theorem qPop_spec {w0 w : World} {Γ : List HP} {q : Addr} {h : Value} {xs : List Item} (hl : 0 < xs.length) (hb : xs.length ≤ 1048576) (hw : Sat w0 w (OS tItem 138 h xs :: Box q 135 [h] :: Γ)) :
    Calls Tryz.prog 155 #[.pointer (some q)] w fun e w' => e = .returned (.iface 138 ((.agg #[.int .i64 (hg tItem.dflt xs (xs.length - 1)).dist, .int .i64 (hg tItem.dflt xs (xs.length - 1)).state]))) ∧ ∃ h', Sat w0 w' (OS tItem 138 h' (xs.take (xs.length - 1)) :: Box q 135 [h'] :: Γ) := by
  refine calls_of_vc (args := [.pointer (some q)]) mixed Tryz.func155 rfl (by kernel_rfl) (Nat.le_of_ble_eq_true rfl) ?_
  repeat (first | refine go_run ?_ | (refine go_newP ?_; clear hw; intro p w hw) | (refine go_newW ?_; clear hw; intro w hw) | (refine go_newS ?_; clear hw; intro s w hw))
  have hk : (((xs.length : Nat) : Int) - 1).toNat = xs.length - 1 := by omega
  replace hw := Sat.sub (s := h) (xs := xs) hw inferInstance 0 (((xs.length : Nat) : Int) - 1).toNat (by omega) (by omega)
  repeat (first | refine go_run ?_ | (refine go_newP ?_; clear hw; intro p w hw) | (refine go_newW ?_; clear hw; intro w hw) | (refine go_newS ?_; clear hw; intro s w hw))
  refine res_one (v := .iface 138 ((.agg #[.int .i64 (hg tItem.dflt xs (((xs.length : Nat) : Int) - 1).toNat).dist, .int .i64 (hg tItem.dflt xs (((xs.length : Nat) : Int) - 1).toNat).state]))) rfl rfl ⟨by rw [hk], ssub h tItem.sz 0 (((xs.length : Nat) : Int) - 1).toNat, ?_⟩
  have hc : cut xs 0 (((xs.length : Nat) : Int) - 1).toNat = xs.take (xs.length - 1) := by rw [hk]; simp [cut]
  rw [hc] at hw
  exact hw.tail

set_option maxRecDepth 8000 in
theorem qLen_spec {w0 : World} {h : Value} {xs : List Item} (hx : RS tItem w0 h xs) :
    Calls Tryz.prog 78 #[h] w0 fun e w' => e = .returned (.int .i64 xs.length) ∧ Sat w0 w' [] := by
  have hw := Sat.start w0
  refine calls_of_vc (args := [h]) mixed Tryz.func78 rfl (by kernel_rfl) (Nat.le_of_ble_eq_true rfl) ?_
  repeat (first | refine go_run ?_ | (refine go_newP ?_; clear hw; intro p w hw) | (refine go_newW ?_; clear hw; intro w hw) | (refine go_newS ?_; clear hw; intro s w hw))
  exact res_one (v := .int .i64 xs.length) rfl rfl ⟨rfl, hw⟩

set_option maxHeartbeats 1000000 in
set_option maxRecDepth 8000 in
theorem qup_spec {w0 w : World} {Γ : List HP} {q : Addr} {h : Value} {xs : List Item} {j : Nat} {jj : Int} (ej : jj = j) (U : UpI tItem.dflt ilt xs j) (hb : xs.length ≤ 1048576) (hw : Sat w0 w (OS tItem 138 h xs :: Box q 135 [h] :: Γ)) :
    Calls Tryz.prog 93 #[.iface 133 (.pointer (some q)), .int .i64 jj] w fun e w' => e = .returned (.tuple #[]) ∧ ∃ ys, IsHeap tItem.dflt ilt ys ∧ ys.Perm xs ∧ Sat w0 w' (OS tItem 138 h ys :: Box q 135 [h] :: Γ) := by
  subst ej
  refine calls_of_vc (args := [.iface 133 (.pointer (some q)), .int .i64 j]) mixed Tryz.func93 rfl (by kernel_rfl) (Nat.le_of_ble_eq_true rfl) ?_
  repeat (first | refine go_run ?_ | (refine go_newP ?_; clear hw; intro p w hw) | (refine go_newW ?_; clear hw; intro w hw) | (refine go_newS ?_; clear hw; intro s w hw))
  refine vc_loop2 [1, 4, 5, 6, 7, 8, 9, 10, 11, 12, 13, 14, 15, 16, 17, 18, 19, 20, 21, 22] (G := Nat) (H := List Item) (fun j ys => [(1, .int .i64 j)]) (fun j ys w => UpI tItem.dflt ilt ys j ∧ ys.Perm xs ∧ Sat w0 w (OS tItem 138 h ys :: Box q 135 [h] :: Γ)) (fun j ys => j) j xs (fun _ _ => rfl) ⟨rfl, trivial⟩ ⟨U, .refl _, hw⟩ ?_
  clear hw U
  rintro σ j ys w ⟨U, hp, hw⟩
  have hlt := U.inb
  have hyl := hp.length_eq
  repeat (first | refine go_run ?_ | (refine go_newP ?_; clear hw; intro p w hw) | (refine go_newW ?_; clear hw; intro w hw) | (refine go_newS ?_; clear hw; intro s w hw))
  simp only [tdiv_half]
  by_cases hij : (j - 1) / 2 = j
  · have hdec : decide ((((j - 1) / 2 : Nat) : Int) = (j : Int)) = true := decide_eq_true (by omega)
    simp only [hdec]
    repeat (first | refine go_run ?_ | (refine go_newP ?_; clear hw; intro p w hw) | (refine go_newW ?_; clear hw; intro w hw) | (refine go_newS ?_; clear hw; intro s w hw))
    exact res_none' rfl ⟨rfl, ys, U.done (.inl hij), hp, hw⟩
  · have hdec : decide ((((j - 1) / 2 : Nat) : Int) = (j : Int)) = false := decide_eq_false (by omega)
    simp only [hdec, gvff]
    repeat (first | refine go_run ?_ | (refine go_newP ?_; clear hw; intro p w hw) | (refine go_newW ?_; clear hw; intro w hw) | (refine go_newS ?_; clear hw; intro s w hw))
    refine st_invokeV (u := h) rfl rfl (hw.box0 inferInstance rfl) (qLess_spec (rsO hw) rfl rfl hlt (show (j - 1) / 2 < ys.length by omega)) ?_
    rintro _ w' ⟨rfl, hk⟩
    replace hw := hw.call0 hk
    clear hk
    cases hL : ilt (hg tItem.dflt ys j) (hg tItem.dflt ys ((j - 1) / 2)) with
    | false =>
      refine ⟨_, rfl, ?_⟩
      repeat (first | refine go_run ?_ | (refine go_newP ?_; clear hw; intro p w hw) | (refine go_newW ?_; clear hw; intro w hw) | (refine go_newS ?_; clear hw; intro s w hw))
      exact res_none' rfl ⟨rfl, ys, U.done (.inr hL), hp, hw⟩
    | true =>
      refine ⟨_, rfl, ?_⟩
      repeat (first | refine go_run ?_ | (refine go_newP ?_; clear hw; intro p w hw) | (refine go_newW ?_; clear hw; intro w hw) | (refine go_newS ?_; clear hw; intro s w hw))
      refine st_invokeV (u := h) rfl rfl (hw.box0 inferInstance rfl) (qSwap_spec rfl rfl (show (j - 1) / 2 < ys.length by omega) hlt hw) ?_
      clear hw
      rintro _ w ⟨rfl, hw⟩
      refine ⟨_, rfl, ?_⟩
      repeat (first | refine go_run ?_ | (refine go_newP ?_; clear hw; intro p w hw) | (refine go_newW ?_; clear hw; intro w hw) | (refine go_newS ?_; clear hw; intro s w hw))
      exact ⟨(j - 1) / 2, _, ⟨rfl, trivial⟩, by repeat (first | exact agree_refl | (apply agree_upd rfl) | (apply agree_mix rfl) | (apply agree_sets rfl)), ⟨U.step hij hL, (sw_perm (by omega) hlt).trans hp, hw⟩, by omega⟩


set_option maxHeartbeats 2000000 in
set_option maxRecDepth 8000 in
theorem qdown_spec {w0 w : World} {Γ : List HP} {q : Addr} {h : Value} {xs : List Item} {n : Nat} {nn : Int} (en : nn = n) (D : DnI tItem.dflt ilt xs n 0) (hb : xs.length ≤ 1048576) (hw : Sat w0 w (OS tItem 138 h xs :: Box q 135 [h] :: Γ)) :
    Calls Tryz.prog 94 #[.iface 133 (.pointer (some q)), .int .i64 0, .int .i64 nn] w fun e w' => ∃ b ys, e = .returned (.bool b) ∧ HeapN tItem.dflt ilt ys n ∧ ys.Perm xs ∧ (∀ k, n ≤ k → hg tItem.dflt ys k = hg tItem.dflt xs k) ∧ Sat w0 w' (OS tItem 138 h ys :: Box q 135 [h] :: Γ) := by
  subst en
  refine calls_of_vc (args := [.iface 133 (.pointer (some q)), .int .i64 0, .int .i64 n]) mixed Tryz.func94 rfl (by kernel_rfl) (Nat.le_of_ble_eq_true rfl) ?_
  repeat (first | refine go_run ?_ | (refine go_newP ?_; clear hw; intro p w hw) | (refine go_newW ?_; clear hw; intro w hw) | (refine go_newS ?_; clear hw; intro s w hw))
  refine vc_loop2 [7, 8, 9, 10, 12, 13, 14, 15, 16, 17, 18, 19, 20, 21, 22, 23, 24, 25, 26, 27, 28, 29, 30, 31, 32, 33, 34, 35, 36, 37, 38, 39, 40, 41, 42, 43, 44] (G := Nat) (H := List Item) (fun i ys => [(7, .int .i64 i)]) (fun i ys w => DnI tItem.dflt ilt ys n i ∧ i ≤ n ∧ ys.Perm xs ∧ (∀ k, n ≤ k → hg tItem.dflt ys k = hg tItem.dflt xs k) ∧ Sat w0 w (OS tItem 138 h ys :: Box q 135 [h] :: Γ)) (fun i ys => n - i) 0 xs (fun _ _ => rfl) ⟨rfl, trivial⟩ ⟨D, Nat.zero_le _, .refl _, fun _ _ => rfl, hw⟩ ?_
  clear hw D
  rintro σ i ys w ⟨D, hin, hp, hkeep, hw⟩
  have hle1 := D.le
  have hyl := hp.length_eq
  repeat (first | refine go_run ?_ | (refine go_newP ?_; clear hw; intro p w hw) | (refine go_newW ?_; clear hw; intro w hw) | (refine go_newS ?_; clear hw; intro s w hw))
  refine go_if (fun h1 => ?_) (fun h1 => ?_)
  · repeat (first | refine go_run ?_ | (refine go_newP ?_; clear hw; intro p w hw) | (refine go_newW ?_; clear hw; intro w hw) | (refine go_newS ?_; clear hw; intro s w hw))
    exact res_one (v := .bool _) rfl rfl ⟨_, ys, rfl, D.leaf (by omega), hp, hkeep, hw⟩
  · have hin' : 2 * i + 1 < n := by omega
    repeat (first | refine go_run ?_ | (refine go_newP ?_; clear hw; intro p w hw) | (refine go_newW ?_; clear hw; intro w hw) | (refine go_newS ?_; clear hw; intro s w hw))
    by_cases h2 : 2 * i + 2 < n
    · have hdec : decide (2 * (i : Int) + 1 + 1 < (n : Int)) = true := decide_eq_true (by omega)
      simp only [hdec, gvtt]
      repeat (first | refine go_run ?_ | (refine go_newP ?_; clear hw; intro p w hw) | (refine go_newW ?_; clear hw; intro w hw) | (refine go_newS ?_; clear hw; intro s w hw))
      refine st_invokeV (u := h) rfl rfl (hw.box0 inferInstance rfl) (qLess_spec (i := 2 * i + 2) (j := 2 * i + 1) (rsO hw) (by omega) (by omega) (by omega) (by omega)) ?_
      rintro _ w' ⟨rfl, hk⟩
      replace hw := hw.call0 hk
      clear hk
      cases hL : ilt (hg tItem.dflt ys (2 * i + 2)) (hg tItem.dflt ys (2 * i + 1)) with
      | true =>
        refine ⟨_, rfl, ?_⟩
        repeat (first | refine go_runC ?_ | (refine go_newP ?_; clear hw; intro p w hw) | (refine go_newW ?_; clear hw; intro w hw) | (refine go_newS ?_; clear hw; intro s w hw))
        refine vc_cut [9, 34] (G := Nat) (fun j => [(9, .int .i64 j)]) (fun j w => (j = 2 * i + 1 ∨ j = 2 * i + 2) ∧ j < n ∧ (∀ c, 0 < c → c < n → (c - 1) / 2 = i → hle ilt (hg tItem.dflt ys j) (hg tItem.dflt ys c)) ∧ Sat w0 w (OS tItem 138 h ys :: Box q 135 [h] :: Γ)) (fun _ => rfl) ?_ ?_
        · repeat (first | refine go_run ?_ | (refine go_newP ?_; clear hw; intro p w hw) | (refine go_newW ?_; clear hw; intro w hw) | (refine go_newS ?_; clear hw; intro s w hw))
          refine ⟨2 * i + 2, ⟨?_, trivial⟩, by repeat (first | exact agree_refl | (apply agree_upd rfl) | (apply agree_mix rfl) | (apply agree_sets rfl)), .inr rfl, h2, fun c h0 h1 hc => ?_, hw⟩
          · show Value.int .i64 (2 * (i : Int) + 1 + 1) = _
            congr 1
          · have : c = 2 * i + 1 ∨ c = 2 * i + 2 := by omega
            rcases this with rfl | rfl
            · exact hle_of hL
            · exact hle_refl _
        · clear hw
          rintro σ1 j w ⟨hj, hjn, hmin, hw⟩
          repeat (first | refine go_run ?_ | (refine go_newP ?_; clear hw; intro p w hw) | (refine go_newW ?_; clear hw; intro w hw) | (refine go_newS ?_; clear hw; intro s w hw))
          refine st_invokeV (u := h) rfl rfl (hw.box0 inferInstance rfl) (qLess_spec (rsO hw) rfl rfl (show j < ys.length by omega) (show i < ys.length by omega)) ?_
          rintro _ w' ⟨rfl, hk⟩
          replace hw := hw.call0 hk
          clear hk
          cases hL : ilt (hg tItem.dflt ys j) (hg tItem.dflt ys i) with
          | false =>
            refine ⟨_, rfl, ?_⟩
            repeat (first | refine go_run ?_ | (refine go_newP ?_; clear hw; intro p w hw) | (refine go_newW ?_; clear hw; intro w hw) | (refine go_newS ?_; clear hw; intro s w hw))
            exact res_one (v := .bool _) rfl rfl ⟨_, ys, rfl, D.done hmin hL, hp, hkeep, hw⟩
          | true =>
            refine ⟨_, rfl, ?_⟩
            repeat (first | refine go_run ?_ | (refine go_newP ?_; clear hw; intro p w hw) | (refine go_newW ?_; clear hw; intro w hw) | (refine go_newS ?_; clear hw; intro s w hw))
            refine st_invokeV (u := h) rfl rfl (hw.box0 inferInstance rfl) (qSwap_spec rfl rfl (show i < ys.length by omega) (show j < ys.length by omega) hw) ?_
            clear hw
            rintro _ w ⟨rfl, hw⟩
            refine ⟨_, rfl, ?_⟩
            repeat (first | refine go_run ?_ | (refine go_newP ?_; clear hw; intro p w hw) | (refine go_newW ?_; clear hw; intro w hw) | (refine go_newS ?_; clear hw; intro s w hw))
            refine ⟨j, _, ⟨rfl, trivial⟩, by repeat (first | exact agree_refl | (apply agree_upd rfl) | (apply agree_mix rfl) | (apply agree_sets rfl)), ⟨D.step hj hjn hmin hL, by omega, (sw_perm (by omega) (by omega)).trans hp, fun k hk => ?_, hw⟩, by omega⟩
            rw [sw_get (by omega) (by omega), if_neg (by omega), if_neg (by omega)]
            exact hkeep k hk
      | false =>
        refine ⟨_, rfl, ?_⟩
        repeat (first | refine go_runC ?_ | (refine go_newP ?_; clear hw; intro p w hw) | (refine go_newW ?_; clear hw; intro w hw) | (refine go_newS ?_; clear hw; intro s w hw))
        refine vc_cut [9, 34] (G := Nat) (fun j => [(9, .int .i64 j)]) (fun j w => (j = 2 * i + 1 ∨ j = 2 * i + 2) ∧ j < n ∧ (∀ c, 0 < c → c < n → (c - 1) / 2 = i → hle ilt (hg tItem.dflt ys j) (hg tItem.dflt ys c)) ∧ Sat w0 w (OS tItem 138 h ys :: Box q 135 [h] :: Γ)) (fun _ => rfl) ?_ ?_
        · repeat (first | refine go_run ?_ | (refine go_newP ?_; clear hw; intro p w hw) | (refine go_newW ?_; clear hw; intro w hw) | (refine go_newS ?_; clear hw; intro s w hw))
          refine ⟨2 * i + 1, ⟨?_, trivial⟩, by repeat (first | exact agree_refl | (apply agree_upd rfl) | (apply agree_mix rfl) | (apply agree_sets rfl)), .inl rfl, hin', fun c h0 h1 hc => ?_, hw⟩
          · show Value.int .i64 (2 * (i : Int) + 1) = _
            congr 1
          · have : c = 2 * i + 1 ∨ c = 2 * i + 2 := by omega
            rcases this with rfl | rfl
            · exact hle_refl _
            · exact hL
        · clear hw
          rintro σ1 j w ⟨hj, hjn, hmin, hw⟩
          repeat (first | refine go_run ?_ | (refine go_newP ?_; clear hw; intro p w hw) | (refine go_newW ?_; clear hw; intro w hw) | (refine go_newS ?_; clear hw; intro s w hw))
          refine st_invokeV (u := h) rfl rfl (hw.box0 inferInstance rfl) (qLess_spec (rsO hw) rfl rfl (show j < ys.length by omega) (show i < ys.length by omega)) ?_
          rintro _ w' ⟨rfl, hk⟩
          replace hw := hw.call0 hk
          clear hk
          cases hL : ilt (hg tItem.dflt ys j) (hg tItem.dflt ys i) with
          | false =>
            refine ⟨_, rfl, ?_⟩
            repeat (first | refine go_run ?_ | (refine go_newP ?_; clear hw; intro p w hw) | (refine go_newW ?_; clear hw; intro w hw) | (refine go_newS ?_; clear hw; intro s w hw))
            exact res_one (v := .bool _) rfl rfl ⟨_, ys, rfl, D.done hmin hL, hp, hkeep, hw⟩
          | true =>
            refine ⟨_, rfl, ?_⟩
            repeat (first | refine go_run ?_ | (refine go_newP ?_; clear hw; intro p w hw) | (refine go_newW ?_; clear hw; intro w hw) | (refine go_newS ?_; clear hw; intro s w hw))
            refine st_invokeV (u := h) rfl rfl (hw.box0 inferInstance rfl) (qSwap_spec rfl rfl (show i < ys.length by omega) (show j < ys.length by omega) hw) ?_
            clear hw
            rintro _ w ⟨rfl, hw⟩
            refine ⟨_, rfl, ?_⟩
            repeat (first | refine go_run ?_ | (refine go_newP ?_; clear hw; intro p w hw) | (refine go_newW ?_; clear hw; intro w hw) | (refine go_newS ?_; clear hw; intro s w hw))
            refine ⟨j, _, ⟨rfl, trivial⟩, by repeat (first | exact agree_refl | (apply agree_upd rfl) | (apply agree_mix rfl) | (apply agree_sets rfl)), ⟨D.step hj hjn hmin hL, by omega, (sw_perm (by omega) (by omega)).trans hp, fun k hk => ?_, hw⟩, by omega⟩
            rw [sw_get (by omega) (by omega), if_neg (by omega), if_neg (by omega)]
            exact hkeep k hk
    · have hdec : decide (2 * (i : Int) + 1 + 1 < (n : Int)) = false := decide_eq_false (by omega)
      simp only [hdec]
      repeat (first | refine go_runC ?_ | (refine go_newP ?_; clear hw; intro p w hw) | (refine go_newW ?_; clear hw; intro w hw) | (refine go_newS ?_; clear hw; intro s w hw))
      refine vc_cut [9, 34] (G := Nat) (fun j => [(9, .int .i64 j)]) (fun j w => (j = 2 * i + 1 ∨ j = 2 * i + 2) ∧ j < n ∧ (∀ c, 0 < c → c < n → (c - 1) / 2 = i → hle ilt (hg tItem.dflt ys j) (hg tItem.dflt ys c)) ∧ Sat w0 w (OS tItem 138 h ys :: Box q 135 [h] :: Γ)) (fun _ => rfl) ?_ ?_
      · repeat (first | refine go_run ?_ | (refine go_newP ?_; clear hw; intro p w hw) | (refine go_newW ?_; clear hw; intro w hw) | (refine go_newS ?_; clear hw; intro s w hw))
        refine ⟨2 * i + 1, ⟨?_, trivial⟩, by repeat (first | exact agree_refl | (apply agree_upd rfl) | (apply agree_mix rfl) | (apply agree_sets rfl)), .inl rfl, hin', fun c h0 h1 hc => ?_, hw⟩
        · show Value.int .i64 (2 * (i : Int) + 1) = _
          congr 1
        · have : c = 2 * i + 1 := by omega
          subst this; exact hle_refl _
      · clear hw
        rintro σ1 j w ⟨hj, hjn, hmin, hw⟩
        repeat (first | refine go_run ?_ | (refine go_newP ?_; clear hw; intro p w hw) | (refine go_newW ?_; clear hw; intro w hw) | (refine go_newS ?_; clear hw; intro s w hw))
        refine st_invokeV (u := h) rfl rfl (hw.box0 inferInstance rfl) (qLess_spec (rsO hw) rfl rfl (show j < ys.length by omega) (show i < ys.length by omega)) ?_
        rintro _ w' ⟨rfl, hk⟩
        replace hw := hw.call0 hk
        clear hk
        cases hL : ilt (hg tItem.dflt ys j) (hg tItem.dflt ys i) with
        | false =>
          refine ⟨_, rfl, ?_⟩
          repeat (first | refine go_run ?_ | (refine go_newP ?_; clear hw; intro p w hw) | (refine go_newW ?_; clear hw; intro w hw) | (refine go_newS ?_; clear hw; intro s w hw))
          exact res_one (v := .bool _) rfl rfl ⟨_, ys, rfl, D.done hmin hL, hp, hkeep, hw⟩
        | true =>
          refine ⟨_, rfl, ?_⟩
          repeat (first | refine go_run ?_ | (refine go_newP ?_; clear hw; intro p w hw) | (refine go_newW ?_; clear hw; intro w hw) | (refine go_newS ?_; clear hw; intro s w hw))
          refine st_invokeV (u := h) rfl rfl (hw.box0 inferInstance rfl) (qSwap_spec rfl rfl (show i < ys.length by omega) (show j < ys.length by omega) hw) ?_
          clear hw
          rintro _ w ⟨rfl, hw⟩
          refine ⟨_, rfl, ?_⟩
          repeat (first | refine go_run ?_ | (refine go_newP ?_; clear hw; intro p w hw) | (refine go_newW ?_; clear hw; intro w hw) | (refine go_newS ?_; clear hw; intro s w hw))
          refine ⟨j, _, ⟨rfl, trivial⟩, by repeat (first | exact agree_refl | (apply agree_upd rfl) | (apply agree_mix rfl) | (apply agree_sets rfl)), ⟨D.step hj hjn hmin hL, by omega, (sw_perm (by omega) (by omega)).trans hp, fun k hk => ?_, hw⟩, by omega⟩
          rw [sw_get (by omega) (by omega), if_neg (by omega), if_neg (by omega)]
          exact hkeep k hk

set_option maxRecDepth 8000 in
theorem qheapPush_spec {w0 w : World} {Γ : List HP} {q : Addr} {h : Value} {xs : List Item} {v : Item} (H : IsHeap tItem.dflt ilt xs) (hb : xs.length < 1048576) (hw : Sat w0 w (OS tItem 138 h xs :: Box q 135 [h] :: Γ)) :
    Calls Tryz.prog 77 #[.iface 133 (.pointer (some q)), .iface 138 (.agg #[.int .i64 v.dist, .int .i64 v.state])] w fun e w' => e = .returned (.tuple #[]) ∧ ∃ h' ys, IsHeap tItem.dflt ilt ys ∧ ys.Perm (v :: xs) ∧ Sat w0 w' (OS tItem 138 h' ys :: Box q 135 [h'] :: Γ) := by
  refine calls_of_vc (args := [.iface 133 (.pointer (some q)), .iface 138 (.agg #[.int .i64 v.dist, .int .i64 v.state])]) mixed Tryz.func77 rfl (by kernel_rfl) (Nat.le_of_ble_eq_true rfl) ?_
  repeat (first | refine go_run ?_ | (refine go_newP ?_; clear hw; intro p w hw) | (refine go_newW ?_; clear hw; intro w hw) | (refine go_newS ?_; clear hw; intro s w hw))
  refine st_invokeP rfl rfl (qPush_spec (v := v) (by omega) hw) ?_
  clear hw
  rintro _ w ⟨rfl, h', hw⟩
  refine ⟨_, rfl, ?_⟩
  repeat (first | refine go_run ?_ | (refine go_newP ?_; clear hw; intro p w hw) | (refine go_newW ?_; clear hw; intro w hw) | (refine go_newS ?_; clear hw; intro s w hw))
  refine st_invokeV (u := h') rfl rfl (hw.box0 inferInstance rfl) (qLen_spec (rsO hw)) ?_
  rintro _ w' ⟨rfl, hk⟩
  replace hw := hw.call0 hk
  clear hk
  refine ⟨_, rfl, ?_⟩
  have hl : (xs ++ [v]).length = xs.length + 1 := by simp
  repeat (first | refine go_run ?_ | (refine go_newP ?_; clear hw; intro p w hw) | (refine go_newW ?_; clear hw; intro w hw) | (refine go_newS ?_; clear hw; intro s w hw))
  refine st_call rfl (qup_spec (j := xs.length) (by rw [hl]; omega) (upI_push H) (by omega) hw) ?_
  clear hw
  rintro _ w ⟨rfl, ys, h1, h2, hw⟩
  refine ⟨_, rfl, ?_⟩
  repeat (first | refine go_run ?_ | (refine go_newP ?_; clear hw; intro p w hw) | (refine go_newW ?_; clear hw; intro w hw) | (refine go_newS ?_; clear hw; intro s w hw))
  exact res_none' rfl ⟨rfl, h', ys, h1, h2.trans (List.perm_append_comm (l₁ := xs) (l₂ := [v])), hw⟩

set_option maxRecDepth 8000 in
theorem qheapPop_spec {w0 w : World} {Γ : List HP} {q : Addr} {h : Value} {xs : List Item} (H : IsHeap tItem.dflt ilt xs) (hl : 0 < xs.length) (hb : xs.length ≤ 1048576) (hw : Sat w0 w (OS tItem 138 h xs :: Box q 135 [h] :: Γ)) :
    Calls Tryz.prog 79 #[.iface 133 (.pointer (some q))] w fun e w' => ∃ v h' ys, e = .returned (.iface 138 (.agg #[.int .i64 v.dist, .int .i64 v.state])) ∧ IsHeap tItem.dflt ilt ys ∧ xs.Perm (v :: ys) ∧ (∀ x ∈ xs, hle ilt v x) ∧ Sat w0 w' (OS tItem 138 h' ys :: Box q 135 [h'] :: Γ) := by
  refine calls_of_vc (args := [.iface 133 (.pointer (some q))]) mixed Tryz.func79 rfl (by kernel_rfl) (Nat.le_of_ble_eq_true rfl) ?_
  repeat (first | refine go_run ?_ | (refine go_newP ?_; clear hw; intro p w hw) | (refine go_newW ?_; clear hw; intro w hw) | (refine go_newS ?_; clear hw; intro s w hw))
  refine st_invokeV (u := h) rfl rfl (hw.box0 inferInstance rfl) (qLen_spec (rsO hw)) ?_
  rintro _ w' ⟨rfl, hk⟩
  replace hw := hw.call0 hk
  clear hk
  refine ⟨_, rfl, ?_⟩
  repeat (first | refine go_run ?_ | (refine go_newP ?_; clear hw; intro p w hw) | (refine go_newW ?_; clear hw; intro w hw) | (refine go_newS ?_; clear hw; intro s w hw))
  refine st_invokeV (u := h) rfl rfl (hw.box0 inferInstance rfl) (qSwap_spec (i := 0) (j := xs.length - 1) rfl (by omega) hl (by omega) hw) ?_
  clear hw
  rintro _ w ⟨rfl, hw⟩
  refine ⟨_, rfl, ?_⟩
  repeat (first | refine go_run ?_ | (refine go_newP ?_; clear hw; intro p w hw) | (refine go_newW ?_; clear hw; intro w hw) | (refine go_newS ?_; clear hw; intro s w hw))
  refine st_call rfl (qdown_spec (n := xs.length - 1) (by omega) (dnI_pop H hl) (by rw [sw_len]; exact hb) hw) ?_
  clear hw
  rintro _ w ⟨b, ys, rfl, h1, h2, h3, hw⟩
  have hp := h2.trans (sw_perm hl (show xs.length - 1 < xs.length by omega))
  have hyl := hp.length_eq
  refine ⟨_, rfl, ?_⟩
  repeat (first | refine go_run ?_ | (refine go_newP ?_; clear hw; intro p w hw) | (refine go_newW ?_; clear hw; intro w hw) | (refine go_newS ?_; clear hw; intro s w hw))
  refine st_invokeP rfl rfl (qPop_spec (by omega) (by omega) hw) ?_
  clear hw
  rintro _ w ⟨rfl, h', hw⟩
  refine ⟨_, rfl, ?_⟩
  repeat (first | refine go_run ?_ | (refine go_newP ?_; clear hw; intro p w hw) | (refine go_newW ?_; clear hw; intro w hw) | (refine go_newS ?_; clear hw; intro s w hw))
  have hlast : hg tItem.dflt ys (xs.length - 1) = hg tItem.dflt xs 0 := by
    rw [h3 _ (Nat.le_refl _), sw_get hl (by omega), if_pos rfl]
  obtain ⟨hh, hpp⟩ := pop_rest hl hp h1 hlast
  rw [hyl] at hw
  refine res_one (v := .iface 138 ((.agg #[.int .i64 (hg tItem.dflt ys (ys.length - 1)).dist, .int .i64 (hg tItem.dflt ys (ys.length - 1)).state]))) rfl rfl ⟨hg tItem.dflt xs 0, h', _, by rw [hyl, hlast], hh, hpp, fun x hx => root_mem H hx, hw⟩
end Go.Proofs.YtemnlcnjpjdoaaaGreatDoor

/-
  Contracts of the package 'task': 'Proper', 'Facts', 'Holds', 'named', 'conditions', 'large', 'Check'.
-/
namespace Go.Proofs.YtemnlcnjpjdoaaaGreatDoor
open Go.Sl
attribute [local irreducible] vc opsW opsD opV opW PureV ReadV Thn Blk

set_option maxRecDepth 8000 in
theorem tProper_spec {w0 : World} {a b : Value} {vars s : List Int} (ha : RS tInt w0 a vars) (hb : RS tInt w0 b s) :
    Calls Tryz.prog 47 #[a, b] w0 fun e w' => (∃ r, e = .returned (.bool r) ∧ (r = true ↔ StateOk vars s)) ∧ Sat w0 w' [] := by
  have hla := ha.big
  have hlb := hb.big
  have hw := Sat.start w0
  refine calls_of_vc (args := [a, b]) mixed Tryz.func47 rfl (by kernel_rfl) (Nat.le_of_ble_eq_true rfl) ?_
  repeat (first | refine go_run ?_ | (refine go_newP ?_; clear hw; intro p w hw) | (refine go_newW ?_; clear hw; intro w hw) | (refine go_newS ?_; clear hw; intro s w hw))
  refine go_if (fun h0 => ?_) (fun h0 => ?_)
  · repeat (first | refine go_run ?_ | (refine go_newP ?_; clear hw; intro p w hw) | (refine go_newW ?_; clear hw; intro w hw) | (refine go_newS ?_; clear hw; intro s w hw))
    refine res_one (v := .bool false) rfl rfl ⟨⟨false, rfl, iffF fun h => ?_⟩, hw⟩
    exact absurd (by have := h.1; omega) h0
  · repeat (first | refine go_run ?_ | (refine go_newP ?_; clear hw; intro p w hw) | (refine go_newW ?_; clear hw; intro w hw) | (refine go_newS ?_; clear hw; intro s w hw))
    refine vc_loop [4, 5, 6, 14, 15, 16, 17, 18, 19, 20, 21, 22, 23, 24, 25, 26, 27, 28, 29] (G := Nat) (fun k => [(14, .int .i64 k)]) (fun k w => k ≤ s.length ∧ (∀ i, i < k → 0 ≤ s.getD i tInt.dflt ∧ s.getD i tInt.dflt < vars.getD i tInt.dflt) ∧ Sat w0 w []) (fun k => s.length - k) 0 (fun _ => rfl) ⟨rfl, trivial⟩ ⟨Nat.zero_le _, fun i hi => absurd hi (Nat.not_lt_zero _), hw⟩ ?_
    clear hw
    rintro σ k w ⟨hk, hpre, hw⟩
    repeat (first | refine go_run ?_ | (refine go_newP ?_; clear hw; intro p w hw) | (refine go_newW ?_; clear hw; intro w hw) | (refine go_newS ?_; clear hw; intro s w hw))
    refine go_if (fun h1 => ?_) (fun h1 => ?_)
    · repeat (first | refine go_run ?_ | (refine go_newP ?_; clear hw; intro p w hw) | (refine go_newW ?_; clear hw; intro w hw) | (refine go_newS ?_; clear hw; intro s w hw))
      refine go_if (fun h2 => ?_) (fun h2 => ?_)
      · repeat (first | refine go_run ?_ | (refine go_newP ?_; clear hw; intro p w hw) | (refine go_newW ?_; clear hw; intro w hw) | (refine go_newS ?_; clear hw; intro s w hw))
        refine res_one (v := .bool false) rfl rfl ⟨⟨false, rfl, iffF fun h => ?_⟩, hw⟩
        have := h.2 k (by omega)
        omega
      · repeat (first | refine go_run ?_ | (refine go_newP ?_; clear hw; intro p w hw) | (refine go_newW ?_; clear hw; intro w hw) | (refine go_newS ?_; clear hw; intro s w hw))
        refine ⟨k + 1, ⟨rfl, trivial⟩, by repeat (first | exact agree_refl | (apply agree_upd rfl) | (apply agree_mix rfl) | (apply agree_sets rfl)), ⟨by omega, fun i hi => ?_, hw⟩, by omega⟩
        by_cases h : i = k
        · subst h; omega
        · exact hpre i (by omega)
    · repeat (first | refine go_run ?_ | (refine go_newP ?_; clear hw; intro p w hw) | (refine go_newW ?_; clear hw; intro w hw) | (refine go_newS ?_; clear hw; intro s w hw))
      exact res_one (v := .bool true) rfl rfl ⟨⟨true, rfl, iffT ⟨by omega, fun i hi => hpre i (by omega)⟩⟩, hw⟩

set_option maxRecDepth 8000 in
set_option maxHeartbeats 1000000 in
theorem tFacts_spec {w0 : World} {a b : Value} {vars : List Int} {f : List Fact} (ha : RS tInt w0 a vars) (hb : RS tFact w0 b f) :
    Calls Tryz.prog 64 #[a, b] w0 fun e w' => (∃ r, e = .returned (.bool r) ∧ (r = true ↔ FactsOk vars f)) ∧ Sat w0 w' [] := by
  have hla := ha.big
  have hlb := hb.big
  have hw := Sat.start w0
  refine calls_of_vc (args := [a, b]) mixed Tryz.func64 rfl (by kernel_rfl) (Nat.le_of_ble_eq_true rfl) ?_
  repeat (first | refine go_run ?_ | (refine go_newP ?_; clear hw; intro p w hw) | (refine go_newW ?_; clear hw; intro w hw) | (refine go_newS ?_; clear hw; intro s w hw))
  refine vc_loop2 [4, 5, 7, 10, 11, 12, 13, 14, 15, 16, 17, 18, 19, 20, 21, 22, 23, 24, 25, 26, 27, 28, 29, 30, 31, 32, 33, 34, 35, 36, 37, 38, 39, 40, 41, 42] (G := Nat) (H := Int) (fun k l => [(10, .int .i64 k), (5, .int .i64 l)]) (fun k l w => k ≤ f.length ∧ -1 ≤ l ∧ (l = if k = 0 then -1 else (f.getD (k - 1) tFact.dflt).var) ∧ (∀ i, i < k → FactOk vars (f.getD i tFact.dflt) ∧ (0 < i → (f.getD (i - 1) tFact.dflt).var < (f.getD i tFact.dflt).var)) ∧ Sat w0 w []) (fun k l => f.length - k) 0 (-1) (fun _ _ => rfl) ⟨rfl, rfl, trivial⟩ ⟨Nat.zero_le _, by omega, rfl, fun i hi => absurd hi (Nat.not_lt_zero _), hw⟩ ?_
  clear hw
  rintro σ k l w ⟨hk, hl1, hl2, hpre, hw⟩
  repeat (first | refine go_run ?_ | (refine go_newP ?_; clear hw; intro p w hw) | (refine go_newW ?_; clear hw; intro w hw) | (refine go_newS ?_; clear hw; intro s w hw))
  refine go_if (fun h1 => ?_) (fun h1 => ?_)
  · repeat (first | refine go_run ?_ | (refine go_newP ?_; clear hw; intro p w hw) | (refine go_newW ?_; clear hw; intro w hw) | (refine go_newS ?_; clear hw; intro s w hw))
    refine go_if (fun h2 => ?_) (fun h2 => ?_)
    · repeat (first | refine go_run ?_ | (refine go_newP ?_; clear hw; intro p w hw) | (refine go_newW ?_; clear hw; intro w hw) | (refine go_newS ?_; clear hw; intro s w hw))
      refine res_one (v := .bool false) rfl rfl ⟨⟨false, rfl, iffF fun h => ?_⟩, hw.tail⟩
      have := h k (by omega)
      unfold FactOk at this
      split at hl2 <;> omega
    · repeat (first | refine go_run ?_ | (refine go_newP ?_; clear hw; intro p w hw) | (refine go_newW ?_; clear hw; intro w hw) | (refine go_newS ?_; clear hw; intro s w hw))
      refine ⟨k + 1, _, ⟨rfl, rfl, trivial⟩, by repeat (first | exact agree_refl | (apply agree_upd rfl) | (apply agree_mix rfl) | (apply agree_sets rfl)), ⟨by omega, by omega, by simp, fun i hi => ?_, hw.tail⟩, by omega⟩
      by_cases h : i = k
      · subst h
        unfold FactOk
        split at hl2 <;> omega
      · exact hpre i (by omega)
  · repeat (first | refine go_run ?_ | (refine go_newP ?_; clear hw; intro p w hw) | (refine go_newW ?_; clear hw; intro w hw) | (refine go_newS ?_; clear hw; intro s w hw))
    exact res_one (v := .bool true) rfl rfl ⟨⟨true, rfl, iffT fun i hi => hpre i (by omega)⟩, hw⟩

set_option maxRecDepth 8000 in
set_option maxHeartbeats 1000000 in
theorem tHolds_spec {w0 : World} {a b : Value} {f : List Fact} {s : List Int} (ha : RS tFact w0 a f) (hb : RS tInt w0 b s) :
    Calls Tryz.prog 91 #[a, b] w0 fun e w' => (∃ r, e = .returned (.bool r) ∧ (r = true ↔ HoldFs s f)) ∧ Sat w0 w' [] := by
  have hla := ha.big
  have hlb := hb.big
  have hw := Sat.start w0
  refine calls_of_vc (args := [a, b]) mixed Tryz.func91 rfl (by kernel_rfl) (Nat.le_of_ble_eq_true rfl) ?_
  repeat (first | refine go_run ?_ | (refine go_newP ?_; clear hw; intro p w hw) | (refine go_newW ?_; clear hw; intro w hw) | (refine go_newS ?_; clear hw; intro s w hw))
  refine vc_loop [4, 6, 9, 10, 11, 12, 13, 14, 15, 16, 17, 18, 19, 20, 21, 22, 23, 24, 25, 26, 27, 28, 29, 30, 31, 32, 33] (G := Nat) (fun k => [(9, .int .i64 k)]) (fun k w => k ≤ f.length ∧ (∀ i, i < k → HoldF s (f.getD i tFact.dflt)) ∧ Sat w0 w []) (fun k => f.length - k) 0 (fun _ => rfl) ⟨rfl, trivial⟩ ⟨Nat.zero_le _, fun i hi => absurd hi (Nat.not_lt_zero _), hw⟩ ?_
  clear hw
  rintro σ k w ⟨hk, hpre, hw⟩
  repeat (first | refine go_run ?_ | (refine go_newP ?_; clear hw; intro p w hw) | (refine go_newW ?_; clear hw; intro w hw) | (refine go_newS ?_; clear hw; intro s w hw))
  refine go_if (fun h1 => ?_) (fun h1 => ?_)
  · repeat (first | refine go_run ?_ | (refine go_newP ?_; clear hw; intro p w hw) | (refine go_newW ?_; clear hw; intro w hw) | (refine go_newS ?_; clear hw; intro s w hw))
    refine go_if (fun h2 => ?_) (fun h2 => ?_)
    · repeat (first | refine go_run ?_ | (refine go_newP ?_; clear hw; intro p w hw) | (refine go_newW ?_; clear hw; intro w hw) | (refine go_newS ?_; clear hw; intro s w hw))
      refine res_one (v := .bool false) rfl rfl ⟨⟨false, rfl, iffF fun h => ?_⟩, hw.tail⟩
      have := h k (by omega)
      unfold HoldF at this
      omega
    · repeat (first | refine go_run ?_ | (refine go_newP ?_; clear hw; intro p w hw) | (refine go_newW ?_; clear hw; intro w hw) | (refine go_newS ?_; clear hw; intro s w hw))
      refine ⟨k + 1, ⟨rfl, trivial⟩, by repeat (first | exact agree_refl | (apply agree_upd rfl) | (apply agree_mix rfl) | (apply agree_sets rfl)), ⟨by omega, fun i hi => ?_, hw.tail⟩, by omega⟩
      by_cases h : i = k
      · subst h; unfold HoldF; omega
      · exact hpre i (by omega)
  · repeat (first | refine go_run ?_ | (refine go_newP ?_; clear hw; intro p w hw) | (refine go_newW ?_; clear hw; intro w hw) | (refine go_newS ?_; clear hw; intro s w hw))
    exact res_one (v := .bool true) rfl rfl ⟨⟨true, rfl, iffT fun i hi => hpre i (by omega)⟩, hw⟩

set_option maxRecDepth 8000 in
theorem named_spec {w0 : World} {b : ByteArray} (hb : b.size ≤ 9223372036854775807) :
    Calls Tryz.prog 65 #[.string b] w0 fun e w' => (∃ r, e = .returned (.bool r) ∧ (r = true ↔ NameOk b)) ∧ Sat w0 w' [] := by
  have hw := Sat.start w0
  refine calls_of_vc (args := [.string b]) mixed Tryz.func65 rfl (by kernel_rfl) (Nat.le_of_ble_eq_true rfl) ?_
  repeat (first | refine go_run ?_ | (refine go_newP ?_; clear hw; intro p w hw) | (refine go_newW ?_; clear hw; intro w hw) | (refine go_newS ?_; clear hw; intro s w hw))
  refine vc_loop [2, 3, 6, 7, 8, 9, 10, 11, 12, 13, 14, 15, 16, 17, 18, 19] (G := Nat) (fun k => [(6, .int .i64 k)]) (fun k w => k ≤ b.size ∧ (∀ i, i < k → 32 ≤ bat b i ∧ bat b i ≤ 126) ∧ Sat w0 w []) (fun k => b.size - k) 0 (fun _ => rfl) ⟨rfl, trivial⟩ ⟨Nat.zero_le _, fun i hi => absurd hi (Nat.not_lt_zero _), hw⟩ ?_
  clear hw
  rintro σ k w ⟨hk, hpre, hw⟩
  repeat (first | refine go_run ?_ | (refine go_newP ?_; clear hw; intro p w hw) | (refine go_newW ?_; clear hw; intro w hw) | (refine go_newS ?_; clear hw; intro s w hw))
  refine go_if (fun h1 => ?_) (fun h1 => ?_)
  · repeat (first | refine go_run ?_ | (refine go_newP ?_; clear hw; intro p w hw) | (refine go_newW ?_; clear hw; intro w hw) | (refine go_newS ?_; clear hw; intro s w hw))
    refine go_if (fun h2 => ?_) (fun h2 => ?_)
    · repeat (first | refine go_run ?_ | (refine go_newP ?_; clear hw; intro p w hw) | (refine go_newW ?_; clear hw; intro w hw) | (refine go_newS ?_; clear hw; intro s w hw))
      refine res_one (v := .bool false) rfl rfl ⟨⟨false, rfl, iffF fun h => ?_⟩, hw⟩
      have := h.2 k (by omega)
      omega
    · repeat (first | refine go_run ?_ | (refine go_newP ?_; clear hw; intro p w hw) | (refine go_newW ?_; clear hw; intro w hw) | (refine go_newS ?_; clear hw; intro s w hw))
      refine ⟨k + 1, ⟨rfl, trivial⟩, by repeat (first | exact agree_refl | (apply agree_upd rfl) | (apply agree_mix rfl) | (apply agree_sets rfl)), ⟨by omega, fun i hi => ?_, hw⟩, by omega⟩
      by_cases h : i = k
      · subst h; omega
      · exact hpre i (by omega)
  · repeat (first | refine go_run ?_ | (refine go_newP ?_; clear hw; intro p w hw) | (refine go_newW ?_; clear hw; intro w hw) | (refine go_newS ?_; clear hw; intro s w hw))
    refine res_one (v := .bool (decide ((b.size : Int) ≤ 256))) rfl rfl ⟨⟨_, rfl, ?_⟩, hw⟩
    rw [decide_eq_true_eq]
    exact ⟨fun h => ⟨by omega, fun i hi => hpre i (by omega)⟩, fun h => by have := h.1; omega⟩
end Go.Proofs.YtemnlcnjpjdoaaaGreatDoor

/-
  Contracts of the helpers 'Ints', 'Is', 'Many', 'Small', 'Apply', 'Rank'.
-/
namespace Go.Proofs.YtemnlcnjpjdoaaaGreatDoor
open Go.Sl
attribute [local irreducible] vc opsW opsD opV opW PureV ReadV Thn Blk

theorem list_eq_of {xs ys : List Int} (hl : xs.length = ys.length) (h : ∀ i, i < xs.length → xs.getD i tInt.dflt = ys.getD i tInt.dflt) : xs = ys := by
  apply List.ext_getElem hl
  intro i h1 h2
  have := h i h1
  rwa [getD_at h1, getD_at h2] at this

set_option maxRecDepth 8000 in
theorem Ints_spec {w0 : World} {a b : Value} {xs ys : List Int} (ha : RS tInt w0 a xs) (hb : RS tInt w0 b ys) :
    Calls Tryz.prog 37 #[a, b] w0 fun e w' => (∃ r, e = .returned (.bool r) ∧ (r = true ↔ xs = ys)) ∧ Sat w0 w' [] := by
  have hla := ha.big
  have hlb := hb.big
  have hw := Sat.start w0
  refine calls_of_vc (args := [a, b]) mixed Tryz.func37 rfl (by kernel_rfl) (Nat.le_of_ble_eq_true rfl) ?_
  repeat (first | refine go_run ?_ | (refine go_newP ?_; clear hw; intro p w hw) | (refine go_newW ?_; clear hw; intro w hw) | (refine go_newS ?_; clear hw; intro s w hw))
  refine go_if (fun h0 => ?_) (fun h0 => ?_)
  · repeat (first | refine go_run ?_ | (refine go_newP ?_; clear hw; intro p w hw) | (refine go_newW ?_; clear hw; intro w hw) | (refine go_newS ?_; clear hw; intro s w hw))
    refine res_one (v := .bool false) rfl rfl ⟨⟨false, rfl, iffF fun h => ?_⟩, hw⟩
    subst h
    omega
  · repeat (first | refine go_run ?_ | (refine go_newP ?_; clear hw; intro p w hw) | (refine go_newW ?_; clear hw; intro w hw) | (refine go_newS ?_; clear hw; intro s w hw))
    refine vc_loop [4, 5, 13, 14, 15, 16, 17, 18, 19, 20, 21, 22, 23, 24, 25] (G := Nat) (fun k => [(13, .int .i64 k)]) (fun k w => k ≤ xs.length ∧ (∀ i, i < k → xs.getD i tInt.dflt = ys.getD i tInt.dflt) ∧ Sat w0 w []) (fun k => xs.length - k) 0 (fun _ => rfl) ⟨rfl, trivial⟩ ⟨Nat.zero_le _, fun i hi => absurd hi (Nat.not_lt_zero _), hw⟩ ?_
    clear hw
    rintro σ k w ⟨hk, hpre, hw⟩
    repeat (first | refine go_run ?_ | (refine go_newP ?_; clear hw; intro p w hw) | (refine go_newW ?_; clear hw; intro w hw) | (refine go_newS ?_; clear hw; intro s w hw))
    refine go_if (fun h1 => ?_) (fun h1 => ?_)
    · repeat (first | refine go_run ?_ | (refine go_newP ?_; clear hw; intro p w hw) | (refine go_newW ?_; clear hw; intro w hw) | (refine go_newS ?_; clear hw; intro s w hw))
      refine go_if (fun h2 => ?_) (fun h2 => ?_)
      · repeat (first | refine go_run ?_ | (refine go_newP ?_; clear hw; intro p w hw) | (refine go_newW ?_; clear hw; intro w hw) | (refine go_newS ?_; clear hw; intro s w hw))
        refine res_one (v := .bool false) rfl rfl ⟨⟨false, rfl, iffF fun h => ?_⟩, hw⟩
        subst h
        exact h2 rfl
      · repeat (first | refine go_run ?_ | (refine go_newP ?_; clear hw; intro p w hw) | (refine go_newW ?_; clear hw; intro w hw) | (refine go_newS ?_; clear hw; intro s w hw))
        refine ⟨k + 1, ⟨rfl, trivial⟩, by repeat (first | exact agree_refl | (apply agree_upd rfl) | (apply agree_mix rfl) | (apply agree_sets rfl)), ⟨by omega, fun i hi => ?_, hw⟩, by omega⟩
        by_cases h : i = k
        · subst h; omega
        · exact hpre i (by omega)
    · repeat (first | refine go_run ?_ | (refine go_newP ?_; clear hw; intro p w hw) | (refine go_newW ?_; clear hw; intro w hw) | (refine go_newS ?_; clear hw; intro s w hw))
      exact res_one (v := .bool true) rfl rfl ⟨⟨true, rfl, iffT (list_eq_of (by omega) fun i hi => hpre i (by omega))⟩, hw⟩

theorem many_step {n k m : Int} (hn : 1 ≤ n) (hk : 1 ≤ k) (hm : n ≤ m) (h0 : m ≤ 65536) : let x := n * (if m + 1 < (if 0 > k then 0 else k) then m + 1 else (if 0 > k then 0 else k))
    0 ≤ x ∧ x ≤ 4295098368 ∧ (x ≤ m → x = n * k) ∧ (m < x → m < n * k) := by
  intro x
  have e : x = n * min k (m + 1) := by
    show n * (if m + 1 < (if 0 > k then 0 else k) then m + 1 else (if 0 > k then 0 else k)) = _
    have hk0 : (if 0 > k then 0 else k) = k := if_neg (by omega)
    rw [hk0]
    congr 1
    split <;> omega
  have h2 : n * min k (m + 1) ≤ 65536 * 65537 := Int.mul_le_mul (by omega) (by omega) (by omega) (by omega)
  have h3 : 0 ≤ n * min k (m + 1) := Int.mul_nonneg (by omega) (by omega)
  refine ⟨by omega, by omega, fun h => ?_, fun h => ?_⟩
  · rw [e] at h ⊢
    by_cases hh : k ≤ m + 1
    · rw [Int.min_eq_left hh]
    · rw [Int.min_eq_right (by omega)] at h
      have : 1 * (m + 1) ≤ n * (m + 1) := Int.mul_le_mul_of_nonneg_right hn (by omega)
      omega
  · rw [e] at h
    have : n * min k (m + 1) ≤ n * k := Int.mul_le_mul_of_nonneg_left (by omega) (by omega)
    omega
def manyL (vars : List Int) (m : Int) : Int := if prodL vars ≤ m then prodL vars else m + 1
set_option maxRecDepth 8000 in
theorem Many_spec {w0 : World} {a : Value} {vars : List Int} {m : Int} (ha : RS tInt w0 a vars) (hp : ∀ x ∈ vars, 1 ≤ x) (hm1 : 1 ≤ m) (hm2 : m ≤ 65536) :
    Calls Tryz.prog 35 #[a, .int .i64 m] w0 fun e w' => e = .returned (.int .i64 (manyL vars m)) ∧ Sat w0 w' [] := by
  have hla := ha.big
  have hw := Sat.start w0
  refine calls_of_vc (args := [a, .int .i64 m]) mixed Tryz.func35 rfl (by kernel_rfl) (Nat.le_of_ble_eq_true rfl) ?_
  repeat (first | refine go_run ?_ | (refine go_newP ?_; clear hw; intro p w hw) | (refine go_newW ?_; clear hw; intro w hw) | (refine go_newS ?_; clear hw; intro s w hw))
  refine vc_loop2 [4, 5, 7, 10, 11, 12, 13, 14, 15, 16, 17, 18, 19, 20, 21, 22, 23, 24, 25, 26] (G := Nat) (H := Int) (fun k n => [(10, .int .i64 k), (5, .int .i64 n)]) (fun k n w => k ≤ vars.length ∧ n = prodL (vars.take k) ∧ n ≤ m ∧ Sat w0 w []) (fun k _ => vars.length - k) 0 1 (fun _ _ => rfl) ⟨rfl, rfl, trivial⟩ ⟨Nat.zero_le _, rfl, hm1, hw⟩ ?_
  clear hw
  rintro σ k n w ⟨hk, hn, hnm, hw⟩
  repeat (first | refine go_run ?_ | (refine go_newP ?_; clear hw; intro p w hw) | (refine go_newW ?_; clear hw; intro w hw) | (refine go_newS ?_; clear hw; intro s w hw))
  refine go_if (fun h1 => ?_) (fun h1 => ?_)
  · have hkl : k < vars.length := by omega
    have hx := hp _ (mem_getD tInt.dflt hkl)
    have hpos : 1 ≤ n := by rw [hn]; exact prodL_pos fun x hx => hp x (List.mem_of_mem_take hx)
    obtain ⟨b0, b1, b2, b3⟩ := many_step hpos hx hnm hm2
    have hs : prodL (vars.take (k + 1)) = n * vars.getD k tInt.dflt := by rw [take_snoc tInt.dflt hkl, prodL_snoc, hn]
    repeat (first | refine go_run ?_ | (refine go_newP ?_; clear hw; intro p w hw) | (refine go_newW ?_; clear hw; intro w hw) | (refine go_newS ?_; clear hw; intro s w hw))
    refine go_if (fun h2 => ?_) (fun h2 => ?_)
    · repeat (first | refine go_run ?_ | (refine go_newP ?_; clear hw; intro p w hw) | (refine go_newW ?_; clear hw; intro w hw) | (refine go_newS ?_; clear hw; intro s w hw))
      refine res_one (v := .int .i64 (m + 1)) rfl rfl ⟨?_, hw⟩
      have h3 := b3 (by omega)
      have h4 : prodL (vars.take (k + 1)) ≤ prodL vars := by
        have := prodL_mono (l := vars.take (k + 1)) (m := vars.drop (k + 1)) (fun x hx => hp x (List.mem_of_mem_drop hx)) (fun x hx => hp x (List.mem_of_mem_take hx))
        rwa [List.take_append_drop] at this
      rw [manyL, if_neg (by omega)]
    · repeat (first | refine go_run ?_ | (refine go_newP ?_; clear hw; intro p w hw) | (refine go_newW ?_; clear hw; intro w hw) | (refine go_newS ?_; clear hw; intro s w hw))
      refine ⟨k + 1, _, ⟨rfl, rfl, trivial⟩, by repeat (first | exact agree_refl | (apply agree_upd rfl) | (apply agree_mix rfl) | (apply agree_sets rfl)), ⟨by omega, ?_, by omega, hw⟩, by omega⟩
      rw [hs]; exact b2 (by omega)
  · repeat (first | refine go_run ?_ | (refine go_newP ?_; clear hw; intro p w hw) | (refine go_newW ?_; clear hw; intro w hw) | (refine go_newS ?_; clear hw; intro s w hw))
    refine res_one (v := .int .i64 n) rfl rfl ⟨?_, hw⟩
    rw [List.take_of_length_le (by omega)] at hn
    rw [manyL, ← hn, if_pos hnm]

set_option maxRecDepth 8000 in
set_option maxHeartbeats 2000000 in
theorem Small_spec {w0 : World} {a b c d : Value} {vs : List OpV} {t : TTask} (ht : RTask w0 a b c d vs t) :
    Calls Tryz.prog 9 #[.agg #[a, b, c, d]] w0 fun e w' => (∃ r, e = .returned (.bool r) ∧ (r = true ↔ SmallT t)) ∧ Sat w0 w' [] := by
  have ht' := ht
  obtain ⟨ha, hb, hc, hd⟩ := ht
  have hrs := hd.rs
  have hdl := hd.len
  have hla := ha.big
  have hll := hrs.big
  have hw := Sat.start w0
  refine calls_of_vc (args := [.agg #[a, b, c, d]]) mixed Tryz.func9 rfl (by kernel_rfl) (Nat.le_of_ble_eq_true rfl) ?_
  repeat (first | refine go_run ?_ | (refine go_newP ?_; clear hw; intro p w hw) | (refine go_newW ?_; clear hw; intro w hw) | (refine go_newS ?_; clear hw; intro s w hw))
  refine go_if (fun h1 => ?_) (fun h1 => ?_)
  · repeat (first | refine go_run ?_ | (refine go_newP ?_; clear hw; intro p w hw) | (refine go_newW ?_; clear hw; intro w hw) | (refine go_newS ?_; clear hw; intro s w hw))
    refine res_one (v := .bool false) rfl rfl ⟨⟨false, rfl, iffF fun h => ?_⟩, hw.tail⟩
    have := h.vars
    have := h.ops
    omega
  · repeat (first | refine go_run ?_ | (refine go_newP ?_; clear hw; intro p w hw) | (refine go_newW ?_; clear hw; intro w hw) | (refine go_newS ?_; clear hw; intro s w hw))
    obtain ⟨pt, hpt⟩ : ∃ pt, pt = p := ⟨p, rfl⟩
    subst hpt
    refine vc_loop [2, 4, 18, 19, 20, 21, 22, 23, 24, 25, 26] (G := Nat) (fun k => [(18, .int .i64 k)]) (fun k w => k ≤ t.ops.length ∧ (∀ i, i < k → (t.ops.getD i dOp).effs.length ≤ 8) ∧ Sat w0 w [Box pt 26 [a, b, c, d]]) (fun k => t.ops.length - k) 0 (fun _ => rfl) ⟨rfl, trivial⟩ ⟨Nat.zero_le _, fun i hi => absurd hi (Nat.not_lt_zero _), hw⟩ ?_
    clear hw
    rintro σ k w ⟨hk, hef, hw⟩
    repeat (first | refine go_run ?_ | (refine go_newP ?_; clear hw; intro p w hw) | (refine go_newW ?_; clear hw; intro w hw) | (refine go_newS ?_; clear hw; intro s w hw))
    refine go_if (fun h2 => ?_) (fun h2 => ?_)
    · have hop := hd.at_ k (by omega)
      have hone := hop.one
      obtain ⟨es, hes⟩ := hop.effs
      have hers := hes.rs
      have hel := hes.len
      have heb := hers.big
      repeat (first | refine go_run ?_ | (refine go_newP ?_; clear hw; intro p w hw) | (refine go_newW ?_; clear hw; intro w hw) | (refine go_newS ?_; clear hw; intro s w hw))
      refine go_if (fun h3 => ?_) (fun h3 => ?_)
      · repeat (first | refine go_run ?_ | (refine go_newP ?_; clear hw; intro p w hw) | (refine go_newW ?_; clear hw; intro w hw) | (refine go_newS ?_; clear hw; intro s w hw))
        refine res_one (v := .bool false) rfl rfl ⟨⟨false, rfl, iffF fun h => ?_⟩, hw.tail.tail⟩
        have := h.effs k (by omega)
        omega
      · repeat (first | refine go_run ?_ | (refine go_newP ?_; clear hw; intro p w hw) | (refine go_newW ?_; clear hw; intro w hw) | (refine go_newS ?_; clear hw; intro s w hw))
        refine ⟨k + 1, ⟨rfl, trivial⟩, by repeat (first | exact agree_refl | (apply agree_upd rfl) | (apply agree_mix rfl) | (apply agree_sets rfl)), ⟨by omega, fun i hi => ?_, hw.tail⟩, by omega⟩
        by_cases h : i = k
        · subst h; omega
        · exact hef i (by omega)
    · repeat (first | refine go_run ?_ | (refine go_newP ?_; clear hw; intro p w hw) | (refine go_newW ?_; clear hw; intro w hw) | (refine go_newS ?_; clear hw; intro s w hw))
      refine st_call rfl (Good_spec (ht'.at hw)) ?_
      rintro _ w' ⟨⟨r, rfl, hr⟩, hk'⟩
      replace hw := hw.call0 hk'
      clear hk'
      refine ⟨_, rfl, ?_⟩
      cases r with
      | false =>
        repeat (first | refine go_run ?_ | (refine go_newP ?_; clear hw; intro p w hw) | (refine go_newW ?_; clear hw; intro w hw) | (refine go_newS ?_; clear hw; intro s w hw))
        refine res_one (v := .bool false) rfl rfl ⟨⟨false, rfl, iffF fun h => ?_⟩, hw.tail⟩
        have := hr.2 h.good
        cases this
      | true =>
        have hg := hr.1 rfl
        repeat (first | refine go_run ?_ | (refine go_newP ?_; clear hw; intro p w hw) | (refine go_newW ?_; clear hw; intro w hw) | (refine go_newS ?_; clear hw; intro s w hw))
        refine st_call rfl (Many_spec (m := 512) (ha.at hw) hg.pos (by decide) (by decide)) ?_
        rintro _ w' ⟨rfl, hk'⟩
        replace hw := hw.call0 hk'
        clear hk'
        refine ⟨_, rfl, ?_⟩
        repeat (first | refine go_run ?_ | (refine go_newP ?_; clear hw; intro p w hw) | (refine go_newW ?_; clear hw; intro w hw) | (refine go_newS ?_; clear hw; intro s w hw))
        refine res_one (v := .bool (decide (manyL t.vars 512 ≤ 512))) rfl rfl ⟨⟨_, rfl, ?_⟩, hw.tail⟩
        rw [decide_eq_true_eq, manyL]
        constructor
        · intro h
          exact ⟨hg, by omega, by omega, fun i hi => hef i (by omega), by split at h <;> omega⟩
        · intro h
          rw [if_pos h.many]; exact h.many

theorem StateOk.take {vars s : List Int} (h : StateOk vars s) (k : Nat) : StateOk (vars.take k) (s.take k) := by
  refine ⟨by simp [h.1], fun i hi => ?_⟩
  simp only [List.length_take] at hi
  have := h.2 i (by omega)
  simp only [List.getD_eq_getElem?_getD] at this ⊢
  rwa [List.getElem?_take_of_lt (by omega), List.getElem?_take_of_lt (by omega)]
theorem prodL_take {l : List Int} (h : ∀ x ∈ l, 1 ≤ x) (k : Nat) : prodL (l.take k) ≤ prodL l := by
  have := prodL_mono (l := l.take k) (m := l.drop k) (fun x hx => h x (List.mem_of_mem_drop hx)) (fun x hx => h x (List.mem_of_mem_take hx))
  rwa [List.take_append_drop] at this
end Go.Proofs.YtemnlcnjpjdoaaaGreatDoor

/-
  Contracts of the helpers 'States' and 'Edges'.
-/
namespace Go.Proofs.YtemnlcnjpjdoaaaGreatDoor
open Go.Sl
attribute [local irreducible] vc opsW opsD opV opW PureV ReadV Thn Blk

end Go.Proofs.YtemnlcnjpjdoaaaGreatDoor
