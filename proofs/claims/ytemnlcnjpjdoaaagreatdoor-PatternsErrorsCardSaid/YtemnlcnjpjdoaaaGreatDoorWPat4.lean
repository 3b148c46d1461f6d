
/-
  Contract of the method 'Value' of the canonical heuristic.
-/
import Derived.Test.YtemnlcnjpjdoaaaGreatDoorWPat3
import Derived.Test.YtemnlcnjpjdoaaaGreatDoorMTA
set_option linter.unusedSimpArgs false
set_option linter.unusedVariables false
namespace Go.Proofs.YtemnlcnjpjdoaaaGreatDoor
open Go.Sl Go
attribute [local irreducible] vc opsW opsD opV opW PureV ReadV Thn Blk
set_option maxRecDepth 8000 in
theorem CValue_nil {w0 : World} {sv : Value} : Calls Tryz.prog 20 #[.pointer none, sv] w0 fun e w' => e = .returned (.int .i64 0) ∧ Sat w0 w' [] := by
  have hw := Sat.start w0
  refine calls_of_vc (args := [.pointer none, sv]) mixed Tryz.func20 rfl (by kernel_rfl) (Nat.le_of_ble_eq_true rfl) ?_
  repeat (first | refine go_run ?_ | (refine go_newP ?_; clear hw; intro p w hw) | (refine go_newW ?_; clear hw; intro w hw) | (refine go_newS ?_; clear hw; intro s w hw))
  exact res_one (v := .int .i64 0) rfl rfl ⟨rfl, hw⟩
open Classical in
/-- The value of any list of numbers. -/
noncomputable def canW (t : TTask) (Ls Ds Cs : List (List Int)) (s : List Int) : Int := if StateOk t.vars s then canV t Ls Ds Cs s else 1125899906842624
theorem canW_no {t : TTask} {Ls Ds Cs : List (List Int)} {s : List Int} (h : ¬ StateOk t.vars s) : canW t Ls Ds Cs s = 1125899906842624 := if_neg h
theorem canW_ok {t : TTask} {Ls Ds Cs : List (List Int)} {s : List Int} (h : StateOk t.vars s) : canW t Ls Ds Cs s = canV t Ls Ds Cs s := if_pos h
set_option maxRecDepth 8000 in
set_option maxHeartbeats 4000000 in
theorem CValue_spec {w0 : World} {p : Addr} {t : TTask} {Ls Ds Cs : List (List Int)} {sv : Value} {s : List Int} (hr : RCan w0 p t Ls Ds Cs) (hl : Ls.length ≤ 32) (hDl : Ds.length = Ls.length) (hcl : Cs.length ≤ 4096) (hci : ∀ l ∈ Cs, ∀ i ∈ l, 0 ≤ i ∧ i < Ls.length) (hp : ∀ i, i < Ls.length → pErr t (Ls.getD i []) = 0) (hD : ∀ i, i < Ls.length → DistOk (pEdges t (Ls.getD i [])) (costsT t) (GoalPK t (Ls.getD i [])) (cntL t.vars (Ls.getD i [])).toNat (Ds.getD i [])) (hs : RS tInt w0 sv s) :
    Calls Tryz.prog 20 #[.pointer (some p), sv] w0 fun e w' => e = .returned (.int .i64 (canW t Ls Ds Cs s)) ∧ Sat w0 w' [] := by
  obtain ⟨vv, dv, cv, qs, fs, h1, h2, h3, h4, h5⟩ := hr
  have hql := h4.1.trans hDl
  have hfl := h5.len
  have h5r := h5.rs
  have hw := Sat.start w0
  refine calls_of_vc (args := [.pointer (some p), sv]) mixed Tryz.func20 rfl (by kernel_rfl) (Nat.le_of_ble_eq_true rfl) ?_
  repeat (first | refine go_run ?_ | (refine go_newP ?_; clear hw; intro p w hw) | (refine go_newW ?_; clear hw; intro w hw) | (refine go_newS ?_; clear hw; intro s w hw))
  refine st_call rfl (tProper_spec h2 (hs.at hw)) ?_
  rintro _ w' ⟨⟨r, rfl, hr⟩, hk'⟩
  replace hw := hw.call0 hk'
  clear hk'
  refine ⟨_, rfl, ?_⟩
  cases r
  · rw [canW_no (fun h => by have := hr.2 h; cases this)]
    repeat (first | refine go_run ?_ | (refine go_newP ?_; clear hw; intro p w hw) | (refine go_newW ?_; clear hw; intro w hw) | (refine go_newS ?_; clear hw; intro s w hw))
    exact res_one (v := .int .i64 1125899906842624) rfl rfl ⟨rfl, hw⟩
  have hok := hr.1 rfl
  rw [canW_ok hok]
  have hvr : ∀ k, k < Ls.length → 0 ≤ (valK t Ls Ds s) k ∧ (valK t Ls Ds s) k ≤ 1125899906842624 := fun k hk => dist_at (pErr_zero (hp k hk)).2.1 (hD k hk) hok
  repeat (first | refine go_run ?_ | (refine go_newP ?_; clear hw; intro p w hw) | (refine go_newW ?_; clear hw; intro w hw) | (refine go_newS ?_; clear hw; intro s w hw))
  obtain ⟨vv2, hvv2⟩ : ∃ vv2, vv2 = s := ⟨s, rfl⟩
  subst hvv2
  rw [hql, Int.toNat_natCast, ← fillL_zero _ (valK t Ls Ds s)] at hw
  refine vc_loop [6, 7, 34, 35, 36, 37, 38, 39, 40, 41, 42, 43, 44, 45] (G := Nat) (fun k => [(34, .int .i64 k)]) (fun k w => k ≤ Ls.length ∧ Sat w0 w [OS tInt 3 vv2 (fillL Ls.length (valK t Ls Ds s) k)]) (fun k => Ls.length - k) 0 (fun _ => rfl) ⟨rfl, trivial⟩ ⟨Nat.zero_le _, hw⟩ ?_
  clear hw
  rintro σ k w ⟨hk, hw⟩
  have hfll := fillL_len Ls.length (valK t Ls Ds s) k
  repeat (first | refine go_run ?_ | (refine go_newP ?_; clear hw; intro p w hw) | (refine go_newW ?_; clear hw; intro w hw) | (refine go_newS ?_; clear hw; intro s w hw))
  refine go_if (fun h7 => ?_) (fun h7 => ?_)
  · have hkl : k < Ls.length := by omega
    obtain ⟨q, hq, hdb⟩ := h4.2 k (by omega)
    have hdo := dbI_ok (hp k hkl) (hD k hkl)
    have hval : valD (dbI t (Ls.getD k []) (Ds.getD k [])) s = (valK t Ls Ds s) k := valD_ok hok
    repeat (first | refine go_run ?_ | (refine go_newP ?_; clear hw; intro p w hw) | (refine go_newWr ?_; clear hw; intro w hw) | (refine go_newS ?_; clear hw; intro s w hw))
    rw [hq]
    refine st_call rfl (Value_spec (hdb.at hw) hdo (hs.at hw)) ?_
    rintro _ w' ⟨rfl, hk'⟩
    replace hw := hw.call0 hk'
    clear hk'
    rw [hval]
    refine ⟨_, rfl, ?_⟩
    repeat (first | refine go_run ?_ | (refine go_newP ?_; clear hw; intro p w hw) | (refine go_newW ?_; clear hw; intro w hw) | (refine go_newS ?_; clear hw; intro s w hw))
    rw [show (fillL Ls.length (valK t Ls Ds s) k).set k ((valK t Ls Ds s) k) = fillL Ls.length (valK t Ls Ds s) (k + 1) from fillL_set] at hw
    exact ⟨k + 1, ⟨rfl, trivial⟩, by repeat (first | exact agree_refl | (apply agree_upd rfl) | (apply agree_mix rfl) | (apply agree_sets rfl)), ⟨by omega, hw⟩, by omega⟩
  have hke : k = Ls.length := by omega
  subst hke
  repeat (first | refine go_run ?_ | (refine go_newP ?_; clear hw; intro p w hw) | (refine go_newW ?_; clear hw; intro w hw) | (refine go_newS ?_; clear hw; intro s w hw))
  refine vc_loop2 [8, 10, 11, 13, 51, 52, 53, 54, 55, 56, 57, 58, 59, 60, 61, 62, 63, 64, 65, 66, 67, 68, 69, 70, 71, 72] (G := Nat) (H := Int) (fun k b => [(51, .int .i64 k), (8, .int .i64 b)]) (fun k b w => k ≤ Cs.length ∧ b = bestL (valK t Ls Ds s) (Cs.take k) ∧ Sat w0 w [OS tInt 3 vv2 (fillL Ls.length (valK t Ls Ds s) Ls.length)]) (fun k _ => Cs.length - k) 0 0 (fun _ _ => rfl) ⟨rfl, rfl, trivial⟩ ⟨Nat.zero_le _, rfl, hw⟩ ?_
  clear hw
  rintro σ k b w ⟨hk, hb, hw⟩
  repeat (first | refine go_run ?_ | (refine go_newP ?_; clear hw; intro p w hw) | (refine go_newW ?_; clear hw; intro w hw) | (refine go_newS ?_; clear hw; intro s w hw))
  refine go_if (fun h8 => ?_) (fun h8 => ?_)
  · have hkl : k < Cs.length := by omega
    have hrk := h5.at_ k hkl
    obtain ⟨C, hC⟩ : ∃ C, C = Cs.getD k [] := ⟨_, rfl⟩
    have hCm : C ∈ Cs := by rw [hC]; exact mem_getD [] hkl
    rw [← hC] at hrk
    have hCb := hrk.big
    repeat (first | refine go_run ?_ | (refine go_newP ?_; clear hw; intro p w hw) | (refine go_newW ?_; clear hw; intro w hw) | (refine go_newS ?_; clear hw; intro s w hw))
    refine vc_loop2 [11, 13, 57, 58, 59, 60, 61, 62, 63, 64, 65, 66, 67, 68] (G := Nat) (H := Int) (fun j x => [(57, .int .i64 j), (11, .int .i64 x)]) (fun j x w => j ≤ C.length ∧ x = capL (valK t Ls Ds s) (C.take j) ∧ Sat w0 w [OS tInt 3 vv2 (fillL Ls.length (valK t Ls Ds s) Ls.length)]) (fun j _ => C.length - j) 0 0 (fun _ _ => rfl) ⟨rfl, rfl, trivial⟩ ⟨Nat.zero_le _, rfl, hw⟩ ?_
    clear hw
    rintro σ1 j x w ⟨hj, hx, hw⟩
    repeat (first | refine go_run ?_ | (refine go_newP ?_; clear hw; intro p w hw) | (refine go_newW ?_; clear hw; intro w hw) | (refine go_newS ?_; clear hw; intro s w hw))
    refine go_if (fun h9 => ?_) (fun h9 => ?_)
    · have hjl : j < C.length := by omega
      have hci' := hci C hCm _ (mem_getD tInt.dflt hjl)
      have hfa := fillL_at (n := Ls.length) (f := (valK t Ls Ds s)) (k := Ls.length) (i := (C.getD j tInt.dflt).toNat) (by omega) (by omega)
      have hfb := hvr (C.getD j tInt.dflt).toNat (by omega)
      have hxr := capL_rng (f := (valK t Ls Ds s)) (l := C.take j) fun i hi => (hvr i.toNat (by have := hci C hCm i (List.mem_of_mem_take hi); omega)).1
      have e2 : inf = 1125899906842624 := rfl
      repeat (first | refine go_run ?_ | (refine go_newP ?_; clear hw; intro p w hw) | (refine go_newW ?_; clear hw; intro w hw) | (refine go_newS ?_; clear hw; intro s w hw))
      refine ⟨j + 1, _, ⟨rfl, rfl, trivial⟩, by repeat (first | exact agree_refl | (apply agree_upd rfl) | (apply agree_mix rfl) | (apply agree_sets rfl)), ⟨by omega, ?_, hw⟩, by omega⟩
      rw [take_snoc tInt.dflt hjl, capL_snoc, hfa, hx]
      split <;> omega
    have hje : j = C.length := by omega
    subst hje
    repeat (first | refine go_run ?_ | (refine go_newP ?_; clear hw; intro p w hw) | (refine go_newW ?_; clear hw; intro w hw) | (refine go_newS ?_; clear hw; intro s w hw))
    refine ⟨k + 1, _, ⟨rfl, rfl, trivial⟩, by repeat (first | exact agree_refl | (apply agree_upd rfl) | (apply agree_mix rfl) | (apply agree_sets rfl)), ⟨by omega, ?_, hw⟩, by omega⟩
    rw [take_snoc [] hkl, bestL_snoc, hb, hx, ← hC, List.take_length]
    split <;> omega
  have hke : k = Cs.length := by omega
  subst hke
  rw [List.take_length] at hb
  repeat (first | refine go_run ?_ | (refine go_newP ?_; clear hw; intro p w hw) | (refine go_newW ?_; clear hw; intro w hw) | (refine go_newS ?_; clear hw; intro s w hw))
  exact res_one (v := .int .i64 b) rfl rfl ⟨by rw [hb]; rfl, sat_none hw⟩
end Go.Proofs.YtemnlcnjpjdoaaaGreatDoor
