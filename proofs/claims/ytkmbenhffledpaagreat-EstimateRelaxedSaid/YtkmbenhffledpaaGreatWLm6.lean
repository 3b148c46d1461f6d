
/-
  Contract of LM-cut's 'Value'.
-/
import Derived.Test.YtkmbenhffledpaaGreatWLm5
set_option linter.unusedSimpArgs false
set_option linter.unusedVariables false
namespace Go.Proofs.YtkmbenhffledpaaGreat
open Go.Sl Go
attribute [local irreducible] vc opsW opsD opV opW PureV ReadV Thn Blk
def sI : List Int → Int
  | [] => 0
  | x :: l => x + sI l
theorem sI_app : ∀ (a b : List Int), sI (a ++ b) = sI a + sI b
  | [], b => by show sI b = 0 + sI b; omega
  | x :: a, b => by
    show x + sI (a ++ b) = x + sI a + sI b
    rw [sI_app a b]; omega
theorem sI_nn : ∀ {l : List Int}, (∀ x ∈ l, 0 ≤ x) → 0 ≤ sI l
  | [], _ => Int.le_refl _
  | x :: l, h => by
    have h1 := h x List.mem_cons_self
    have h2 := sI_nn fun y hy => h y (List.mem_cons_of_mem x hy)
    show 0 ≤ x + sI l
    omega
theorem sI_take {l : List Int} (h : ∀ x ∈ l, 0 ≤ x) (k : Nat) : 0 ≤ sI (l.take k) ∧ sI (l.take k) ≤ sI l := by
  have h1 := sI_app (l.take k) (l.drop k)
  rw [List.take_append_drop] at h1
  have h2 := sI_nn (l := l.take k) fun x hx => h x (List.mem_of_mem_take hx)
  have h3 := sI_nn (l := l.drop k) fun x hx => h x (List.mem_of_mem_drop hx)
  omega
theorem sumK_sI : ∀ (L : List (List Nat × Int)), sumK L = sI (L.map Prod.snd)
  | [] => rfl
  | x :: L => by
    show x.2 + sumK L = x.2 + sI (L.map Prod.snd)
    rw [sumK_sI L]
theorem lmc_nn {t : TTask} {z cs : List Int} {r : Option (List (List Nat × Int))} (h : LMC t z cs r) : CostsOk t cs → ∀ l, r = some l → ∀ x ∈ l, 0 ≤ x.2 := by
  induction h with
  | dead _ _ => intro _ l e; cases e
  | done _ _ => intro _ l e x hx; cases e; exact absurd hx List.not_mem_nil
  | @step cs V g0 K c r _ _ _ _ _ _ h7 _ ih =>
    intro hc l e x hx
    have hsub := subC_ok hc h7
    obtain ⟨⟨i, i1, i2, i3⟩, i4⟩ := h7
    have hc0 : 0 ≤ c := by have := hc.2 _ (mem_getD tInt.dflt i2); omega
    cases r with
    | none => cases e
    | some l' =>
      have e2 : l = (K, c) :: l' := (Option.some.inj e).symm
      subst e2
      rcases List.mem_cons.1 hx with e3 | hx
      · rw [e3]; exact hc0
      · exact ih hsub l' rfl x hx
set_option maxRecDepth 8000 in
set_option maxHeartbeats 8000000 in
theorem lValue_spec {w0 : World} {pr : Addr} {a fv gv cv0 lv sv : Value} {us : List CUV} {t : TTask} {z : List Int} (hr : LcR w0 pr t a fv gv cv0 lv us) (hg : GoodT t) (hs : RS tInt w0 sv z) (hok : StateOk t.vars z) :
    Calls Tryz.prog 196 #[.pointer (some pr), sv] w0 fun e w' => e = .returned (.int .i64 (lmH t z)) ∧ Sat w0 w' [] := by
  have hw := Sat.start w0
  refine calls_of_vc (args := [.pointer (some pr), sv]) mixed Tryz.func196 rfl (by kernel_rfl) (Nat.le_of_ble_eq_true rfl) ?_
  repeat (first | refine go_run ?_ | (refine go_newP ?_; clear hw; intro p w hw) | (refine go_newW ?_; clear hw; intro w hw) | (refine go_newS ?_; clear hw; intro s w hw))
  obtain ⟨hb, hvr, hfr, hgr, hcr, hlr, hll, hF⟩ := hr
  refine st_call rfl (lCuts_spec ⟨hb.at hw, hvr.at hw, hfr.at hw, hgr.at hw, hcr.at hw, hlr.at hw, hll, hF.at hw⟩ hg (hs.at hw) hok) ?_
  rintro _ w' (⟨hL, rfl, hk'⟩ | ⟨ov, L, cl, hL, rfl, hcl, hone, hk'⟩)
  · replace hw := hw.call0 hk'
    clear hk'
    refine ⟨_, rfl, ?_⟩
    rw [errV_some (show (3 : Int) ≠ 0 by decide)]
    repeat (first | refine go_run ?_ | (refine go_newP ?_; clear hw; intro p w hw) | (refine go_newW ?_; clear hw; intro w hw) | (refine go_newS ?_; clear hw; intro s w hw))
    exact res_one (v := .int .i64 1125899906842624) rfl rfl ⟨by rw [lm_eq hok hL]; rfl, sat_none hw⟩
  replace hw := hw.call1 hk'
  clear hk'
  refine ⟨_, rfl, ?_⟩
  have hnn : ∀ x ∈ cl.map CutV.cost, 0 ≤ x := fun x hx => by
    rw [hcl] at hx
    obtain ⟨y, hy, rfl⟩ := List.mem_map.1 hx
    exact lmc_nn hL (lm_costs_ok hg) L rfl y hy
  have hsm := lm_small hg hL
  have hse : sI (cl.map CutV.cost) = sumK L := by rw [hcl, sumK_sI]
  have hml : (cl.map CutV.cost).length = cl.length := List.length_map _
  have hbig := (rsO (s := ov) hw).big
  repeat (first | refine go_run ?_ | (refine go_newP ?_; clear hw; intro p w hw) | (refine go_newW ?_; clear hw; intro w hw) | (refine go_newS ?_; clear hw; intro s w hw))
  refine vc_loop2 [7, 9, 22, 23, 24, 25, 26, 27, 28, 29, 30] (G := Nat) (H := Int) (fun k m => [(22, .int .i64 k), (7, .int .i64 m)]) (fun k m w => k ≤ cl.length ∧ m = sI ((cl.map CutV.cost).take k) ∧ Sat w0 w [OS tCut 44 ov cl]) (fun k _ => cl.length - k) 0 0 (fun _ _ => rfl) ⟨rfl, rfl, trivial⟩ ⟨Nat.zero_le _, rfl, hw⟩ ?_
  clear hw
  rintro σ k m w ⟨hk, hm, hw⟩
  repeat (first | refine go_run ?_ | (refine go_newP ?_; clear hw; intro p w hw) | (refine go_newW ?_; clear hw; intro w hw) | (refine go_newS ?_; clear hw; intro s w hw))
  refine go_if (fun h1 => ?_) (fun h1 => ?_)
  · have hkl : k < cl.length := by omega
    have hsn : sI ((cl.map CutV.cost).take (k + 1)) = m + (eget tCut cl k).cost := by
      rw [take_snoc tInt.dflt (by rw [hml]; exact hkl), sI_app, ← hm, eget_eq, getD_at (by rw [hml]; exact hkl), List.getElem_map, getD_at hkl]
      show m + (_ + 0) = _
      omega
    have hbd := sI_take hnn (k + 1)
    have hbm := sI_take hnn k
    rw [← hm] at hbm
    have ouk := hone _ (mem_getD (d := tCut.dflt) hkl)
    rw [← eget_eq] at ouk
    have houk : (tCut.enc (eget tCut cl k)).all Value.oneCell' = true := by
      show ((eget tCut cl k).ops.oneCell' && ((Value.int .i64 (eget tCut cl k).cost).oneCell' && true)) = true
      rw [ouk]; rfl
    rw [hsn] at hbd
    repeat (first | refine go_run ?_ | (refine go_newP ?_; clear hw; intro p w hw) | (refine go_newWr ?_; clear hw; intro w hw) | (refine go_newS ?_; clear hw; intro s w hw))
    exact ⟨k + 1, _, ⟨rfl, rfl, trivial⟩, by repeat (first | exact agree_refl | (apply agree_upd rfl) | (apply agree_mix rfl) | (apply agree_sets rfl)), ⟨by omega, hsn.symm, hw.tail⟩, by omega⟩
  have hke : k = cl.length := by omega
  rw [hke, List.take_of_length_le (by rw [hml]; exact Nat.le_refl _), hse] at hm
  repeat (first | refine go_run ?_ | (refine go_newP ?_; clear hw; intro p w hw) | (refine go_newW ?_; clear hw; intro w hw) | (refine go_newS ?_; clear hw; intro s w hw))
  exact res_one (v := .int .i64 m) rfl rfl ⟨by rw [lm_eq hok hL, hm]; rfl, sat_none hw⟩
end Go.Proofs.YtkmbenhffledpaaGreat
