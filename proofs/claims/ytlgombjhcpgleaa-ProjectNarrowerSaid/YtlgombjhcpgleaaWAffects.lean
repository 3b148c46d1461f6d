/-
  Contract of 'project.Affects'.
-/
import Derived.Test.YtlgombjhcpgleaaWChosen
namespace Go.Proofs.Ytlgombjhcpgleaa
open Go.Sl Go
attribute [local irreducible] vc opsW opsD opV opW PureV ReadV Thn Blk

set_option maxRecDepth 8000 in
theorem aff1_spec {w0 : World} {pv : Addr} {vp : Value} {L : List Int} {x : EffV} {e : Eff} (hx : REff w0 x e) (hv : w0.cell? pv = some vp) (hp : RS tInt w0 vp L) :
    Calls Try.prog 48 #[.agg (tEff.enc x).toArray, .pointer (some pv)] w0 fun r w' => r = .returned (.bool (decide (e.var ∈ L))) ∧ Sat w0 w' [] := by
  have hone := hx.one
  have hvv := hx.var
  have hw := Sat.start w0
  refine calls_of_vc (args := [.agg (tEff.enc x).toArray, .pointer (some pv)]) mixed Try.func48 rfl (by kernel_rfl) (Nat.le_of_ble_eq_true rfl) ?_
  repeat (first | refine go_run ?_ | (refine go_newP ?_; clear hw; intro p w hw) | (refine go_newW ?_; clear hw; intro w hw) | (refine go_newS ?_; clear hw; intro s w hw))
  refine step_read rfl (rv_cell rfl (cell_at hv hw)) ?_
  repeat (first | refine go_run ?_ | (refine go_newP ?_; clear hw; intro p w hw) | (refine go_newW ?_; clear hw; intro w hw) | (refine go_newS ?_; clear hw; intro s w hw))
  refine st_call rfl (Contains_spec (hp.at hw)) ?_
  rintro _ w' ⟨rfl, hk'⟩
  replace hw := hw.call0 hk'
  clear hk'
  refine ⟨_, rfl, ?_⟩
  repeat (first | refine go_run ?_ | (refine go_newP ?_; clear hw; intro p w hw) | (refine go_newW ?_; clear hw; intro w hw) | (refine go_newS ?_; clear hw; intro s w hw))
  exact res_one (v := .bool (decide (x.var ∈ L))) rfl rfl ⟨by rw [hvv], hw.tail⟩

set_option maxRecDepth 8000 in
theorem affIdx_spec {w0 : World} {a : Value} {es : List EffV} {E : List Eff} {pv : Addr} {vp : Value} {L : List Int} (he : REffs w0 a es E) (hv : w0.cell? pv = some vp) (hp : RS tInt w0 vp L) :
    Calls Try.prog 64 #[a, .func (.func 48) #[] #[.pointer (some pv)]] w0 fun e w' => (∃ r : Int, e = .returned (.int .i64 r) ∧ (0 ≤ r ↔ ∃ x ∈ E, x.var ∈ L)) ∧ Sat w0 w' [] := by
  have ha := he.rs
  have hel := he.len
  have hla := ha.big
  have hw := Sat.start w0
  refine calls_of_vc (args := [a, .func (.func 48) #[] #[.pointer (some pv)]]) mixed Try.func64 rfl (by kernel_rfl) (Nat.le_of_ble_eq_true rfl) ?_
  repeat (first | refine go_run ?_ | (refine go_newP ?_; clear hw; intro p w hw) | (refine go_newW ?_; clear hw; intro w hw) | (refine go_newS ?_; clear hw; intro s w hw))
  refine vc_loop [4, 5, 8, 9, 10, 11, 12, 13, 14, 15, 16, 17, 18] (G := Nat) (fun k => [(8, .int .i64 k)]) (fun k w => k ≤ E.length ∧ (∀ i, i < k → (E.getD i dEff).var ∉ L) ∧ Sat w0 w []) (fun k => E.length - k) 0 (fun _ => rfl) ⟨rfl, trivial⟩ ⟨Nat.zero_le _, fun i hi => absurd hi (Nat.not_lt_zero _), hw⟩ ?_
  clear hw
  rintro σ k w ⟨hk, hpre, hw⟩
  repeat (first | refine go_run ?_ | (refine go_newP ?_; clear hw; intro p w hw) | (refine go_newW ?_; clear hw; intro w hw) | (refine go_newS ?_; clear hw; intro s w hw))
  refine go_if (fun h1 => ?_) (fun h1 => ?_)
  · have hkl : k < E.length := by omega
    repeat (first | refine go_run ?_ | (refine go_newP ?_; clear hw; intro p w hw) | (refine go_newW ?_; clear hw; intro w hw) | (refine go_newS ?_; clear hw; intro s w hw))
    refine st_callF (cs := [.pointer (some pv)]) rfl rfl (aff1_spec (x := eget tEff es k) (e := E.getD k dEff) ((he.at hw).at_ k hkl) (cell_at hv hw) (hp.at hw)) ?_
    rintro _ w' ⟨rfl, hk'⟩
    replace hw := hw.call0 hk'
    clear hk'
    refine ⟨_, rfl, ?_⟩
    repeat (first | refine go_run ?_ | (refine go_newP ?_; clear hw; intro p w hw) | (refine go_newW ?_; clear hw; intro w hw) | (refine go_newS ?_; clear hw; intro s w hw))
    refine go_if (fun h2 => ?_) (fun h2 => ?_)
    · repeat (first | refine go_run ?_ | (refine go_newP ?_; clear hw; intro p w hw) | (refine go_newW ?_; clear hw; intro w hw) | (refine go_newS ?_; clear hw; intro s w hw))
      exact res_one (v := .int .i64 k) rfl rfl ⟨⟨k, rfl, ⟨fun _ => ⟨_, mem_getD dEff hkl, h2⟩, fun _ => by omega⟩⟩, hw⟩
    · repeat (first | refine go_run ?_ | (refine go_newP ?_; clear hw; intro p w hw) | (refine go_newW ?_; clear hw; intro w hw) | (refine go_newS ?_; clear hw; intro s w hw))
      refine ⟨k + 1, ⟨rfl, trivial⟩, by repeat (first | exact agree_refl | (apply agree_upd rfl) | (apply agree_mix rfl) | (apply agree_sets rfl)), ⟨by omega, fun i hi => ?_, hw⟩, by omega⟩
      by_cases h : i = k
      · subst h; exact h2
      · exact hpre i (by omega)
  · repeat (first | refine go_run ?_ | (refine go_newP ?_; clear hw; intro p w hw) | (refine go_newW ?_; clear hw; intro w hw) | (refine go_newS ?_; clear hw; intro s w hw))
    refine res_one (v := .int .i64 (-1)) rfl rfl ⟨⟨-1, rfl, ⟨fun h => by omega, ?_⟩⟩, hw⟩
    rintro ⟨x, hx, hxe⟩
    obtain ⟨i, hi, rfl⟩ := List.mem_iff_getElem.1 hx
    exact absurd (by rw [getD_at hi]; exact hxe) (hpre i (by omega))

set_option maxRecDepth 8000 in
theorem affC_spec {w0 : World} {a : Value} {es : List EffV} {E : List Eff} {pv : Addr} {vp : Value} {L : List Int} (he : REffs w0 a es E) (hv : w0.cell? pv = some vp) (hp : RS tInt w0 vp L) :
    Calls Try.prog 47 #[a, .func (.func 48) #[] #[.pointer (some pv)]] w0 fun e w' => (∃ r, e = .returned (.bool r) ∧ (r = true ↔ ∃ x ∈ E, x.var ∈ L)) ∧ Sat w0 w' [] := by
  have hw := Sat.start w0
  refine calls_of_vc (args := [a, .func (.func 48) #[] #[.pointer (some pv)]]) mixed Try.func47 rfl (by kernel_rfl) (Nat.le_of_ble_eq_true rfl) ?_
  repeat (first | refine go_run ?_ | (refine go_newP ?_; clear hw; intro p w hw) | (refine go_newW ?_; clear hw; intro w hw) | (refine go_newS ?_; clear hw; intro s w hw))
  refine st_call rfl (affIdx_spec he hv hp) ?_
  rintro _ w' ⟨⟨r, rfl, hr⟩, hk'⟩
  replace hw := hw.call0 hk'
  clear hk'
  refine ⟨_, rfl, ?_⟩
  repeat (first | refine go_run ?_ | (refine go_newP ?_; clear hw; intro p w hw) | (refine go_newW ?_; clear hw; intro w hw) | (refine go_newS ?_; clear hw; intro s w hw))
  exact res_one (v := .bool (decide (0 ≤ r))) rfl rfl ⟨⟨_, rfl, by rw [decide_eq_true_eq]; exact hr⟩, hw⟩

def AffOf (t : TTask) (L : List Int) (i : Nat) : Prop := ∃ e ∈ (t.ops.getD i dOp).effs, e.var ∈ L
instance (t : TTask) (L : List Int) (i : Nat) : Decidable (AffOf t L i) := by unfold AffOf; infer_instance
def affK (t : TTask) (L : List Int) (k : Nat) : List Int := ((List.range k).filter fun i => decide (AffOf t L i)).map fun (i : Nat) => (i : Int)
theorem affK_succ (t : TTask) (L : List Int) (k : Nat) : affK t L (k + 1) = if AffOf t L k then affK t L k ++ [(k : Int)] else affK t L k := by
  unfold affK
  rw [List.range_succ, List.filter_append]
  split
  · rename_i h; simp [h]
  · rename_i h; simp [h]
theorem affK_len (t : TTask) (L : List Int) (k : Nat) : (affK t L k).length ≤ k := by
  have := List.length_filter_le (fun i => decide (AffOf t L i)) (List.range k)
  simp only [affK, List.length_map, List.length_range] at *
  omega

set_option maxRecDepth 8000 in
set_option maxHeartbeats 1000000 in
theorem Affects_spec {w0 : World} {a b c d vp : Value} {vs : List OpV} {t : TTask} {L : List Int} (ht : RTask w0 a b c d vs t) (hp : RS tInt w0 vp L) :
    Calls Try.prog 24 #[.agg #[a, b, c, d], vp] w0 fun e w' => ∃ s, e = .returned (.tuple #[s, errV (chkP t L)]) ∧ Sat w0 w' [OS tInt 3 s (if chkP t L = 0 then affK t L t.ops.length else [])] := by
  have ht' := ht
  obtain ⟨ha, hb, hc, hd⟩ := ht
  have hrs := hd.rs
  have hdl := hd.len
  have hll := hrs.big
  have hpc : vp.cells.toList = [vp] := hp.cells1
  have hw := Sat.start w0
  refine calls_of_vc (args := [.agg #[a, b, c, d], vp]) mixed Try.func24 rfl (by kernel_rfl) (Nat.le_of_ble_eq_true rfl) ?_
  refine vc_seq ?_
  refine vc_region ?_
  refine go_box ?_
  clear hw
  intro pt w hw
  refine go_box ?_
  clear hw
  intro pv w hw
  rw [hpc] at hw
  repeat (first | refine go_run ?_ | (refine go_newP ?_; clear hw; intro p w hw) | (refine go_newW ?_; clear hw; intro w hw) | (refine go_newS ?_; clear hw; intro s w hw))
  refine st_call rfl (pcheck_spec (va := vp) (ht'.at hw) (hp.at hw)) ?_
  rintro _ w' ⟨rfl, hk'⟩
  replace hw := hw.call0 hk'
  clear hk'
  refine ⟨_, rfl, ?_⟩
  by_cases hk : chkP t L = 0
  · rw [errV_zero hk, if_pos hk]
    have hol := (chkP_zero.1 hk).1.ops
    repeat (first | refine go_run ?_ | (refine go_newP ?_; clear hw; intro p w hw) | (refine go_newW ?_; clear hw; intro w hw) | (refine go_newS ?_; clear hw; intro s w hw))
    refine vc_loop2 [7, 8, 9, 19, 20, 21, 22, 23, 24, 25, 26, 27, 28, 29, 30, 31, 32] (G := Nat) (H := Value) (fun k s => [(19, .int .i64 k), (7, s)]) (fun k s w => k ≤ t.ops.length ∧ Sat w0 w [OS tInt 3 s (affK t L k), Box pv 22 [vp], Box pt 26 [a, b, c, d]]) (fun k _ => t.ops.length - k) 0 (.slice none 0 0) (fun _ _ => rfl) ⟨rfl, rfl, trivial⟩ ⟨Nat.zero_le _, hw.nil⟩ ?_
    clear hw
    rintro σ k s w ⟨hk1, hw⟩
    repeat (first | refine go_run ?_ | (refine go_newP ?_; clear hw; intro p w hw) | (refine go_newW ?_; clear hw; intro w hw) | (refine go_newS ?_; clear hw; intro s w hw))
    refine go_if (fun h1 => ?_) (fun h1 => ?_)
    · have hkl : k < t.ops.length := by omega
      have hop := hd.at_ k hkl
      have hone := hop.one
      obtain ⟨es, hes⟩ := hop.effs
      have hsn := affK_succ t L k
      have hal := affK_len t L k
      repeat (first | refine go_run ?_ | (refine go_newP ?_; clear hw; intro p w hw) | (refine go_newW ?_; clear hw; intro w hw) | (refine go_newS ?_; clear hw; intro s w hw))
      refine st_call rfl (affC_spec (hes.at hw) (box_cell0 (i := 2) hw rfl rfl) (hp.at hw)) ?_
      rintro _ w' ⟨⟨r, rfl, hr⟩, hk'⟩
      replace hw := hw.call0 hk'
      clear hk'
      refine ⟨_, rfl, ?_⟩
      cases r with
      | true =>
        repeat (first | refine go_run ?_ | (refine go_newP ?_; clear hw; intro p w hw) | (refine go_newW ?_; clear hw; intro w hw) | (refine go_newS ?_; clear hw; intro s w hw))
        refine ⟨k + 1, _, ⟨rfl, rfl, trivial⟩, by repeat (first | exact agree_refl | (apply agree_upd rfl) | (apply agree_mix rfl) | (apply agree_sets rfl)), ⟨by omega, ?_⟩, by omega⟩
        rw [hsn, if_pos (show AffOf t L k from hr.1 rfl)]
        exact hw.tail.tail
      | false =>
        repeat (first | refine go_run ?_ | (refine go_newP ?_; clear hw; intro p w hw) | (refine go_newW ?_; clear hw; intro w hw) | (refine go_newS ?_; clear hw; intro s w hw))
        refine ⟨k + 1, _, ⟨rfl, rfl, trivial⟩, by repeat (first | exact agree_refl | (apply agree_upd rfl) | (apply agree_mix rfl) | (apply agree_sets rfl)), ⟨by omega, ?_⟩, by omega⟩
        rw [hsn, if_neg (fun h : AffOf t L k => by have := hr.2 h; cases this)]
        exact hw.tail
    · have hke : k = t.ops.length := by omega
      subst hke
      repeat (first | refine go_run ?_ | (refine go_newP ?_; clear hw; intro p w hw) | (refine go_newW ?_; clear hw; intro w hw) | (refine go_newS ?_; clear hw; intro s w hw))
      exact res_two (v := s) (v' := .nilIface) rfl rfl rfl ⟨s, rfl, hw.only⟩
  · rw [errV_some hk, if_neg hk]
    repeat (first | refine go_run ?_ | (refine go_newP ?_; clear hw; intro p w hw) | (refine go_newW ?_; clear hw; intro w hw) | (refine go_newS ?_; clear hw; intro s w hw))
    exact res_two (v := .slice none 0 0) (v' := .iface 68 (.int .i64 (chkP t L))) rfl rfl rfl ⟨_, rfl, (sat_none hw).nil⟩
end Go.Proofs.Ytlgombjhcpgleaa
