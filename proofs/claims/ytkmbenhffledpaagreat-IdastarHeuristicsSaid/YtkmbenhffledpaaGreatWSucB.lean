
/-
  Contracts of 'succgen.fact' and of the question of 'succgen.build'.
-/
import Derived.Test.YtkmbenhffledpaaGreatMW4
import Derived.Test.YtkmbenhffledpaaGreatWEst3
set_option linter.unusedSimpArgs false
set_option linter.unusedVariables false
namespace Go.Proofs.YtkmbenhffledpaaGreat
open Go.Sl Go
attribute [local irreducible] vc opsW opsD opV opW PureV ReadV Thn Blk
theorem factV_find {l : List Fact} {v k : Nat} (hk : k < l.length) (hno : ∀ i, i < k → (l.getD i tFact.dflt).var ≠ (v : Int)) (h : (l.getD k tFact.dflt).var = (v : Int)) : factV l v = some (l.getD k tFact.dflt).val := by
  induction l generalizing k with
  | nil => simp at hk
  | cons x l ih =>
    unfold factV
    cases k with
    | zero => rw [List.find?_cons_of_pos (by simpa using h)]; rfl
    | succ k =>
      have h0 := hno 0 (Nat.zero_lt_succ _)
      rw [List.find?_cons_of_neg (by simpa using h0)]
      exact ih (by simpa using hk) (fun i hi => by have := hno (i + 1) (by omega); simpa using this) (by simpa using h)
theorem factV_none {l : List Fact} {v : Nat} (hno : ∀ i, i < l.length → (l.getD i tFact.dflt).var ≠ (v : Int)) : factV l v = none := by
  unfold factV
  rw [List.find?_eq_none.2 fun f hf => ?_]
  · rfl
  · obtain ⟨i, hi, rfl⟩ := List.getElem_of_mem hf
    have := hno i hi
    rw [getD_at hi] at this
    simpa using this
/-- A generator's task is read. -/
def GenT (w : World) (p : Addr) (t : TTask) : Prop := ∃ a b c d r vs, BoxR w p [a, b, c, d, r] ∧ RTask w a b c d vs t
theorem GenT.at {w0 w : World} {Γ : List HP} {p : Addr} {t : TTask} (h : GenT w0 p t) (hw : Sat w0 w Γ) : GenT w p t := by
  obtain ⟨a, b, c, d, r, vs, h1, h2⟩ := h
  exact ⟨a, b, c, d, r, vs, h1.at hw, h2.at hw⟩
set_option maxRecDepth 8000 in
set_option maxHeartbeats 4000000 in
theorem fact_spec {w0 : World} {p : Addr} {t : TTask} {op : Int} {v : Nat} (hG : GenT w0 p t) (ho : 0 ≤ op ∧ op < t.ops.length) :
    Calls Tryz.prog 146 #[.pointer (some p), .int .i64 op, .int .i64 v] w0 fun e w' => (∃ x y r, e = .returned (.tuple #[.agg #[.int .i64 x, .int .i64 y], .bool r]) ∧ (r = (preV t op v).isSome) ∧ ∀ z, preV t op v = some z → y = z) ∧ Sat w0 w' [] := by
  obtain ⟨a, b, c, d, r0, vs, hb, ht⟩ := hG
  have hdr := ht.ops.rs
  have hdl := ht.ops.len
  obtain ⟨o, hoe⟩ : ∃ o : Nat, op = (o : Int) := ⟨op.toNat, by omega⟩
  subst hoe
  have hol : o < t.ops.length := by omega
  have hop := ht.ops.at_ o hol
  have hpre := hop.pre
  have hpb := hpre.big
  have hpv : preV t (o : Int) v = factV (t.ops.getD o dOp).pre v := rfl
  have hw := Sat.start w0
  refine calls_of_vc (args := [.pointer (some p), .int .i64 (o : Int), .int .i64 v]) mixed Tryz.func146 rfl (by kernel_rfl) (Nat.le_of_ble_eq_true rfl) ?_
  refine vc_seq ?_
  refine vc_region ?_
  refine go_alloc ?_
  clear hw
  intro pr w hw
  repeat (first | refine go_run ?_ | (refine go_newP ?_; clear hw; intro p w hw) | (refine go_newW ?_; clear hw; intro w hw) | (refine go_newS ?_; clear hw; intro s w hw))
  refine vc_loop [7, 9, 20, 21, 22, 23, 24, 25, 26, 27, 28, 29] (G := Nat) (fun k => [(20, .int .i64 k)]) (fun k w => k ≤ (t.ops.getD o dOp).pre.length ∧ (∀ i, i < k → ((t.ops.getD o dOp).pre.getD i tFact.dflt).var ≠ (v : Int)) ∧ Sat w0 w [Box pr 77 [.int .i64 0, .int .i64 0]]) (fun k => (t.ops.getD o dOp).pre.length - k) 0 (fun _ => rfl) ⟨rfl, trivial⟩ ⟨Nat.zero_le _, fun i hi => absurd hi (Nat.not_lt_zero _), hw⟩ ?_
  clear hw
  rintro σ k w ⟨hk, hno, hw⟩
  repeat (first | refine go_run ?_ | (refine go_newP ?_; clear hw; intro p w hw) | (refine go_newW ?_; clear hw; intro w hw) | (refine go_newS ?_; clear hw; intro s w hw))
  refine go_if (fun h1 => ?_) (fun h1 => ?_)
  · have hkl : k < (t.ops.getD o dOp).pre.length := by omega
    repeat (first | refine go_run ?_ | (refine go_newP ?_; clear hw; intro p w hw) | (refine go_newW ?_; clear hw; intro w hw) | (refine go_newS ?_; clear hw; intro s w hw))
    refine go_if (fun h2 => ?_) (fun h2 => ?_)
    · repeat (first | refine go_run ?_ | (refine go_newP ?_; clear hw; intro p w hw) | (refine go_newW ?_; clear hw; intro w hw) | (refine go_newS ?_; clear hw; intro s w hw))
      have hf := factV_find hkl hno h2
      exact res_cellTmp (p := pr) (vs := [.int .i64 ((t.ops.getD o dOp).pre.getD k tFact.dflt).var, .int .i64 ((t.ops.getD o dOp).pre.getD k tFact.dflt).val]) rfl rfl rfl rfl (hw.boxR 1 rfl) ⟨⟨_, _, true, rfl, by rw [hpv, hf]; rfl, fun z hz => by rw [hpv, hf] at hz; exact Option.some.inj hz⟩, hw.sel⟩
    · repeat (first | refine go_run ?_ | (refine go_newP ?_; clear hw; intro p w hw) | (refine go_newW ?_; clear hw; intro w hw) | (refine go_newS ?_; clear hw; intro s w hw))
      refine ⟨k + 1, ⟨rfl, trivial⟩, by repeat (first | exact agree_refl | (apply agree_upd rfl) | (apply agree_mix rfl) | (apply agree_sets rfl)), ⟨by omega, fun i hi => ?_, hw.sel⟩, by omega⟩
      by_cases e : i = k
      · subst e; exact h2
      · exact hno i (by omega)
  have hke : k = (t.ops.getD o dOp).pre.length := by omega
  subst hke
  repeat (first | refine go_run ?_ | (refine go_newP ?_; clear hw; intro p w hw) | (refine go_newW ?_; clear hw; intro w hw) | (refine go_newS ?_; clear hw; intro s w hw))
  refine st_buildN (vs := []) (ls := []) rfl rfl rfl ?_
  refine st_boxAgg (n := 2) (p := pr) (vs := [.int .i64 0, .int .i64 0]) rfl rfl hw inferInstance rfl rfl rfl ?_
  clear hw
  intro w hw
  repeat (first | refine go_run ?_ | (refine go_newP ?_; clear hw; intro p w hw) | (refine go_newW ?_; clear hw; intro w hw) | (refine go_newS ?_; clear hw; intro s w hw))
  have hf := factV_none hno
  exact res_cellTmp (p := pr) (vs := [.int .i64 0, .int .i64 0]) rfl rfl rfl rfl (hw.boxR 0 rfl) ⟨⟨_, _, false, rfl, by rw [hpv, hf]; rfl, fun z hz => by rw [hpv, hf] at hz; cases hz⟩, hw.sel⟩
set_option maxRecDepth 8000 in
set_option maxHeartbeats 4000000 in
theorem build1_spec {w0 : World} {p pg pv : Addr} {t : TTask} {op : Int} {v : Nat} (hG : GenT w0 p t) (hpg : w0.cell? pg = some (.pointer (some p))) (hpv : w0.cell? pv = some (.int .i64 v)) (ho : 0 ≤ op ∧ op < t.ops.length) :
    Calls Tryz.prog 145 #[.int .i64 op, .pointer (some pg), .pointer (some pv)] w0 fun e w' => (∃ r, e = .returned (.bool r) ∧ (r = true ↔ (preV t op v).isSome = true)) ∧ Sat w0 w' [] := by
  have hw := Sat.start w0
  refine calls_of_vc (args := [.int .i64 op, .pointer (some pg), .pointer (some pv)]) mixed Tryz.func145 rfl (by kernel_rfl) (Nat.le_of_ble_eq_true rfl) ?_
  repeat (first | refine go_run ?_ | (refine go_newP ?_; clear hw; intro p w hw) | (refine go_newW ?_; clear hw; intro w hw) | (refine go_newS ?_; clear hw; intro s w hw))
  refine step_read rfl (rv_cell rfl (cell_stays hpg hw)) ?_
  repeat (first | refine go_run ?_ | (refine go_newP ?_; clear hw; intro p w hw) | (refine go_newW ?_; clear hw; intro w hw) | (refine go_newS ?_; clear hw; intro s w hw))
  refine step_read rfl (rv_cell rfl (cell_stays hpv hw)) ?_
  repeat (first | refine go_run ?_ | (refine go_newP ?_; clear hw; intro p w hw) | (refine go_newW ?_; clear hw; intro w hw) | (refine go_newS ?_; clear hw; intro s w hw))
  refine st_call rfl (fact_spec (hG.at hw) ho) ?_
  rintro _ w' ⟨⟨x, y, r, rfl, hr, _⟩, hk'⟩
  replace hw := hw.call0 hk'
  clear hk'
  refine ⟨_, rfl, ?_⟩
  repeat (first | refine go_run ?_ | (refine go_newP ?_; clear hw; intro p w hw) | (refine go_newW ?_; clear hw; intro w hw) | (refine go_newS ?_; clear hw; intro s w hw))
  exact res_one (v := .bool r) rfl rfl ⟨⟨r, rfl, by rw [hr]⟩, hw.sel⟩
end Go.Proofs.YtkmbenhffledpaaGreat
