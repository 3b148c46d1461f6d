
/-
  Contract of reference 34's 'Needs'.
-/
import Derived.Test.YtkmbenhffledpaaGreatWLr2
set_option linter.unusedSimpArgs false
set_option linter.unusedVariables false
namespace Go.Proofs.YtkmbenhffledpaaGreat
open Go.Sl Go
attribute [local irreducible] vc opsW opsD opV opW PureV ReadV Thn Blk
set_option maxRecDepth 8000 in
set_option maxHeartbeats 4000000 in
theorem r34Needs_spec {w0 : World} {v : OpV} {o : TOp} {j : Nat} {vars : List Int} (ho : ROp w0 v o) (hg : OpOk vars o) (hvl : vars.length ≤ 64) (hj : j < o.effs.length) :
    Calls Tryz.prog 38 #[.agg (tOp.enc v).toArray, .int .i64 (j : Int)] w0 fun e w' => ∃ nv, e = .returned nv ∧ Sat w0 w' [OS tFact 77 nv (o.pre ++ (o.effs.getD j dEff).when)] := by
  have hone := ho.one
  have hpre := ho.pre
  have hpl := facts_len hg.pre
  obtain ⟨es, hes⟩ := ho.effs
  have hesr := hes.rs
  have hesl := hes.len
  have hue := hes.at_ j hj
  have hwh := hue.when
  have hwl := facts_len (hg.eff j hj).1
  have hw := Sat.start w0
  refine calls_of_vc (args := [.agg (tOp.enc v).toArray, .int .i64 (j : Int)]) mixed Tryz.func38 rfl (by kernel_rfl) (Nat.le_of_ble_eq_true rfl) ?_
  refine vc_seq ?_
  refine vc_region ?_
  refine go_box ?_
  clear hw
  intro po w hw
  replace hw : Sat w0 w [Box po 56 (tOp.enc v)] := hw
  repeat (first | refine go_run ?_ | (refine go_newP ?_; clear hw; intro p w hw) | (refine go_newWr ?_; clear hw; intro w hw) | (refine go_newS ?_; clear hw; intro s w hw))
  refine vc_plan [.op 1, .op 2, .op 4, .op 5, .op 6, .op 7, .op 8, .op 9, .op 0, .chk 2, .chk 5, .chk 9, .op 3, .chk 5, .chk 9, .op 10, .op 11] hw (by kernel_rfl) ?_; clear hw; intro w hw
  repeat (first | refine go_run ?_ | (refine go_newP ?_; clear hw; intro p w hw) | (refine go_newWr ?_; clear hw; intro w hw) | (refine go_newS ?_; clear hw; intro s w hw))
  refine st_buildSlice0 tFact hw ?_
  clear hw
  intro s0 w hw
  repeat (first | refine go_run ?_ | (refine go_newP ?_; clear hw; intro p w hw) | (refine go_newWr ?_; clear hw; intro w hw) | (refine go_newS ?_; clear hw; intro s w hw))
  obtain ⟨nv, hnv⟩ : ∃ nv, nv = s := ⟨s, rfl⟩
  subst hnv
  exact res_one (v := nv) rfl rfl ⟨nv, rfl, hw.only⟩
end Go.Proofs.YtkmbenhffledpaaGreat
