
/-
  'small', 'awake' and the walk of 'GraphShortest'.
-/
import Derived.Test.YtnoiagnmbipppaaDoorWShort
import Derived.Test.YtnoiagnmbipppaaDoorWRefShort
set_option linter.unusedSimpArgs false
set_option linter.unusedVariables false
namespace Go.Proofs.YtnoiagnmbipppaaDoor.G04
open Go.Sl
set_option maxRecDepth 8000
attribute [local irreducible] vc opsW opsD opV opW PureV ReadV Thn Blk

theorem awake_spec {w0 : World} : Calls Tryd.prog 5 #[] w0 fun e w' => e = .returned (.bool true) ∧ Sat w0 w' [] := by
  have hw := Sat.start w0
  refine calls_of_vc (args := []) mixed Tryd.func5 rfl (by kernel_rfl) (Nat.le_of_ble_eq_true rfl) ?_
  repeat (first | refine go_run ?_ | (refine go_newP ?_; clear hw; intro p w hw) | (refine go_newW ?_; clear hw; intro w hw) | (refine go_newS ?_; clear hw; intro s w hw))
  refine st_buildSlice (T := tArc) [⟨0, 1, 5⟩, ⟨1, 2, -2⟩, ⟨2, 1, 3⟩, ⟨0, 2, 4⟩] [.agg #[.int .i64 0, .int .i64 1, .int .i64 5], .agg #[.int .i64 1, .int .i64 2, .int .i64 (-2)], .agg #[.int .i64 2, .int .i64 1, .int .i64 3], .agg #[.int .i64 0, .int .i64 2, .int .i64 4]] rfl rfl rfl rfl rfl (Nat.le_of_ble_eq_true rfl) (Nat.le_of_ble_eq_true rfl) (Nat.le_of_ble_eq_true rfl) hw ?_
  clear hw
  intro s w hw
  refine st_call rfl (Shortest_spec (n := 4) (src := 0) (a := s) (rsO hw) (by decide)) ?_
  rintro _ w' ⟨d, rfl, hk⟩
  replace hw := hw.call1 hk
  clear hk
  have hR : shortR 4 [⟨0, 1, 5⟩, ⟨1, 2, -2⟩, ⟨2, 1, 3⟩, ⟨0, 2, 4⟩] 0 4 = (0, [0, 5, 3, 1125899906842624]) := by decide
  simp only [show (4 : Int).toNat = 4 from rfl, hR] at hw
  refine ⟨.tuple #[d, .nilIface], by rw [show (4 : Int).toNat = 4 from rfl, hR]; rfl, ?_⟩
  repeat (first | refine go_run ?_ | (refine go_newP ?_; clear hw; intro p w hw) | (refine go_newW ?_; clear hw; intro w hw) | (refine go_newS ?_; clear hw; intro s w hw))
  refine st_buildSlice (T := tInt) [0, 5, 3, 1125899906842624] [.int .i64 0, .int .i64 5, .int .i64 3, .int .i64 1125899906842624] rfl rfl rfl rfl rfl (Nat.le_of_ble_eq_true rfl) (Nat.le_of_ble_eq_true rfl) (Nat.le_of_ble_eq_true rfl) hw ?_
  clear hw
  intro s2 w hw
  repeat (first | refine go_run ?_ | (refine go_newP ?_; clear hw; intro p w hw) | (refine go_newW ?_; clear hw; intro w hw) | (refine go_newS ?_; clear hw; intro s w hw))
  refine st_call rfl (Ints_spec (a := d) (b := s2) (rsO hw) (rsO hw)) ?_
  rintro _ w' ⟨rfl, hk⟩
  replace hw := hw.call0 hk
  clear hk
  refine ⟨.bool true, by rw [decide_eq_true rfl], ?_⟩
  repeat (first | refine go_run ?_ | (refine go_newP ?_; clear hw; intro p w hw) | (refine go_newW ?_; clear hw; intro w hw) | (refine go_newS ?_; clear hw; intro s w hw))
  exact res_one (v := .bool true) rfl rfl ⟨rfl, hw.tail.tail.tail⟩

end Go.Proofs.YtnoiagnmbipppaaDoor.G04
