
/-
  Contract of A*'s 'search.cost'.
-/
import Derived.Test.YtegndanecnicaaaGreatWAHeap
import Derived.Test.YtegndanecnicaaaGreatMTA
set_option linter.unusedSimpArgs false
set_option linter.unusedVariables false
namespace Go.Proofs.YtegndanecnicaaaGreat
open Go.Sl Go
attribute [local irreducible] vc opsW opsD opV opW PureV ReadV Thn Blk
set_option maxRecDepth 8000 in
set_option maxHeartbeats 4000000 in
theorem acost_spec {w0 : World} {a b c d c4 c5 c6 c7 c8 c9 c10 c11 c12 c13 c14 pv : Value} {vs : List OpV} {t : TTask} {q : Addr} {s pl : List Int} {co : Int} (ht : RTask w0 a b c d vs t) (hg : GoodT t) (hb : BoxR w0 q [a, b, c, d, c4, c5, c6, c7, c8, c9, c10, c11, c12, c13, c14])
    (hp : RS tInt w0 pv pl) (hP : Pln t s pl co) (hpl : pl.length ≤ 1048577) :
    Calls Tryz.prog 67 #[.pointer (some q), pv] w0 fun e w' => e = .returned (.int .i64 (coL t pl)) ∧ Sat w0 w' [] := by
  have hdr := ht.ops.rs
  have hdl := ht.ops.len
  have hw := Sat.start w0
  refine calls_of_vc (args := [.pointer (some q), pv]) mixed Tryz.func67 rfl (by kernel_rfl) (Nat.le_of_ble_eq_true rfl) ?_
  repeat (first | refine go_run ?_ | (refine go_newP ?_; clear hw; intro p w hw) | (refine go_newW ?_; clear hw; intro w hw) | (refine go_newS ?_; clear hw; intro s w hw))
  refine vc_loop2 [5, 7, 10, 11, 12, 13, 14, 15, 16, 17, 18, 19, 20, 21, 22, 23, 24, 25] (G := Nat) (H := Int) (fun k m => [(10, .int .i64 k), (5, .int .i64 m)]) (fun k m w => k ≤ pl.length ∧ m = coL t (pl.take k) ∧ Sat w0 w []) (fun k _ => pl.length - k) 0 0 (fun _ _ => rfl) ⟨rfl, rfl, trivial⟩ ⟨Nat.zero_le _, rfl, hw⟩ ?_
  clear hw
  rintro σ3 k m w ⟨hk, hm, hw⟩
  repeat (first | refine go_run ?_ | (refine go_newP ?_; clear hw; intro p w hw) | (refine go_newW ?_; clear hw; intro w hw) | (refine go_newS ?_; clear hw; intro s w hw))
  refine go_if (fun h2 => ?_) (fun h2 => ?_)
  · have hkl : k < pl.length := by omega
    obtain ⟨p1, p2, p3⟩ := hP.at_ hkl
    have hcr := coL_rng hg hP (k := k) (by omega)
    rw [← hm] at hcr
    have hco : (eget tOp vs (pl.getD k tInt.dflt).toNat).cost = opC t (pl.getD k tInt.dflt).toNat := (ht.ops.at_ _ p2).cost
    have hcr2 := opC_rng hg p2
    repeat (first | refine go_run ?_ | (refine go_newP ?_; clear hw; intro p w hw) | (refine go_newW ?_; clear hw; intro w hw) | (refine go_newS ?_; clear hw; intro s w hw))
    refine ⟨k + 1, _, ⟨rfl, rfl, trivial⟩, by repeat (first | exact agree_refl | (apply agree_upd rfl) | (apply agree_mix rfl) | (apply agree_sets rfl)), ⟨by omega, ?_, hw⟩, by omega⟩
    rw [take_snoc tInt.dflt hkl, coL_snoc, ← hm, hco]
  have hke : k = pl.length := by omega
  subst hke
  rw [List.take_of_length_le (Nat.le_refl _)] at hm
  repeat (first | refine go_run ?_ | (refine go_newP ?_; clear hw; intro p w hw) | (refine go_newW ?_; clear hw; intro w hw) | (refine go_newS ?_; clear hw; intro s w hw))
  exact res_one (v := .int .i64 m) rfl rfl ⟨by rw [hm], hw⟩
end Go.Proofs.YtegndanecnicaaaGreat
