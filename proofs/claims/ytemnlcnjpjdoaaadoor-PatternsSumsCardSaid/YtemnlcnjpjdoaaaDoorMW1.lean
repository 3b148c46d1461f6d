/-
  Several texts as one: LiftT, WBits, LiftC, LiftU16.
-/
import Derived.Test.YtemnlcnjpjdoaaaDoorRows
import Derived.Test.YtemnlcnjpjdoaaaDoorMTA
import Derived.Test.YtemnlcnjpjdoaaaDoorMSlB
import Derived.Test.YtemnlcnjpjdoaaaDoorTypes
import Derived.ProofKit
import Derived.ChangeOld
import Derived.Carry
import Derived.OpenShut
import Derived.Test.YtemnlcnjpjdoaaaDoorTie
import Derived.Test.YtemnlcnjpjdoaaaDoorCards
import Derived.LaidMore
import Derived.LaidHandle
import Derived.Lib.LaidTab
import Derived.Stop.Joined
import Derived.SevenTiedAt
set_option linter.unusedSimpArgs false
set_option linter.unusedVariables false

/-
  How the arguments of the statements are read: tasks, lists of numbers, small numbers.
-/
namespace Go.Proofs.YtemnlcnjpjdoaaaDoor
open Go.Sl Go.ChangeShapes Go.WideShapes Go.ChangeAt Go.RowKit

theorem own : ownKnob Tryd.prog.godebug = none := by kernel_rfl
theorem laidOut : laidOutB Tryd.prog = true := by kernel_rfl
theorem wf_int {n : Int} (h : (Lit.int .i64 n).wf = true) : -9223372036854775808 ≤ n ∧ n ≤ 9223372036854775807 := by
  simpa [Lit.wf, IntKind.min, IntKind.max, IntKind.signed, IntKind.bits] using h
section
variable {H : Type} {enc : TypeId × Value → H} {w : World} {base : Nat} {spare : Nat → Bool} {held : Bool}
end
end Go.Proofs.YtemnlcnjpjdoaaaDoor

/-
  Contracts of math/bits: the least bit, and a number of bits.
-/
namespace Go.Proofs.YtemnlcnjpjdoaaaDoor
open Go.Sl Go
attribute [local irreducible] vc opsW opsD opV opW PureV ReadV Thn Blk
instance : IntT Tryd.prog 91 .u64 := ⟨by kernel_rfl⟩
instance : IntT Tryd.prog 3 .i64 := ⟨by kernel_rfl⟩
instance : IntT Tryd.prog 5 .u8 := ⟨by kernel_rfl⟩
instance : ArrT Tryd.prog 137 64 := ⟨5, by kernel_rfl, fun w => by kernel_rfl⟩
def tzTab : List Int := [0, 1, 56, 2, 57, 49, 28, 3, 61, 58, 42, 50, 38, 29, 17, 4, 62, 47, 59, 36, 45, 43, 51, 22, 53, 39, 33, 30, 24, 18, 12, 5, 63, 55, 48, 27, 60, 41, 37, 16, 46, 35, 44, 21, 52, 32, 23, 11, 54, 26, 40, 15, 34, 20, 31, 10, 25, 14, 19, 9, 13, 8, 7, 6]
/-- The table lies where the package laid it. -/
def TabB (w : World) : Prop := BoxR w ⟨0, 0, none⟩ (tzTab.map (Value.int .u8))
theorem TabB.at {w0 w : World} {Γ : List HP} (h : TabB w0) (hw : Sat w0 w Γ) : TabB w := BoxR.at h hw
theorem tz_tab : ∀ v : Nat, v < 64 → tzTab[2 ^ v * 285870213051353865 % 18446744073709551616 / 2 ^ 58]? = some (v : Int) := by decide +kernel
theorem TabB.cell {w : World} (h : TabB w) {v : Nat} (hv : v < 64) : w.cell? ((⟨0, 0, none⟩ : Addr).add ((2 ^ v * 285870213051353865 % 18446744073709551616 / 2 ^ 58 : Nat) : Int).toNat) = some (.int .u8 (v : Int)) := by
  refine h _ _ ?_
  rw [Int.toNat_natCast, List.getElem?_map, tz_tab v hv]; rfl
set_option maxRecDepth 8000 in
theorem tz_spec {w0 w : World} {Γ : List HP} {x v : Nat} (hw : Sat w0 w Γ) (hT : TabB w0) (hx : x < 18446744073709551616) (hl : Low x v) :
    Calls Tryd.prog 47 #[u64 x] w fun e w' => e = .returned (.int .i64 (v : Int)) ∧ w' = w := by
  have hT' := hT.at hw
  have hv : v < 64 := low_lt hl hx
  have h0 : 0 < x := Nat.pos_of_ne_zero fun e => by have := hl.1; subst e; simp [ib] at this
  have hc := hT'.cell hv
  have hd0 : decide ((x : Int) = 0) = false := decide_eq_false (by omega)
  have hng : x &&& (18446744073709551616 - x) = 2 ^ v := low_neg hl hx
  have hidx : 2 ^ v * 285870213051353865 % 18446744073709551616 / 2 ^ 58 < 64 := by
    have : 2 ^ v * 285870213051353865 % 18446744073709551616 < 18446744073709551616 := Nat.mod_lt _ (by decide)
    exact Nat.div_lt_of_lt_mul (by omega)
  refine calls_of_vc (args := [u64 x]) mixed Tryd.func47 rfl (by kernel_rfl) (Nat.le_of_ble_eq_true rfl) ?_
  repeat (first | refine go_runC ?_ | (refine go_newP ?_; clear hw; intro p w hw) | (refine go_newW ?_; clear hw; intro w hw) | (refine go_newS ?_; clear hw; intro s w hw))
  simp only [hd0]
  repeat (first | refine go_run ?_ | (refine go_newP ?_; clear hw; intro p w hw) | (refine go_newW ?_; clear hw; intro w hw) | (refine go_newS ?_; clear hw; intro s w hw))
  refine step_pure rfl (pv_neg64 (a := x) rfl h0 hx) ?_
  refine step_pure rfl (pv_and64 (a := x) (b := 18446744073709551616 - x) rfl rfl hx (by omega)) ?_
  rw [hng]
  refine step_pure rfl (pv_mul64 (a := 2 ^ v) (b := 285870213051353865) rfl rfl) ?_
  refine step_pure rfl (pv_shr64 (a := 2 ^ v * 285870213051353865 % 18446744073709551616) (b := 58) (k := .u64) rfl rfl (by decide)) ?_
  refine step_pure rfl (pv_indexArr (n := 64) (j := ((2 ^ v * 285870213051353865 % 18446744073709551616 / 2 ^ 58 : Nat) : Int)) rfl rfl (Int.natCast_nonneg _) (by omega)) ?_
  refine step_read rfl (rv_cell rfl hc) ?_
  refine step_pure rfl (pv_conv (ks := .u8) (n := (v : Int)) rfl (by omega) (by omega)) ?_
  repeat (first | refine go_run ?_ | (refine go_newP ?_; clear hw; intro p w hw) | (refine go_newW ?_; clear hw; intro w hw) | (refine go_newS ?_; clear hw; intro s w hw))
  exact res_one (v := .int .i64 (v : Int)) rfl rfl ⟨rfl, rfl⟩
set_option maxRecDepth 8000 in
theorem ones_spec {w : World} {x : Nat} (hx : x < 18446744073709551616) :
    Calls Tryd.prog 48 #[u64 x] w fun e w' => (∃ k : Int, e = .returned (.int .i64 k) ∧ 0 ≤ k ∧ k ≤ 127) ∧ w' = w := by
  have hw := Sat.start w
  refine calls_of_vc (args := [u64 x]) mixed Tryd.func48 rfl (by kernel_rfl) (Nat.le_of_ble_eq_true rfl) ?_
  repeat (first | refine go_run ?_ | (refine any_shr rfl rfl (by assumption) (by decide) ?_; intro v hv) | (refine any_and rfl rfl (by assumption) (by first | assumption | decide) ?_; intro v hv) | (refine any_add rfl rfl ?_; intro v hv) | (refine any_conv rfl rfl ?_; intro z) | (refine any_low7 rfl rfl ?_; intro z hz0 hz1))
  exact res_one (v := .int .i64 z) rfl rfl ⟨⟨z, rfl, hz0, hz1⟩, rfl⟩
end Go.Proofs.YtemnlcnjpjdoaaaDoor

/-
  What a row that lists the table of math/bits asks and gives.
-/
namespace Go.Proofs.YtemnlcnjpjdoaaaDoor
open Go.Sl Go
def laidL : List (String × DataW Unit) := [("math/bits.deBruijn64tab", Rows.laid_math_bits_deBruijn64tab)]
theorem door_met (os : Os) (args : Array Value) : laidMetH Tryd.prog laidL ((World.doorLaid Tryd.prog 14 os).forCall (fun _ _ => 0) ⟨#[], args, []⟩).memory :=
  laidMetH_of_parts3 (fuel := 8) (laidMet_of_run' 8 (by kernel_rfl) (by kernel_rfl)) (by kernel_rfl) (by kernel_rfl)
theorem tabB_of {W : World} (h : laidMetH Tryd.prog laidL W) : TabB W := by
  rw [MakeChecks.laidMetH_plain _ _ _ (by kernel_rfl)] at h
  have ht : Lib.TabIs Tryd.prog W "math/bits.deBruijn64tab" .u8 tzTab := Lib.tabIs_of_head (rest := []) (g := 0) (t := 137) (e := 5) (n := 64) (by kernel_rfl) (by kernel_rfl) (by kernel_rfl) (by kernel_rfl) (by kernel_rfl) (by kernel_rfl) h
  intro j v hv
  rw [List.getElem?_map, Option.map_eq_some_iff] at hv
  obtain ⟨z, hz, rfl⟩ := hv
  have hj : j < tzTab.length := by
    rcases Nat.lt_or_ge j tzTab.length with h | h
    · exact h
    · rw [List.getElem?_eq_none h] at hz; cases hz
  have hc := ht.cell (g := 0) (by kernel_rfl) j hj
  have e : (⟨0, 0, none⟩ : Addr).add j = ⟨0, j, none⟩ := by
    unfold Addr.add; split
    · rename_i h0; subst h0; rfl
    · simp
  rw [e, hc]
  simp [List.getD, hz]
end Go.Proofs.YtemnlcnjpjdoaaaDoor

/-
  How lists of uint16 are read.
-/
namespace Go.Proofs.YtemnlcnjpjdoaaaDoor
open Go.Sl Go.ChangeShapes Go.WideShapes Go.ChangeAt Go.RowKit
theorem cells_u16 : Tryd.prog.cellsOf 29 = 1 := by kernel_rfl
set_option maxRecDepth 100000 in
theorem rd_u16s {H : Type} {enc : TypeId × Value → H} {w : World} {base : Nat} {spare : Nat → Bool} {held : Bool} {v : Value} {r : Reach} {b0 : Nat} {d : DataW H} {p : List MemPlace} (hv : Value.okWide Tryd.prog w r b0 22 v) (h : DataW.Trod enc Tryd.prog w base spare held 22 v d p) :
    ∃ xs, RS tU16 w v xs ∧ ∀ x ∈ xs, 0 ≤ x ∧ x ≤ 65535 := by
  obtain ⟨a, len, cap, rfl⟩ := WideShapes.okWide_slice Tryd.underlying22 hv
  obtain ⟨fuel, h⟩ := h
  obtain ⟨v', e1, xs, hx, hr⟩ := rd_slice Tryd.underlying22 cells_u16 (by decide) (rd_u16 Tryd.underlying29) _ _ _ h
  simp [Value.cells, tVal] at e1
  subst e1
  exact ⟨xs, hx, hr⟩
end Go.Proofs.YtemnlcnjpjdoaaaDoor
