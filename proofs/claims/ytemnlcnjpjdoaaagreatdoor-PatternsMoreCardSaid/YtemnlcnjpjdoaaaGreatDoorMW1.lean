/-
  Several texts as one: LiftT, WBits, LiftC, LiftU16.
-/
import Derived.Test.YtemnlcnjpjdoaaaGreatDoorRows
import Derived.Test.YtemnlcnjpjdoaaaGreatDoorMTA
import Derived.Test.YtemnlcnjpjdoaaaGreatDoorMSlB
import Derived.Test.YtemnlcnjpjdoaaaGreatDoorTypes
import Derived.ProofKit
import Derived.ChangeOld
import Derived.Carry
import Derived.OpenShut
import Derived.Test.YtemnlcnjpjdoaaaGreatDoorTie
import Derived.Test.YtemnlcnjpjdoaaaGreatDoorCards
import Derived.LaidMore
import Derived.LaidHandle
import Derived.Lib.LaidTab
import Derived.Stop.Joined
import Derived.SevenTiedAt
set_option linter.unusedSimpArgs false
set_option linter.unusedVariables false

/-
  How the arguments of the statements are read: tasks, lists of numbers, small numbers.
-/
namespace Go.Proofs.YtemnlcnjpjdoaaaGreatDoor
open Go.Sl Go.ChangeShapes Go.WideShapes Go.ChangeAt Go.RowKit

theorem own : ownKnob Tryz.prog.godebug = none := by kernel_rfl
theorem laidOut : laidOutB Tryz.prog = true := by kernel_rfl
theorem cells_int : Tryz.prog.cellsOf 3 = 1 := by kernel_rfl
theorem cells_str : Tryz.prog.cellsOf 9 = 1 := by kernel_rfl
theorem cells_fact : Tryz.prog.cellsOf 84 = 2 := by kernel_rfl
theorem cells_facts : Tryz.prog.cellsOf 23 = 1 := by kernel_rfl
theorem cells_eff : Tryz.prog.cellsOf 117 = 3 := by kernel_rfl
theorem cells_effs : Tryz.prog.cellsOf 56 = 1 := by kernel_rfl
theorem cells_op : Tryz.prog.cellsOf 58 = 4 := by kernel_rfl
theorem cells_ops : Tryz.prog.cellsOf 24 = 1 := by kernel_rfl
theorem cells_ints : Tryz.prog.cellsOf 22 = 1 := by kernel_rfl
theorem cells_task : Tryz.prog.cellsOf 26 = 4 := by kernel_rfl

theorem wf_u16 {n : Int} (h : (Lit.int .u16 n).wf = true) : 0 ≤ n ∧ n ≤ 65535 := by
  simpa [Lit.wf, IntKind.min, IntKind.max, IntKind.signed, IntKind.bits] using h
section
variable {H : Type} {enc : TypeId × Value → H} {w : World} {base : Nat} {spare : Nat → Bool} {held : Bool}
theorem rd_fact : Rd enc Tryz.prog w base spare held 84 tFact fun _ => True := by
  intro fuel cs y h
  have hl := rd_len (i := 0) inferInstance cells_fact h
  match cs, hl with
  | [c0, c1], _ =>
    obtain ⟨_, _, h0⟩ := rd_field (i := 0) inferInstance cells_int h
    obtain ⟨_, _, h1⟩ := rd_field (i := 1) inferInstance cells_int h
    obtain ⟨x0, e0, _⟩ := rd_int Tryz.underlying3 _ _ _ h0
    obtain ⟨x1, e1, _⟩ := rd_int Tryz.underlying3 _ _ _ h1
    simp [tInt] at e0 e1
    subst e0 e1
    exact ⟨⟨x0, x1⟩, rfl, trivial⟩
theorem rd_eff : Rd enc Tryz.prog w base spare held 117 tEff fun x => ∃ e, REff w x e := by
  intro fuel cs y h
  have hl := rd_len (i := 0) inferInstance cells_eff h
  match cs, hl with
  | [c0, c1, c2], _ =>
    obtain ⟨_, _, h0⟩ := rd_field (i := 0) inferInstance cells_facts h
    obtain ⟨_, _, h1⟩ := rd_field (i := 1) inferInstance cells_int h
    obtain ⟨_, _, h2⟩ := rd_field (i := 2) inferInstance cells_int h
    obtain ⟨a, e0, f, hf, _⟩ := rd_slice Tryz.underlying23 cells_fact (by decide) rd_fact _ _ _ h0
    obtain ⟨x1, e1, _⟩ := rd_int Tryz.underlying3 _ _ _ h1
    obtain ⟨x2, e2, _⟩ := rd_int Tryz.underlying3 _ _ _ h2
    simp [tInt, tVal] at e0 e1 e2
    subst e0 e1 e2
    exact ⟨⟨c0, x1, x2⟩, rfl, ⟨f, x1, x2⟩, rfl, rfl, hf⟩
/-- Behind each value something that it stands for. -/
theorem list_of_all {α β : Type} {Q : α → β → Prop} : ∀ (xs : List α), (∀ x ∈ xs, ∃ y, Q x y) → ∃ ys : List β, xs.length = ys.length ∧ ∀ (i : Nat) x y, xs[i]? = some x → ys[i]? = some y → Q x y
  | [], _ => ⟨[], rfl, by simp⟩
  | x :: xs, h => by
    obtain ⟨ys, hl, hq⟩ := list_of_all xs fun x hx => h x (by simp [hx])
    obtain ⟨y, hy⟩ := h x (by simp)
    refine ⟨y :: ys, by simp [hl], fun i a b ha hb => ?_⟩
    cases i with
    | zero => simp at ha hb; subst ha hb; exact hy
    | succ i => simp at ha hb; exact hq i a b ha hb
theorem rd_effs {s : Value} {vs : List EffV} (hs : RS tEff w s vs) (h : ∀ x ∈ vs, ∃ e, REff w x e) : ∃ es, REffs w s vs es := by
  obtain ⟨es, hl, hq⟩ := list_of_all vs h
  refine ⟨es, hs, hl, fun i hi => ?_⟩
  rw [eget_eq]
  exact hq i _ _ (by simp [List.getD, show i < vs.length by omega]) (by simp [List.getD, hi])
theorem rd_op : Rd enc Tryz.prog w base spare held 58 tOp fun x => ∃ o, ROp w x o := by
  intro fuel cs y h
  have hl := rd_len (i := 0) inferInstance cells_op h
  match cs, hl with
  | [c0, c1, c2, c3], _ =>
    obtain ⟨_, _, h0⟩ := rd_field (i := 0) inferInstance cells_str h
    obtain ⟨_, _, h1⟩ := rd_field (i := 1) inferInstance cells_int h
    obtain ⟨_, _, h2⟩ := rd_field (i := 2) inferInstance cells_facts h
    obtain ⟨_, _, h3⟩ := rd_field (i := 3) inferInstance cells_effs h
    obtain ⟨x1, e1, _⟩ := rd_int Tryz.underlying3 _ _ _ h1
    obtain ⟨a2, e2, f, hf, _⟩ := rd_slice Tryz.underlying23 cells_fact (by decide) rd_fact _ _ _ h2
    obtain ⟨a3, e3, xs, hx, hg⟩ := rd_slice Tryz.underlying56 cells_eff (by decide) rd_eff _ _ _ h3
    obtain ⟨nm, e0, _, hnm⟩ := DataW.trod_string Tryz.underlying9 h0
    simp [tInt, tVal] at e0 e1 e2 e3
    subst e0 e1 e2 e3
    obtain ⟨es, hes⟩ := rd_effs hx hg
    exact ⟨⟨nm, x1, c2, c3⟩, rfl, ⟨nm, x1, f, es⟩, rfl, hnm, rfl, hf, xs, hes⟩
theorem rd_ops {s : Value} {vs : List OpV} (hs : RS tOp w s vs) (h : ∀ x ∈ vs, ∃ o, ROp w x o) : ∃ os, ROps w s vs os := by
  obtain ⟨os, hl, hq⟩ := list_of_all vs h
  refine ⟨os, hs, hl, fun i hi => ?_⟩
  rw [eget_eq]
  exact hq i _ _ (by simp [List.getD, show i < vs.length by omega]) (by simp [List.getD, hi])
set_option maxRecDepth 100000 in
theorem rd_task {v : Value} {r : Reach} {b0 : Nat} {d : DataW H} {p : List MemPlace} (hv : Value.okWide Tryz.prog w r b0 26 v) (h : DataW.Trod enc Tryz.prog w base spare held 26 v d p) :
    ∃ a b c d vs t, v = .agg #[a, b, c, d] ∧ RTask w a b c d vs t := by
  obtain ⟨cs, rfl, _⟩ := okWide_struct Tryz.underlying26 hv
  obtain ⟨fuel, h⟩ := h
  obtain ⟨l⟩ := cs
  have hl := rd_len (i := 0) inferInstance cells_task h
  simp only [Value.cells] at hl h
  match l, hl with
  | [c0, c1, c2, c3], _ =>
    obtain ⟨_, _, h0⟩ := rd_field (i := 0) inferInstance cells_ints h
    obtain ⟨_, _, h1⟩ := rd_field (i := 1) inferInstance cells_ints h
    obtain ⟨_, _, h2⟩ := rd_field (i := 2) inferInstance cells_facts h
    obtain ⟨_, _, h3⟩ := rd_field (i := 3) inferInstance cells_ops h
    obtain ⟨a0, e0, vars, hvars, _⟩ := rd_slice Tryz.underlying22 cells_int (by decide) (rd_int Tryz.underlying3) _ _ _ h0
    obtain ⟨a1, e1, ini, hini, _⟩ := rd_slice Tryz.underlying22 cells_int (by decide) (rd_int Tryz.underlying3) _ _ _ h1
    obtain ⟨a2, e2, f, hf, _⟩ := rd_slice Tryz.underlying23 cells_fact (by decide) rd_fact _ _ _ h2
    obtain ⟨a3, e3, xs, hx, hg⟩ := rd_slice Tryz.underlying24 cells_op (by decide) rd_op _ _ _ h3
    simp [tVal] at e0 e1 e2 e3
    subst e0 e1 e2 e3
    obtain ⟨os, hos⟩ := rd_ops hx hg
    exact ⟨c0, c1, c2, c3, xs, ⟨vars, ini, f, os⟩, rfl, hvars, hini, hf, hos⟩
end
end Go.Proofs.YtemnlcnjpjdoaaaGreatDoor

/-
  Contracts of math/bits: the least bit, and a number of bits.
-/
namespace Go.Proofs.YtemnlcnjpjdoaaaGreatDoor
open Go.Sl Go
attribute [local irreducible] vc opsW opsD opV opW PureV ReadV Thn Blk
instance : IntT Tryz.prog 147 .u64 := ⟨by kernel_rfl⟩
instance : IntT Tryz.prog 3 .i64 := ⟨by kernel_rfl⟩
instance : IntT Tryz.prog 5 .u8 := ⟨by kernel_rfl⟩
instance : ArrT Tryz.prog 174 64 := ⟨5, by kernel_rfl, fun w => by kernel_rfl⟩
def tzTab : List Int := [0, 1, 56, 2, 57, 49, 28, 3, 61, 58, 42, 50, 38, 29, 17, 4, 62, 47, 59, 36, 45, 43, 51, 22, 53, 39, 33, 30, 24, 18, 12, 5, 63, 55, 48, 27, 60, 41, 37, 16, 46, 35, 44, 21, 52, 32, 23, 11, 54, 26, 40, 15, 34, 20, 31, 10, 25, 14, 19, 9, 13, 8, 7, 6]
/-- The table lies where the package laid it. -/
def TabB (w : World) : Prop := BoxR w ⟨0, 0, none⟩ (tzTab.map (Value.int .u8))
theorem TabB.at {w0 w : World} {Γ : List HP} (h : TabB w0) (hw : Sat w0 w Γ) : TabB w := BoxR.at h hw
theorem tz_tab : ∀ v : Nat, v < 64 → tzTab[2 ^ v * 285870213051353865 % 18446744073709551616 / 2 ^ 58]? = some (v : Int) := by decide +kernel
theorem TabB.cell {w : World} (h : TabB w) {v : Nat} (hv : v < 64) : w.cell? ((⟨0, 0, none⟩ : Addr).add ((2 ^ v * 285870213051353865 % 18446744073709551616 / 2 ^ 58 : Nat) : Int).toNat) = some (.int .u8 (v : Int)) := by
  refine h _ _ ?_
  rw [Int.toNat_natCast, List.getElem?_map, tz_tab v hv]; rfl
set_option maxRecDepth 8000 in
theorem tz_spec {w0 w : World} {Γ : List HP} {x v : Nat} (hw : Sat w0 w Γ) (hT : TabB w0) (hx : x < 18446744073709551616) (hl : Low x v) :
    Calls Tryz.prog 95 #[u64 x] w fun e w' => e = .returned (.int .i64 (v : Int)) ∧ w' = w := by
  have hT' := hT.at hw
  have hv : v < 64 := low_lt hl hx
  have h0 : 0 < x := Nat.pos_of_ne_zero fun e => by have := hl.1; subst e; simp [ib] at this
  have hc := hT'.cell hv
  have hd0 : decide ((x : Int) = 0) = false := decide_eq_false (by omega)
  have hng : x &&& (18446744073709551616 - x) = 2 ^ v := low_neg hl hx
  have hidx : 2 ^ v * 285870213051353865 % 18446744073709551616 / 2 ^ 58 < 64 := by
    have : 2 ^ v * 285870213051353865 % 18446744073709551616 < 18446744073709551616 := Nat.mod_lt _ (by decide)
    exact Nat.div_lt_of_lt_mul (by omega)
  refine calls_of_vc (args := [u64 x]) mixed Tryz.func95 rfl (by kernel_rfl) (Nat.le_of_ble_eq_true rfl) ?_
  repeat (first | refine go_runC ?_ | (refine go_newP ?_; clear hw; intro p w hw) | (refine go_newW ?_; clear hw; intro w hw) | (refine go_newS ?_; clear hw; intro s w hw))
  simp only [hd0]
  repeat (first | refine go_run ?_ | (refine go_newP ?_; clear hw; intro p w hw) | (refine go_newW ?_; clear hw; intro w hw) | (refine go_newS ?_; clear hw; intro s w hw))
  refine step_pure rfl (pv_neg64 (a := x) rfl h0 hx) ?_
  refine step_pure rfl (pv_and64 (a := x) (b := 18446744073709551616 - x) rfl rfl hx (by omega)) ?_
  rw [hng]
  refine step_pure rfl (pv_mul64 (a := 2 ^ v) (b := 285870213051353865) rfl rfl) ?_
  refine step_pure rfl (pv_shr64 (a := 2 ^ v * 285870213051353865 % 18446744073709551616) (b := 58) (k := .u64) rfl rfl (by decide)) ?_
  refine step_pure rfl (pv_indexArr (n := 64) (j := ((2 ^ v * 285870213051353865 % 18446744073709551616 / 2 ^ 58 : Nat) : Int)) rfl rfl (Int.natCast_nonneg _) (by omega)) ?_
  refine step_read rfl (rv_cell rfl hc) ?_
  refine step_pure rfl (pv_conv (ks := .u8) (n := (v : Int)) rfl (by omega) (by omega)) ?_
  repeat (first | refine go_run ?_ | (refine go_newP ?_; clear hw; intro p w hw) | (refine go_newW ?_; clear hw; intro w hw) | (refine go_newS ?_; clear hw; intro s w hw))
  exact res_one (v := .int .i64 (v : Int)) rfl rfl ⟨rfl, rfl⟩
set_option maxRecDepth 8000 in
theorem ones_spec {w : World} {x : Nat} (hx : x < 18446744073709551616) :
    Calls Tryz.prog 96 #[u64 x] w fun e w' => (∃ k : Int, e = .returned (.int .i64 k) ∧ 0 ≤ k ∧ k ≤ 127) ∧ w' = w := by
  have hw := Sat.start w
  refine calls_of_vc (args := [u64 x]) mixed Tryz.func96 rfl (by kernel_rfl) (Nat.le_of_ble_eq_true rfl) ?_
  repeat (first | refine go_run ?_ | (refine any_shr rfl rfl (by assumption) (by decide) ?_; intro v hv) | (refine any_and rfl rfl (by assumption) (by first | assumption | decide) ?_; intro v hv) | (refine any_add rfl rfl ?_; intro v hv) | (refine any_conv rfl rfl ?_; intro z) | (refine any_low7 rfl rfl ?_; intro z hz0 hz1))
  exact res_one (v := .int .i64 z) rfl rfl ⟨⟨z, rfl, hz0, hz1⟩, rfl⟩
end Go.Proofs.YtemnlcnjpjdoaaaGreatDoor

/-
  What a row that lists the table of math/bits asks and gives.
-/
namespace Go.Proofs.YtemnlcnjpjdoaaaGreatDoor
open Go.Sl Go
def laidL : List (String × DataW Unit) := [("math/bits.deBruijn64tab", Rows.laid_math_bits_deBruijn64tab)]
theorem door_met (os : Os) (args : Array Value) : laidMetH Tryz.prog laidL ((World.doorLaid Tryz.prog 14 os).forCall (fun _ _ => 0) ⟨#[], args, []⟩).memory :=
  laidMetH_of_parts3 (fuel := 8) (laidMet_of_run' 8 (by kernel_rfl) (by kernel_rfl)) (by kernel_rfl) (by kernel_rfl)
theorem tabB_of {W : World} (h : laidMetH Tryz.prog laidL W) : TabB W := by
  rw [MakeChecks.laidMetH_plain _ _ _ (by kernel_rfl)] at h
  have ht : Lib.TabIs Tryz.prog W "math/bits.deBruijn64tab" .u8 tzTab := Lib.tabIs_of_head (rest := []) (g := 0) (t := 174) (e := 5) (n := 64) (by kernel_rfl) (by kernel_rfl) (by kernel_rfl) (by kernel_rfl) (by kernel_rfl) (by kernel_rfl) h
  intro j v hv
  rw [List.getElem?_map, Option.map_eq_some_iff] at hv
  obtain ⟨z, hz, rfl⟩ := hv
  have hj : j < tzTab.length := by
    rcases Nat.lt_or_ge j tzTab.length with h | h
    · exact h
    · rw [List.getElem?_eq_none h] at hz; cases hz
  have hc := ht.cell (g := 0) (by kernel_rfl) j hj
  have e : (⟨0, 0, none⟩ : Addr).add j = ⟨0, j, none⟩ := by
    unfold Addr.add; split
    · rename_i h0; subst h0; rfl
    · simp
  rw [e, hc]
  simp [List.getD, hz]
end Go.Proofs.YtemnlcnjpjdoaaaGreatDoor

/-
  How lists of uint16 are read.
-/
namespace Go.Proofs.YtemnlcnjpjdoaaaGreatDoor
open Go.Sl Go.ChangeShapes Go.WideShapes Go.ChangeAt Go.RowKit
theorem cells_u16 : Tryz.prog.cellsOf 59 = 1 := by kernel_rfl
set_option maxRecDepth 100000 in
theorem rd_u16s {H : Type} {enc : TypeId × Value → H} {w : World} {base : Nat} {spare : Nat → Bool} {held : Bool} {v : Value} {r : Reach} {b0 : Nat} {d : DataW H} {p : List MemPlace} (hv : Value.okWide Tryz.prog w r b0 37 v) (h : DataW.Trod enc Tryz.prog w base spare held 37 v d p) :
    ∃ xs, RS tU16 w v xs ∧ ∀ x ∈ xs, 0 ≤ x ∧ x ≤ 65535 := by
  obtain ⟨a, len, cap, rfl⟩ := WideShapes.okWide_slice Tryz.underlying37 hv
  obtain ⟨fuel, h⟩ := h
  obtain ⟨v', e1, xs, hx, hr⟩ := rd_slice Tryz.underlying37 cells_u16 (by decide) (rd_u16 Tryz.underlying59) _ _ _ h
  simp [Value.cells, tVal] at e1
  subst e1
  exact ⟨xs, hx, hr⟩
end Go.Proofs.YtemnlcnjpjdoaaaGreatDoor
