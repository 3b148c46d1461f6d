
/-
  The example of layer 43, 'awake' and 'picked'.
-/
import Derived.Test.YtemnlcnjpjdoaaaGreatDoorWSatVal
import Derived.Test.YtemnlcnjpjdoaaaGreatDoorTCalc
import Derived.Test.YtemnlcnjpjdoaaaGreatDoorMW7
import Derived.Test.YtemnlcnjpjdoaaaGreatDoorMSlB
set_option linter.unusedSimpArgs false
set_option linter.unusedVariables false
namespace Go.Proofs.YtemnlcnjpjdoaaaGreatDoor
open Go.Sl Go
attribute [local irreducible] vc opsW opsD opV opW PureV ReadV Thn Blk
def exST : TTask := ⟨[2, 2], [0, 0], [⟨0, 1⟩, ⟨1, 1⟩], [⟨ByteArray.empty, 5, [], [⟨[], 0, 1⟩, ⟨[], 1, 1⟩]⟩]⟩
theorem exSGood : GoodT exST := by
  refine ⟨by decide, by decide, by decide, by decide, by decide, fun i hi => ?_⟩
  have h0 : i = 0 := by simp [exST] at hi; exact hi
  subst h0
  refine ⟨by decide, by decide, by decide, ⟨Nat.le_of_ble_eq_true rfl, fun i hi => absurd hi (Nat.not_lt_zero _)⟩, by decide, fun j hj => ?_⟩
  have h1 : j = 0 ∨ j = 1 := by simp [exST] at hj; omega
  rcases h1 with rfl | rfl
  · exact ⟨by decide, by decide⟩
  · exact ⟨by decide, by decide⟩
theorem exSE0 : edgesC exST [0] = [⟨0, 0, 1⟩, ⟨1, 0, 1⟩] := by decide +kernel
theorem exSE1 : edgesC exST [1] = [⟨0, 0, 1⟩, ⟨1, 0, 1⟩] := by decide +kernel
theorem exSG0 : goalsC exST [0] = [false, true] := by decide +kernel
theorem exSG1 : goalsC exST [1] = [false, true] := by decide +kernel
theorem exSP0 : pErr exST [0] = 0 := by
  rw [pErr_ok (chkP_zero.2 ⟨exSGood, by decide⟩), pErr0, if_neg (by decide +kernel), if_neg (noBig exSGood.pos (by decide +kernel)), if_neg (by rw [pEdges_calc, exSE0]; decide)]
theorem exSP1 : pErr exST [1] = 0 := by
  rw [pErr_ok (chkP_zero.2 ⟨exSGood, by decide⟩), pErr0, if_neg (by decide +kernel), if_neg (noBig exSGood.pos (by decide +kernel)), if_neg (by rw [pEdges_calc, exSE1]; decide)]
theorem dist_conc {t : TTask} {L cs D : List Int} {r : List Nat} {E : List Edg} {gs : List Bool} {n : Nat} (hn : (cntL t.vars L).toNat = n) (hEe : edgesC t L = E) (hgs : goalsC t L = gs) (hc : cs.length = t.ops.length ∧ ∀ x ∈ cs, 0 ≤ x ∧ x ≤ 1099511627776) (h : distC E cs gs n D r = true) : DistOk (pEdges t L) cs (GoalPK t L) (cntL t.vars L).toNat D := by
  have hE := eok_P (L := L) hc
  rw [hn] at hE ⊢
  rw [pEdges_calc, hEe] at hE ⊢
  have e : GoalPK t L = fun i => gs.getD i.toNat false = true := by
    funext i
    unfold GoalPK
    rw [goalsK_calc, hgs]
    rfl
  rw [e]
  exact distC_ok hE h
theorem exSRun : Run exST [[0], [1]] (costsT exST) [[5, 0], [0, 0]] [[5], [0]] := by
  refine ⟨rfl, rfl, fun k hk => ?_, fun k hk => ?_⟩
  · have : k = 0 ∨ k = 1 := by simp at hk; omega
    rcases this with rfl | rfl
    · exact dist_conc (t := exST) (L := [0]) (cs := [5]) (D := [5, 0]) (r := [1, 0]) (n := 2) (by decide +kernel) exSE0 exSG0 (by decide +kernel) (by decide +kernel)
    · exact dist_conc (t := exST) (L := [1]) (cs := [0]) (D := [0, 0]) (r := [1, 0]) (n := 2) (by decide +kernel) exSE1 exSG1 (by decide +kernel) (by decide +kernel)
  · have : k = 0 ∨ k = 1 := by simp at hk; omega
    rcases this with rfl | rfl
    · show [5] = satL (pEdges exST [0]) [5, 0] 1
      rw [pEdges_calc, exSE0]; decide +kernel
    · show [0] = satL (pEdges exST [1]) [0, 0] 1
      rw [pEdges_calc, exSE1]; decide +kernel
theorem exSPe : ∀ i, i < ([[0], [1]] : List (List Int)).length → pErr exST (([[0], [1]] : List (List Int)).getD i []) = 0 := by
  intro k hk
  have : k = 0 ∨ k = 1 := by simp at hk; omega
  rcases this with rfl | rfl
  · exact exSP0
  · exact exSP1
theorem exSN : nErr exST [[0], [1]] = 0 := by
  unfold nErr
  rw [if_neg (by rw [(good_iff _).2 exSGood]; decide), if_neg ?_, if_neg (by decide)]
  rintro ⟨k, hk, h⟩
  have : k = 0 ∨ k = 1 := by simp at hk; omega
  rcases this with rfl | rfl
  · exact h (by decide)
  · exact h (by decide)
theorem exSV {x y : Int} (hs : StateOk [2, 2] [x, y]) (hx : x = 0) (hy : y = 0 ∨ y = 1) : valPt exST [[0], [1]] [[5, 0], [0, 0]] [x, y] = 5 := by
  have hs' : StateOk exST.vars [x, y] := hs
  subst hx
  rw [valPt_sum hs' fun k hk => ?_]
  · rcases hy with rfl | rfl <;> decide +kernel
  · have : k = 0 ∨ k = 1 := by simp at hk; omega
    rcases this with rfl | rfl <;> rcases hy with rfl | rfl <;> decide +kernel
theorem sat_rls {w0 w : World} {s : Value} {ss : List Value} {Ls : List (List Int)} (h : Sat w0 w [RowsAt tInt 3 ss Ls, OS tVal 22 s ss]) : RLs w s ss Ls := ⟨h.rs 1 rfl, h.rowsLen, fun i hi => h.row hi⟩

end Go.Proofs.YtemnlcnjpjdoaaaGreatDoor
