
/-
  The example of layer 43, 'awake' and 'picked'.
-/
import Derived.Test.YtnoiagnmbipppaaWSatVal
import Derived.Test.YtnoiagnmbipppaaTCalc
import Derived.Test.YtnoiagnmbipppaaWChosen
import Derived.Test.YtnoiagnmbipppaaMSlB
set_option linter.unusedSimpArgs false
set_option linter.unusedVariables false
namespace Go.Proofs.Ytnoiagnmbipppaa
open Go.Sl Go
attribute [local irreducible] vc opsW opsD opV opW PureV ReadV Thn Blk
def exST : TTask := ⟨[2, 2], [0, 0], [⟨0, 1⟩, ⟨1, 1⟩], [⟨ByteArray.empty, 5, [], [⟨[], 0, 1⟩, ⟨[], 1, 1⟩]⟩]⟩
set_option maxRecDepth 8000 in
set_option maxHeartbeats 1000000 in
theorem sexample_spec {w0 : World} :
    Calls Try.prog 56 #[] w0 fun e w' => ∃ a b c d vs, e = .returned (.agg #[a, b, c, d]) ∧ RTask w' a b c d vs exST ∧ Sat w0 w' [] := by
  have hw := Sat.start w0
  refine calls_of_vc (args := []) mixed Try.func56 rfl (by kernel_rfl) (Nat.le_of_ble_eq_true rfl) ?_
  repeat (first | refine go_run ?_ | (refine go_newP ?_; clear hw; intro p w hw) | (refine go_newW ?_; clear hw; intro w hw) | (refine go_newS ?_; clear hw; intro s w hw))
  refine st_buildSlice (T := tInt) [2, 2] [.int .i64 2, .int .i64 2] rfl rfl rfl rfl rfl (Nat.le_of_ble_eq_true rfl) (Nat.zero_lt_succ _) (Nat.le_of_ble_eq_true rfl) hw ?_
  clear hw
  intro s1 w hw
  refine st_buildSlice (T := tInt) [0, 0] [.int .i64 0, .int .i64 0] rfl rfl rfl rfl rfl (Nat.le_of_ble_eq_true rfl) (Nat.zero_lt_succ _) (Nat.le_of_ble_eq_true rfl) hw ?_
  clear hw
  intro s2 w hw
  refine go_build2 ?_
  refine go_build2 ?_
  refine st_buildSlice (T := tFact) [⟨0, 1⟩, ⟨1, 1⟩] [.agg #[.int .i64 0, .int .i64 1], .agg #[.int .i64 1, .int .i64 1]] rfl rfl rfl rfl rfl (Nat.le_of_ble_eq_true rfl) (Nat.zero_lt_succ _) (Nat.le_of_ble_eq_true rfl) hw ?_
  clear hw
  intro s5 w hw
  refine go_build2 ?_
  refine go_build2 ?_
  refine st_buildSlice (T := tEff) [⟨.slice none 0 0, 0, 1⟩, ⟨.slice none 0 0, 1, 1⟩] [.agg #[.slice none 0 0, .int .i64 0, .int .i64 1], .agg #[.slice none 0 0, .int .i64 1, .int .i64 1]] rfl rfl rfl rfl rfl (Nat.le_of_ble_eq_true rfl) (Nat.zero_lt_succ _) (Nat.le_of_ble_eq_true rfl) hw ?_
  clear hw
  intro s7 w hw
  have o7 := (hw.rs 0 rfl).one
  refine st_build2 (v1 := .int .i64 5) (v2 := s7) rfl rfl rfl (by simp only [List.all_cons, List.all_nil, o7]; rfl) ?_
  refine st_buildSlice1 tOp (x1 := ⟨ByteArray.empty, 5, .slice none 0 0, s7⟩) rfl rfl rfl (Nat.le_of_ble_eq_true rfl) (Nat.zero_lt_succ _) hw ?_
  clear hw
  intro s9 w hw
  have o9 := (hw.rs 0 rfl).one
  have o5 := (hw.rs 2 rfl).one
  have o2 := (hw.rs 3 rfl).one
  have o1 := (hw.rs 4 rfl).one
  refine st_build4 (v1 := s1) (v2 := s2) (v3 := s5) (v4 := s9) rfl rfl rfl rfl rfl (by simp only [List.all_cons, List.all_nil, o1, o2, o5, o9]; rfl) ?_
  refine st_boxAgg (n := 4) (p := p) (vs := [s1, s2, s5, s9]) rfl rfl hw inferInstance rfl rfl (by simp only [List.all_cons, List.all_nil, o1, o2, o5, o9]; rfl) ?_
  clear hw
  intro w hw
  repeat (first | refine go_run ?_ | (refine go_newP ?_; clear hw; intro p w hw) | (refine go_newW ?_; clear hw; intro w hw) | (refine go_newS ?_; clear hw; intro s w hw))
  refine res_cell (p := p) (vs := [s1, s2, s5, s9]) rfl rfl rfl (fun j v hv => box_cell (i := 5) hw rfl hv) ⟨s1, s2, s5, s9, [⟨ByteArray.empty, 5, .slice none 0 0, s7⟩], rfl, ⟨hw.rs 4 rfl, hw.rs 3 rfl, hw.rs 2 rfl, ⟨hw.rs 0 rfl, rfl, fun i hi => ?_⟩⟩, sat_none hw⟩
  have h0 : i = 0 := by simp [exST] at hi; exact hi
  subst h0
  rw [eget_eq]
  refine ⟨rfl, Nat.le_of_ble_eq_true rfl, rfl, RS.nil, [⟨.slice none 0 0, 0, 1⟩, ⟨.slice none 0 0, 1, 1⟩], hw.rs 1 rfl, rfl, fun j hj => ?_⟩
  rw [eget_eq]
  have h1 : j = 0 ∨ j = 1 := by simp [exST] at hj; omega
  rcases h1 with rfl | rfl
  · exact ⟨rfl, rfl, RS.nil⟩
  · exact ⟨rfl, rfl, RS.nil⟩
theorem exSGood : GoodT exST := by
  refine ⟨by decide, by decide, by decide, by decide, by decide, fun i hi => ?_⟩
  have h0 : i = 0 := by simp [exST] at hi; exact hi
  subst h0
  refine ⟨by decide, by decide, by decide, ⟨Nat.le_of_ble_eq_true rfl, fun i hi => absurd hi (Nat.not_lt_zero _)⟩, by decide, fun j hj => ?_⟩
  have h1 : j = 0 ∨ j = 1 := by simp [exST] at hj; omega
  rcases h1 with rfl | rfl
  · exact ⟨by decide, by decide⟩
  · exact ⟨by decide, by decide⟩
theorem exSE0 : edgesC exST [0] = [⟨0, 0, 1⟩, ⟨1, 0, 1⟩] := by decide +kernel
theorem exSE1 : edgesC exST [1] = [⟨0, 0, 1⟩, ⟨1, 0, 1⟩] := by decide +kernel
theorem exSG0 : goalsC exST [0] = [false, true] := by decide +kernel
theorem exSG1 : goalsC exST [1] = [false, true] := by decide +kernel
theorem exSP0 : pErr exST [0] = 0 := by
  rw [pErr_ok (chkP_zero.2 ⟨exSGood, by decide⟩), pErr0, if_neg (by decide +kernel), if_neg (noBig exSGood.pos (by decide +kernel)), if_neg (by rw [pEdges_calc, exSE0]; decide)]
theorem exSP1 : pErr exST [1] = 0 := by
  rw [pErr_ok (chkP_zero.2 ⟨exSGood, by decide⟩), pErr0, if_neg (by decide +kernel), if_neg (noBig exSGood.pos (by decide +kernel)), if_neg (by rw [pEdges_calc, exSE1]; decide)]
theorem dist_conc {t : TTask} {L cs D : List Int} {r : List Nat} {E : List Edg} {gs : List Bool} {n : Nat} (hn : (cntL t.vars L).toNat = n) (hEe : edgesC t L = E) (hgs : goalsC t L = gs) (hc : cs.length = t.ops.length ∧ ∀ x ∈ cs, 0 ≤ x ∧ x ≤ 1099511627776) (h : distC E cs gs n D r = true) : DistOk (pEdges t L) cs (GoalPK t L) (cntL t.vars L).toNat D := by
  have hE := eok_P (L := L) hc
  rw [hn] at hE ⊢
  rw [pEdges_calc, hEe] at hE ⊢
  have e : GoalPK t L = fun i => gs.getD i.toNat false = true := by
    funext i
    unfold GoalPK
    rw [goalsK_calc, hgs]
    rfl
  rw [e]
  exact distC_ok hE h
theorem exSRun : Run exST [[0], [1]] (costsT exST) [[5, 0], [0, 0]] [[5], [0]] := by
  refine ⟨rfl, rfl, fun k hk => ?_, fun k hk => ?_⟩
  · have : k = 0 ∨ k = 1 := by simp at hk; omega
    rcases this with rfl | rfl
    · exact dist_conc (t := exST) (L := [0]) (cs := [5]) (D := [5, 0]) (r := [1, 0]) (n := 2) (by decide +kernel) exSE0 exSG0 (by decide +kernel) (by decide +kernel)
    · exact dist_conc (t := exST) (L := [1]) (cs := [0]) (D := [0, 0]) (r := [1, 0]) (n := 2) (by decide +kernel) exSE1 exSG1 (by decide +kernel) (by decide +kernel)
  · have : k = 0 ∨ k = 1 := by simp at hk; omega
    rcases this with rfl | rfl
    · show [5] = satL (pEdges exST [0]) [5, 0] 1
      rw [pEdges_calc, exSE0]; decide +kernel
    · show [0] = satL (pEdges exST [1]) [0, 0] 1
      rw [pEdges_calc, exSE1]; decide +kernel
theorem exSPe : ∀ i, i < ([[0], [1]] : List (List Int)).length → pErr exST (([[0], [1]] : List (List Int)).getD i []) = 0 := by
  intro k hk
  have : k = 0 ∨ k = 1 := by simp at hk; omega
  rcases this with rfl | rfl
  · exact exSP0
  · exact exSP1
theorem exSN : nErr exST [[0], [1]] = 0 := by
  unfold nErr
  rw [if_neg (by rw [(good_iff _).2 exSGood]; decide), if_neg ?_, if_neg (by decide)]
  rintro ⟨k, hk, h⟩
  have : k = 0 ∨ k = 1 := by simp at hk; omega
  rcases this with rfl | rfl
  · exact h (by decide)
  · exact h (by decide)
theorem exSV {x y : Int} (hs : StateOk [2, 2] [x, y]) (hx : x = 0) (hy : y = 0 ∨ y = 1) : valPt exST [[0], [1]] [[5, 0], [0, 0]] [x, y] = 5 := by
  have hs' : StateOk exST.vars [x, y] := hs
  subst hx
  rw [valPt_sum hs' fun k hk => ?_]
  · rcases hy with rfl | rfl <;> decide +kernel
  · have : k = 0 ∨ k = 1 := by simp at hk; omega
    rcases this with rfl | rfl <;> rcases hy with rfl | rfl <;> decide +kernel
theorem sat_rls {w0 w : World} {s : Value} {ss : List Value} {Ls : List (List Int)} (h : Sat w0 w [RowsAt tInt 3 ss Ls, OS tVal 22 s ss]) : RLs w s ss Ls := ⟨h.rs 1 rfl, h.rowsLen, fun i hi => h.row hi⟩

set_option maxRecDepth 8000 in
set_option maxHeartbeats 1000000 in
theorem sawake_spec {w0 : World} : Calls Try.prog 32 #[] w0 fun e w' => e = .returned (.bool true) ∧ Sat w0 w' [] := by
  have hw := Sat.start w0
  refine calls_of_vc (args := []) mixed Try.func32 rfl (by kernel_rfl) (Nat.le_of_ble_eq_true rfl) ?_
  repeat (first | refine go_run ?_ | (refine go_newP ?_; clear hw; intro p w hw) | (refine go_newW ?_; clear hw; intro w hw) | (refine go_newS ?_; clear hw; intro s w hw))
  refine st_call rfl sexample_spec ?_
  rintro _ w' ⟨a, b, c, d, vs, rfl, ht, hk'⟩
  replace hw := hw.call0 hk'
  clear hk'
  refine ⟨_, rfl, ?_⟩
  have hw1 := hw
  clear hw
  have hw := Sat.start w'
  refine go_sl1I ?_
  intro s6 w hw
  refine go_sl1I ?_
  clear hw
  intro s7 w hw
  have c7 := (hw.rs 0 rfl).cells1
  have c6 := (hw.rs 1 rfl).cells1
  have z7 : s7.cells.size = 1 := by have := congrArg List.length c7; simpa using this
  have z6 : s6.cells.size = 1 := by have := congrArg List.length c6; simpa using this
  refine st_buildSlice (T := tVal) [s6, s7] [s6, s7] rfl (by simp [c6, c7, tVal]) (by simp [z6, z7]) rfl rfl (Nat.le_of_ble_eq_true rfl) (Nat.zero_lt_succ _) (Nat.le_of_ble_eq_true rfl) hw ?_
  clear hw
  intro s8 w hw
  have hrl : RLs w s8 [s6, s7] [[0], [1]] := ⟨hw.rs 0 rfl, rfl, fun i hi => by
    have : i = 0 ∨ i = 1 := by simp at hi; omega
    rcases this with rfl | rfl
    · rw [vget_eq]; exact hw.rs 2 rfl
    · rw [vget_eq]; exact hw.rs 1 rfl⟩
  refine st_call rfl (New_spec (ht.at hw) hrl (fun _ _ _ => exSPe)) ?_
  rintro _ w2 (⟨h1, _⟩ | ⟨_, _, _, _, p, Ds, Ps, rfl, hR, hk'⟩)
  · exact absurd exSN h1
  obtain ⟨rfl, rfl⟩ := hR.unique exSRun
  refine ⟨_, rfl, ?_⟩
  replace hw := hw1.call (hw.call hk')
  simp only [List.append_nil, List.cons_append, List.nil_append] at hw
  clear hk' hw1 ht hrl
  have hpt := hw.rdE 0 rfl
  repeat (first | refine go_run ?_ | (refine go_newP ?_; clear hw; intro p w hw) | (refine go_newW ?_; clear hw; intro w hw) | (refine go_newS ?_; clear hw; intro s w hw))
  refine st_call rfl (Parts_spec hpt (by decide) (by decide)) ?_
  rintro _ w' ⟨s, ss, rfl, hk'⟩
  have hpt := hpt.at hk'
  replace hw := hw.call2 hk'
  clear hk'
  refine ⟨_, rfl, ?_⟩
  have hsl := hw.rowsLen
  have hr0 := hw.row (i := 0) (by decide)
  have hr1 := hw.row (i := 1) (by decide)
  simp only [List.length_cons, List.length_nil] at hsl
  have hrs := hw.rs 1 rfl
  have hd2 : decide ((ss.length : Int) = 2) = true := decide_eq_true (by omega)
  repeat (first | refine go_run ?_ | (refine go_newP ?_; clear hw; intro p w hw) | (refine go_newW ?_; clear hw; intro w hw) | (refine go_newS ?_; clear hw; intro s w hw))
  simp only [hd2, gvtt]
  repeat (first | refine go_run ?_ | (refine go_newP ?_; clear hw; intro p w hw) | (refine go_newWr ?_; clear hw; intro w hw) | (refine go_newS ?_; clear hw; intro s w hw))
  obtain ⟨u1, hu1⟩ : ∃ u1, u1 = s := ⟨s, rfl⟩
  subst hu1
  refine st_call rfl (Ints_spec (a := vget ss 0) (b := u1) (xs := [5]) ((hw.focus 1 rfl).row (i := 0) (by decide)) (rsO hw)) ?_
  rintro _ w' ⟨⟨r, rfl, hr⟩, hk'⟩
  replace hw := hw.call0 hk'
  clear hk'
  obtain rfl : r = true := hr.2 rfl
  clear hr
  refine ⟨_, rfl, ?_⟩
  have hrs := hw.rs 2 rfl
  repeat (first | refine go_run ?_ | (refine go_newP ?_; clear hw; intro p w hw) | (refine go_newWr ?_; clear hw; intro w hw) | (refine go_newS ?_; clear hw; intro s w hw))
  obtain ⟨u2, hu2⟩ : ∃ u2, u2 = s := ⟨s, rfl⟩
  subst hu2
  refine st_call rfl (Ints_spec (a := vget ss 1) (b := u2) (xs := [0]) ((hw.focus 2 rfl).row (i := 1) (by decide)) (rsO hw)) ?_
  rintro _ w' ⟨⟨r, rfl, hr⟩, hk'⟩
  replace hw := hw.call0 hk'
  clear hk'
  obtain rfl : r = true := hr.2 rfl
  clear hr
  refine ⟨_, rfl, ?_⟩
  repeat (first | refine go_run ?_ | (refine go_newP ?_; clear hw; intro p w hw) | (refine go_newW ?_; clear hw; intro w hw) | (refine go_newS ?_; clear hw; intro s w hw))
  refine st_buildSlice (T := tInt) [0, 0] [.int .i64 0, .int .i64 0] rfl rfl rfl rfl rfl (Nat.le_of_ble_eq_true rfl) (Nat.zero_lt_succ _) (Nat.le_of_ble_eq_true rfl) hw ?_
  clear hw
  intro u3 w hw
  repeat (first | refine go_run ?_ | (refine go_newP ?_; clear hw; intro p w hw) | (refine go_newW ?_; clear hw; intro w hw) | (refine go_newS ?_; clear hw; intro s w hw))
  refine st_call rfl (PValue_spec (p := p) (sv := u3) (s := [0, 0]) (hw.rdE 5 rfl) exSRun (by decide) exSPe (rsO hw)) ?_
  rintro _ w' ⟨rfl, hk'⟩
  replace hw := hw.call0 hk'
  clear hk'
  rw [exSV (by decide) rfl (by decide)]
  refine ⟨_, rfl, ?_⟩
  repeat (first | refine go_run ?_ | (refine go_newP ?_; clear hw; intro p w hw) | (refine go_newW ?_; clear hw; intro w hw) | (refine go_newS ?_; clear hw; intro s w hw))
  refine st_buildSlice (T := tInt) [0, 1] [.int .i64 0, .int .i64 1] rfl rfl rfl rfl rfl (Nat.le_of_ble_eq_true rfl) (Nat.zero_lt_succ _) (Nat.le_of_ble_eq_true rfl) hw ?_
  clear hw
  intro u4 w hw
  repeat (first | refine go_run ?_ | (refine go_newP ?_; clear hw; intro p w hw) | (refine go_newW ?_; clear hw; intro w hw) | (refine go_newS ?_; clear hw; intro s w hw))
  refine st_call rfl (PValue_spec (p := p) (sv := u4) (s := [0, 1]) (hw.rdE 6 rfl) exSRun (by decide) exSPe (rsO hw)) ?_
  rintro _ w' ⟨rfl, hk'⟩
  replace hw := hw.call0 hk'
  clear hk'
  rw [exSV (by decide) rfl (by decide)]
  refine ⟨_, rfl, ?_⟩
  repeat (first | refine go_run ?_ | (refine go_newP ?_; clear hw; intro p w hw) | (refine go_newW ?_; clear hw; intro w hw) | (refine go_newS ?_; clear hw; intro s w hw))
  exact res_one (v := .bool true) rfl rfl ⟨rfl, sat_none hw⟩
end Go.Proofs.Ytnoiagnmbipppaa
