
/-
  The example with which each statement of layer 50 begins.
-/
import Derived.Test.YtkmbenhffledpaaGreatWRun
import Derived.Test.YtkmbenhffledpaaGreatMW6
set_option linter.unusedSimpArgs false
set_option linter.unusedVariables false
namespace Go.Proofs.YtkmbenhffledpaaGreat
open Go.Sl Go
attribute [local irreducible] vc opsW opsD opV opW PureV ReadV Thn Blk
def exOpI (k : Int) : TOp := ⟨ByteArray.empty, 2, [⟨0, k⟩], [⟨[], 0, k + 1⟩]⟩
def exIT : TTask := ⟨[4], [0], [⟨0, 3⟩], [exOpI 0, exOpI 1, exOpI 2]⟩
/-- Operators are read, one by one. -/
def OpsI (vs : List OpV) (os : List TOp) (w : World) : Prop := vs.length = os.length ∧ ∀ i, i < os.length → ROp w (eget tOp vs i) (os.getD i dOp)
theorem OpsI.snoc {vs : List OpV} {os : List TOp} {v : OpV} {o : TOp} {w : World} (h : OpsI vs os w) (hv : ROp w v o) : OpsI (vs ++ [v]) (os ++ [o]) w := by
  refine ⟨by simp [h.1], fun i hi => ?_⟩
  have hl := h.1
  rw [eget_eq]
  by_cases hk : i < os.length
  · have h1 : (vs ++ [v]).getD i tOp.dflt = vs.getD i tOp.dflt := by simp [List.getD_eq_getElem?_getD, List.getElem?_append_left (show i < vs.length by omega)]
    have h2 : (os ++ [o]).getD i dOp = os.getD i dOp := by simp [List.getD_eq_getElem?_getD, List.getElem?_append_left hk]
    rw [h1, h2, ← eget_eq]
    exact h.2 i hk
  · have hi' : i = os.length := by simp at hi; omega
    subst hi'
    have h1 : (vs ++ [v]).getD os.length tOp.dflt = v := by rw [← hl]; simp [List.getD_eq_getElem?_getD]
    have h2 : (os ++ [o]).getD os.length dOp = o := by simp [List.getD_eq_getElem?_getD]
    rw [h1, h2]
    exact hv
/-- An operator of one fact and one effect without a condition. -/
theorem irop {w0 w : World} {pv ev : Value} {cost x k : Int} (hw : Sat w0 w [OS tEff 80 ev [⟨.slice none 0 0, 0, k⟩], OS tFact 77 pv [⟨0, x⟩]]) : ROp w ⟨ByteArray.empty, cost, pv, ev⟩ ⟨ByteArray.empty, cost, [⟨0, x⟩], [⟨[], 0, k⟩]⟩ := by
  refine ⟨rfl, Nat.le_of_ble_eq_true rfl, rfl, hw.rs 1 rfl, [⟨.slice none 0 0, 0, k⟩], hw.rs 0 rfl, rfl, fun j hj => ?_⟩
  have h0 : j = 0 := by simp at hj; exact hj
  subst h0
  rw [eget_eq]
  exact ⟨rfl, rfl, RS.nil⟩
set_option maxRecDepth 8000 in
set_option maxHeartbeats 4000000 in
theorem iexample_spec {w0 : World} :
    Calls Tryz.prog 44 #[] w0 fun e w' => ∃ a b c d vs, e = .returned (.agg #[a, b, c, d]) ∧ RTask w' a b c d vs exIT ∧ Sat w0 w' [] := by
  have hw := Sat.start w0
  refine calls_of_vc (args := []) mixed Tryz.func44 rfl (by kernel_rfl) (Nat.le_of_ble_eq_true rfl) ?_
  repeat (first | refine go_run ?_ | (refine go_newP ?_; clear hw; intro p w hw) | (refine go_newW ?_; clear hw; intro w hw) | (refine go_newS ?_; clear hw; intro s w hw))
  obtain ⟨p0, hp0⟩ : ∃ p0, p0 = p := ⟨p, rfl⟩
  subst hp0
  obtain ⟨s4, hs4⟩ : ∃ s4, s4 = s := ⟨s, rfl⟩
  subst hs4
  refine st_buildSlice1 tFact (x1 := ⟨0, 3⟩) rfl rfl rfl (Nat.le_of_ble_eq_true rfl) (Nat.zero_lt_succ _) hw ?_
  clear hw
  intro s6 w hw
  obtain ⟨s3, hs3⟩ : ∃ s3, s3 = s := ⟨s, rfl⟩
  subst hs3
  have o6 := (hw.rs 0 rfl).one
  have o4 := (hw.rs 1 rfl).one
  have o3 := (hw.rs 2 rfl).one
  refine st_build3 (v1 := s3) (v2 := s4) (v3 := s6) rfl rfl rfl rfl (by simp only [List.all_cons, List.all_nil, o3, o4, o6]; rfl) ?_
  refine go_alloc ?_
  clear hw
  intro p1 w hw
  refine st_boxAgg (n := 4) (p := p1) (vs := [s3, s4, s6, .slice none 0 0]) rfl rfl hw inferInstance rfl rfl (by simp only [List.all_cons, List.all_nil, o3, o4, o6]; rfl) ?_
  clear hw
  intro w hw
  repeat (first | refine go_run ?_ | (refine go_newP ?_; clear hw; intro p w hw) | (refine go_newW ?_; clear hw; intro w hw) | (refine go_newS ?_; clear hw; intro s w hw))
  have hw1 := hw.nil (T := tOp) (e := 56)
  replace hw1 := Sat.rd0 (φ := OpsI [] []) (fun w => ⟨rfl, fun i hi => absurd hi (Nat.not_lt_zero _)⟩) hw1
  clear hw
  refine vc_loop3 [2, 8, 9, 10, 11, 12, 13, 14, 15, 16, 17, 18, 19, 20, 21, 22, 23, 24] (G := Nat) (H := Value) (I := List OpV) (fun k _ _ => [(8, .int .i64 k)]) (fun k ov vs w => k ≤ 3 ∧ vs.length = k ∧ Sat w0 w [OS tOp 56 ov vs, RdH (OpsI vs (exIT.ops.take k)), Box p1 26 [s3, s4, s6, ov], OS tFact 77 s6 [⟨0, 3⟩], OS tInt 3 s4 [0], OS tInt 3 s3 [4], Box p0 26 [.slice none 0 0, .slice none 0 0, .slice none 0 0, .slice none 0 0]]) (fun k _ _ => 3 - k) 0 (.slice none 0 0) [] (fun _ _ _ => rfl) ⟨rfl, trivial⟩ ⟨Nat.zero_le _, rfl, hw1.swap⟩ ?_
  clear hw1
  rintro σ k ov vs w ⟨hk, hvl, hw⟩
  repeat (first | refine go_run ?_ | (refine go_newP ?_; clear hw; intro p w hw) | (refine go_newW ?_; clear hw; intro w hw) | (refine go_newS ?_; clear hw; intro s w hw))
  refine go_if (fun h1 => ?_) (fun h1 => ?_)
  · repeat (first | refine go_run ?_ | (refine go_newP ?_; clear hw; intro p w hw) | (refine go_newW ?_; clear hw; intro w hw) | (refine go_newS ?_; clear hw; intro s w hw))
    refine st_buildSlice1 tFact (x1 := ⟨0, k⟩) rfl rfl rfl (Nat.le_of_ble_eq_true rfl) (Nat.zero_lt_succ _) hw ?_
    clear hw
    intro sp w hw
    repeat (first | refine go_run ?_ | (refine go_newP ?_; clear hw; intro p w hw) | (refine go_newW ?_; clear hw; intro w hw) | (refine go_newS ?_; clear hw; intro s w hw))
    refine st_buildSlice1 tEff (x1 := ⟨.slice none 0 0, 0, (k : Int) + 1⟩) rfl rfl rfl (Nat.le_of_ble_eq_true rfl) (Nat.zero_lt_succ _) hw ?_
    clear hw
    intro se w hw
    have op := (hw.rs 1 rfl).one
    have oe := (hw.rs 0 rfl).one
    refine st_build3 (v1 := .int .i64 2) (v2 := sp) (v3 := se) rfl rfl rfl rfl (by simp only [List.all_cons, List.all_nil, op, oe]; rfl) ?_
    refine st_buildSlice1 tOp (x1 := ⟨ByteArray.empty, 2, sp, se⟩) rfl rfl rfl (Nat.le_of_ble_eq_true rfl) (Nat.zero_lt_succ _) hw ?_
    clear hw
    intro so w hw
    refine st_append (s := ov) (s2 := so) inferInstance rfl rfl (rsO hw) rfl rfl (fun x hx v hv => ?_) (by simp only [List.length_cons, List.length_nil]; omega) (by unfold big; simp only [List.length_cons, List.length_nil]; omega) hw ?_
    · rw [List.mem_singleton.1 hx] at hv
      simp only [tOp, List.mem_cons, List.not_mem_nil, or_false] at hv
      rcases hv with rfl | rfl | rfl | rfl
      · rfl
      · rfl
      · exact op
      · exact oe
    clear hw
    intro ov2 w hw
    have o2 := (hw.rs 3 rfl).one
    repeat (first | refine go_run ?_ | (refine go_newP ?_; clear hw; intro p w hw) | (refine go_newW ?_; clear hw; intro w hw) | (refine go_newS ?_; clear hw; intro s w hw))
    have hk3 : (exIT.ops.take (k + 1)) = exIT.ops.take k ++ [⟨ByteArray.empty, 2, [⟨0, k⟩], [⟨[], 0, (k : Int) + 1⟩]⟩] := by
      have : k = 0 ∨ k = 1 ∨ k = 2 := by omega
      rcases this with rfl | rfl | rfl <;> rfl
    have hw1 : Sat w0 w ([OS tEff 80 se [⟨.slice none 0 0, 0, (k : Int) + 1⟩], OS tFact 77 sp [⟨0, k⟩], RdH (OpsI vs (exIT.ops.take k)), OS tOp 56 ov2 (vs ++ [⟨ByteArray.empty, 2, sp, se⟩]), Box p1 26 [s3, s4, s6, ov2], OS tFact 77 s6 [⟨0, 3⟩], OS tInt 3 s4 [0], OS tInt 3 s3 [4], Box p0 26 [.slice none 0 0, .slice none 0 0, .slice none 0 0, .slice none 0 0]]) := by
      have hw2 : Sat w0 w [OS tOp 56 so [⟨ByteArray.empty, 2, sp, se⟩], OS tEff 80 se [⟨.slice none 0 0, 0, (k : Int) + 1⟩], OS tFact 77 sp [⟨0, k⟩], OS tOp 56 ov2 (vs ++ [⟨ByteArray.empty, 2, sp, se⟩]), RdH (OpsI vs (exIT.ops.take k)), Box p1 26 [s3, s4, s6, ov2], OS tFact 77 s6 [⟨0, 3⟩], OS tInt 3 s4 [0], OS tInt 3 s3 [4], Box p0 26 [.slice none 0 0, .slice none 0 0, .slice none 0 0, .slice none 0 0]] := hw
      exact hw2.sel
    clear hw
    have hw3 := Sat.rd2 (χ := OpsI (vs ++ [⟨ByteArray.empty, 2, sp, se⟩]) (exIT.ops.take (k + 1))) (fun w h1 h2 => by rw [hk3]; exact h2.snoc h1) (Sat.rd (φ := fun w => ROp w ⟨ByteArray.empty, 2, sp, se⟩ ⟨ByteArray.empty, 2, [⟨0, k⟩], [⟨[], 0, (k : Int) + 1⟩]⟩) (Δ := [OS tEff 80 se [⟨.slice none 0 0, 0, (k : Int) + 1⟩], OS tFact 77 sp [⟨0, k⟩]]) (fun _ _ hw => irop hw) hw1)
    exact ⟨k + 1, ov2, vs ++ [⟨ByteArray.empty, 2, sp, se⟩], ⟨rfl, trivial⟩, by repeat (first | exact agree_refl | (apply agree_upd rfl) | (apply agree_mix rfl) | (apply agree_sets rfl)), ⟨by omega, by rw [List.length_append, hvl]; rfl, hw3.sel⟩, by omega⟩
  have hk3 : k = 3 := by omega
  subst hk3
  repeat (first | refine go_run ?_ | (refine go_newP ?_; clear hw; intro p w hw) | (refine go_newW ?_; clear hw; intro w hw) | (refine go_newS ?_; clear hw; intro s w hw))
  refine st_boxAgg (n := 4) (p := p0) (vs := [s3, s4, s6, ov]) rfl rfl hw inferInstance rfl rfl (by simp only [List.all_cons, List.all_nil, o3, o4, o6, (rsO (s := ov) hw).one]; rfl) ?_
  clear hw
  intro w hw
  repeat (first | refine go_run ?_ | (refine go_newP ?_; clear hw; intro p w hw) | (refine go_newW ?_; clear hw; intro w hw) | (refine go_newS ?_; clear hw; intro s w hw))
  have hops : OpsI vs exIT.ops w := hw.rdE 1 rfl
  refine res_cell (p := p0) (vs := [s3, s4, s6, ov]) rfl rfl rfl (fun j v hv => box_cell (i := 6) hw rfl hv) ⟨s3, s4, s6, ov, vs, rfl, ⟨hw.rs 5 rfl, hw.rs 4 rfl, hw.rs 3 rfl, ⟨hw.rs 0 rfl, hops.1, hops.2⟩⟩, sat_none hw⟩
end Go.Proofs.YtkmbenhffledpaaGreat
